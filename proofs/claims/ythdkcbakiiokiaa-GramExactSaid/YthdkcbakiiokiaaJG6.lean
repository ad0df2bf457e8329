/- Steps through functions of the program. -/
import Derived.Test.YthdkcbakiiokiaaJG5
import Derived.Test.YthdkcbakiiokiaaL1
set_option linter.unusedVariables false
set_option linter.unusedSimpArgs false
set_option maxRecDepth 100000
set_option maxHeartbeats 4000000
namespace Go.Proofs.Ythdkcbakiiokiaa
open Go.K Go.K.Rep

namespace F10
noncomputable def c0 : Code := bodyOf Try.f10
noncomputable def c1 : Code := cl c0
noncomputable def o0 : Array Oper := rops c1
noncomputable def c2 : Code := cr c0
noncomputable def c3 : Code := cl c2
noncomputable def c4 : Code := cl c3
noncomputable def o1 : Array Oper := rops c4
noncomputable def c5 : Code := cr c3
noncomputable def c6 : Code := cl c5
noncomputable def c7 : Code := cl c6
noncomputable def c8 : Code := cl c7
noncomputable def c9 : Code := cl c8
noncomputable def o2 : Array Oper := rops c9
noncomputable def c10 : Code := cr c8
noncomputable def c11 : Code := cl c10
noncomputable def c12 : Code := cr c10
noncomputable def c13 : Code := cr c7
noncomputable def c14 : Code := cl c13
noncomputable def c15 : Code := cl c14
noncomputable def c16 : Code := cl c15
noncomputable def o4 : Array Oper := rops c16
noncomputable def c17 : Code := cr c15
noncomputable def c18 : Code := cl c17
noncomputable def c19 : Code := cl c18
noncomputable def o5 : Array Oper := rops c19
noncomputable def c20 : Code := cr c18
noncomputable def c21 : Code := cr c17
noncomputable def c22 : Code := cr c13
noncomputable def o3 : Array Oper := rops c22
noncomputable def c23 : Code := cr c2
noncomputable def c24 : Code := cl c23
noncomputable def o6 : Array Oper := rops c24
noncomputable def c25 : Code := cr c23
end F10
theorem short_ok {w₀ : World} {M : Nat → Prop} {xs : List Tx} {vx : Value} (hx : RV w₀ M xs vx) : Calls Try.prog 10 #[vx] w₀ (Ret fun v w' => v = .bool (decide (∀ x ∈ xs, x.l.length ≤ 200)) ∧ w' = w₀) := by
  refine calls_start (c := F10.c0) (N := 16) [vx] Try.func10 (by kernel_rfl) (by kernel_rfl) (by kernel_rfl) ?_
  show Run _ _ _ _ [(0, vx)] _ _
  refine run_seq (x := F10.c1) (y := F10.c2) (by kernel_rfl) ?_
  refine run_plain (id := 0) (ops := F10.o0) [(0, true)] (by kernel_rfl) (by kernel_rfl) ?_
  refine yS (by kernel_rfl : opAt F10.o0 0 = some (some 2, .assign (.const (.bool false)), none)) rfl rfl (fun w' hS => val_assign rfl) ?_
  refine Sch.nil ?_
  refine run_seq (x := F10.c3) (y := F10.c23) (by kernel_rfl) ?_
  refine run_seq (x := F10.c4) (y := F10.c5) (by kernel_rfl) ?_
  refine run_plain (id := 1) (ops := F10.o1) [(0, true)] (by kernel_rfl) (by kernel_rfl) ?_
  refine yS (by kernel_rfl : opAt F10.o1 0 = some (some 3, .assign (.const (.int .i64 0)), none)) rfl rfl (fun w' hS => val_assign rfl) ?_
  refine Sch.nil ?_
  refine run_block (x := F10.c6) (id := 0) (by kernel_rfl) ?_
  
  refine run_loop (ι := Nat) (I := fun x w => x ≤ xs.length ∧ (∀ q (h1 : q < xs.length), q < x → (xs[q]).l.length ≤ 200) ∧ w = w₀) (e := fun x => [(0, vx), (3, .int .i64 x)]) (m := fun x => xs.length - x) (x₀ := 0) (body := F10.c7) (by kernel_rfl) (sub_cons 0 rfl rfl (sub_cons 3 rfl rfl (sub_nil _))) ?_ ?_
  · exact ⟨Nat.zero_le _, (fun q _ hq => by first | omega | (simp only at hq; omega)), rfl⟩
  intro i w1 hI next
  obtain ⟨hi, h0, rfl⟩ := hI
  try simp only at hi h0
  have next1 := next
  clear next
  show Run _ _ _ _ [(0, vx), (3, .int .i64 i)] _ _
  have hle := hx.le
  refine run_seq (x := F10.c8) (y := F10.c13) (by kernel_rfl) ?_
  refine run_seq (x := F10.c9) (y := F10.c10) (by kernel_rfl) ?_
  refine run_plain (id := 2) (ops := F10.o2) [(0, true), (1, true), (2, true), (3, true)] (by kernel_rfl) (by kernel_rfl) ?_
  refine yS (by kernel_rfl : opAt F10.o2 0 = some (some 4, .move (.tmp 3), none)) rfl rfl (fun w' hS => val_move rfl) ?_
  refine yS (by kernel_rfl : opAt F10.o2 1 = some (some 5, .move (.tmp 0), none)) rfl rfl (fun w' hS => val_move rfl) ?_
  refine yS (by kernel_rfl : opAt F10.o2 2 = some (some 6, .call { callee := .builtin .len, args := #[(.tmp 5)], argTypes := #[23] }, none)) rfl rfl (fun w' hS => hx.lenV rfl Try.underlying23 w' ) ?_
  refine yS (by kernel_rfl : opAt F10.o2 3 = some (some 7, .binOp .lss 3 (.tmp 4) (.tmp 6) 3, none)) rfl rfl (fun w' hS => val_lss rfl rfl) ?_
  refine Sch.nil ?_
  refine run_if (x := F10.c11) (y := F10.c12) (o := .tmp 7) (by kernel_rfl) rfl (fun h7 => ?_) (fun h7 => ?_)
  · skip
    have hil : i < xs.length := by omega
    refine run_skip (by kernel_rfl) ?_
    refine run_seq (x := F10.c14) (y := F10.c22) (by kernel_rfl) ?_
    refine run_block (x := F10.c15) (id := 1) (by kernel_rfl) ?_
    refine run_seq (x := F10.c16) (y := F10.c17) (by kernel_rfl) ?_
    refine run_plain (id := 4) (ops := F10.o4) [(0, true), (1, true), (2, true), (3, false), (4, true), (5, true)] (by kernel_rfl) (by kernel_rfl) ?_
    refine yS (by kernel_rfl : opAt F10.o4 0 = some (some 10, .move (.tmp 0), none)) rfl rfl (fun w' hS => val_move rfl) ?_
    refine yS (by kernel_rfl : opAt F10.o4 1 = some (some 11, .move (.tmp 3), none)) rfl rfl (fun w' hS => val_move rfl) ?_
    refine iS (e := 9) (by kernel_rfl : opAt F10.o4 2 = some (some 12, .indexAddr 23 (.tmp 10) (.tmp 11), none)) rfl rfl hx rfl (by kernel_rfl) rfl (by omega) (by omega) ?_
    intro b12 o12 h12
    try simp only [Int.toNat_natCast] at h12
    refine lN (by kernel_rfl : opAt F10.o4 3 = some (some 13, .load 9 (.tmp 12), none)) rfl rfl trivial h12 (by kernel_rfl) rfl rfl ?_
    intro v13 g13
    obtain ⟨rfl, hb13⟩ := rv_tx.1 g13
    refine yS (by kernel_rfl : opAt F10.o4 4 = some (some 14, .call { callee := .builtin .len, args := #[(.tmp 13)], argTypes := #[9] }, none)) rfl rfl (fun w' hS => val_lenT rfl Try.underlying9) ?_
    refine yS (by kernel_rfl : opAt F10.o4 5 = some (some 15, .binOp .gtr 3 (.tmp 14) (.const (.int .i64 200)) 3, none)) rfl rfl (fun w' hS => val_gtr rfl rfl) ?_
    refine Sch.nil ?_
    refine run_if (x := F10.c18) (y := F10.c21) (o := .tmp 15) (by kernel_rfl) rfl (fun h15 => ?_) (fun h15 => ?_)
    · skip
      refine run_seq (x := F10.c19) (y := F10.c20) (by kernel_rfl) ?_
      refine run_plain (id := 5) (ops := F10.o5) [(0, true)] (by kernel_rfl) (by kernel_rfl) ?_
      refine yS (by kernel_rfl : opAt F10.o5 0 = some (some 2, .assign (.const (.bool false)), none)) rfl rfl (fun w' hS => val_assign rfl) ?_
      refine Sch.nil ?_
      refine run_ret1 (by kernel_rfl) Try.func10 Try.results10 rfl ?_
      exact ⟨by rw [decide_eq_false (fun e => by have := e _ (List.getElem_mem hil); omega)], rfl⟩
    · skip
      refine run_skip (by kernel_rfl) ?_
      refine run_inBlock ?_
      refine run_plain (id := 3) (ops := F10.o3) [(0, true), (1, true), (2, true)] (by kernel_rfl) (by kernel_rfl) ?_
      refine yS (by kernel_rfl : opAt F10.o3 0 = some (some 8, .move (.tmp 3), none)) rfl rfl (fun w' hS => val_move rfl) ?_
      refine yS (by kernel_rfl : opAt F10.o3 1 = some (some 9, .binOp .add 3 (.tmp 8) (.const (.int .i64 1)) 3, none)) rfl rfl (fun w' hS => val_addi rfl rfl (by omega) (by omega)) ?_
      refine yS (by kernel_rfl : opAt F10.o3 2 = some (some 3, .assign (.tmp 9), none)) rfl rfl (fun w' hS => val_assign rfl) ?_
      refine Sch.nil ?_
      refine kp (sub_cons 0 rfl rfl (sub_cons 3 rfl (eq_int (by simp)) (sub_nil _))) (next1 (i + 1) _ ⟨(by first | omega | (simp only; omega)), (fun q h1 hq => by
          try simp only at hq
          by_cases e : q = i
          · subst e; omega
          · exact h0 q h1 (by omega)), rfl⟩ (by first | omega | (simp only; omega)))
  · skip
    have hil : i = xs.length := by omega
    refine run_exit (id := 0) (by kernel_rfl) rfl ?_
    refine run_seq (x := F10.c24) (y := F10.c25) (by kernel_rfl) ?_
    refine run_plain (id := 6) (ops := F10.o6) [(0, true)] (by kernel_rfl) (by kernel_rfl) ?_
    refine yS (by kernel_rfl : opAt F10.o6 0 = some (some 2, .assign (.const (.bool true)), none)) rfl rfl (fun w' hS => val_assign rfl) ?_
    refine Sch.nil ?_
    refine run_ret1 (by kernel_rfl) Try.func10 Try.results10 rfl ?_
    exact ⟨by rw [decide_eq_true (fun x hx => by obtain ⟨q, hq, rfl⟩ := List.getElem_of_mem hx; exact h0 q hq (by omega))], rfl⟩
namespace F28
noncomputable def c0 : Code := bodyOf Try.f28
noncomputable def c1 : Code := cl c0
noncomputable def o0 : Array Oper := rops c1
noncomputable def c2 : Code := cr c0
noncomputable def c3 : Code := cl c2
noncomputable def c4 : Code := cl c3
noncomputable def o1 : Array Oper := rops c4
noncomputable def c5 : Code := cr c3
noncomputable def c6 : Code := cl c5
noncomputable def c7 : Code := cl c6
noncomputable def o2 : Array Oper := rops c7
noncomputable def c8 : Code := cr c6
noncomputable def c9 : Code := cr c5
noncomputable def c10 : Code := cr c2
noncomputable def c11 : Code := cl c10
noncomputable def c12 : Code := cl c11
noncomputable def o3 : Array Oper := rops c12
noncomputable def c13 : Code := cr c11
noncomputable def c14 : Code := cl c13
noncomputable def c15 : Code := cl c14
noncomputable def c16 : Code := cl c15
noncomputable def c17 : Code := cl c16
noncomputable def o4 : Array Oper := rops c17
noncomputable def c18 : Code := cr c16
noncomputable def c19 : Code := cl c18
noncomputable def c20 : Code := cr c18
noncomputable def c21 : Code := cr c15
noncomputable def c22 : Code := cl c21
noncomputable def c23 : Code := cl c22
noncomputable def c24 : Code := cl c23
noncomputable def c25 : Code := cl c24
noncomputable def o6 : Array Oper := rops c25
noncomputable def c26 : Code := cr c24
noncomputable def c27 : Code := cl c26
noncomputable def c28 : Code := cr c26
noncomputable def c29 : Code := cr c23
noncomputable def c30 : Code := cl c29
noncomputable def c31 : Code := cl c30
noncomputable def o7 : Array Oper := rops c31
noncomputable def c32 : Code := cr c30
noncomputable def c33 : Code := cl c32
noncomputable def c34 : Code := cl c33
noncomputable def o8 : Array Oper := rops c34
noncomputable def c35 : Code := cr c33
noncomputable def c36 : Code := cr c32
noncomputable def c37 : Code := cr c29
noncomputable def o9 : Array Oper := rops c37
noncomputable def c38 : Code := cr c21
noncomputable def o5 : Array Oper := rops c38
noncomputable def c39 : Code := cr c10
noncomputable def c40 : Code := cl c39
noncomputable def o10 : Array Oper := rops c40
noncomputable def c41 : Code := cr c39
end F28
theorem valid_okW {w₀ : World} {C : Nat → Nat} {s : List UInt8} (hF : Lim w₀ C) (hb : s.length ≤ 4294967296) : Calls Try.prog 28 #[bs s] w₀ (Ret fun v w' => v = .bool (validT s) ∧ Stp [] w₀ C w' C) := by
  have hF0 := hF
  have hT := Stp.refl [2, 3, 4, 5, 6, 7, 8, 9] w₀ (col1 C)
  replace hF := hF.col1
  refine calls_start (c := F28.c0) (N := 50) [bs s] Try.func28 (by kernel_rfl) (by kernel_rfl) (by kernel_rfl) ?_
  show Run _ _ _ _ [(0, bs s)] _ _
  refine run_seq (x := F28.c1) (y := F28.c2) (by kernel_rfl) ?_
  refine run_plain (id := 0) (ops := F28.o0) [(0, true)] (by kernel_rfl) (by kernel_rfl) ?_
  refine yS (by kernel_rfl : opAt F28.o0 0 = some (some 2, .assign (.const (.bool false)), none)) rfl rfl (fun w' hS => val_assign rfl) ?_
  refine Sch.nil ?_
  refine run_seq (x := F28.c3) (y := F28.c10) (by kernel_rfl) ?_
  refine run_seq (x := F28.c4) (y := F28.c5) (by kernel_rfl) ?_
  refine run_plain (id := 1) (ops := F28.o1) [(0, true), (1, true), (2, true)] (by kernel_rfl) (by kernel_rfl) ?_
  refine yS (by kernel_rfl : opAt F28.o1 0 = some (some 4, .move (.tmp 0), none)) rfl rfl (fun w' hS => val_move rfl) ?_
  refine yS (by kernel_rfl : opAt F28.o1 1 = some (some 5, .call { callee := .builtin .len, args := #[(.tmp 4)], argTypes := #[9] }, none)) rfl rfl (fun w' hS => val_lenT rfl Try.underlying9) ?_
  refine yS (by kernel_rfl : opAt F28.o1 2 = some (some 6, .binOp .gtr 3 (.tmp 5) (.const (.int .i64 64)) 3, none)) rfl rfl (fun w' hS => val_gtr rfl rfl) ?_
  refine Sch.nil ?_
  refine run_if (x := F28.c6) (y := F28.c9) (o := .tmp 6) (by kernel_rfl) rfl (fun h6 => ?_) (fun h6 => ?_)
  · skip
    refine run_seq (x := F28.c7) (y := F28.c8) (by kernel_rfl) ?_
    refine run_plain (id := 2) (ops := F28.o2) [(0, true)] (by kernel_rfl) (by kernel_rfl) ?_
    refine yS (by kernel_rfl : opAt F28.o2 0 = some (some 2, .assign (.const (.bool false)), none)) rfl rfl (fun w' hS => val_assign rfl) ?_
    refine Sch.nil ?_
    refine run_ret1 (by kernel_rfl) Try.func28 Try.results28 rfl ?_
    exact ⟨by unfold validT; rw [decide_eq_false (show ¬ s.length ≤ 64 by omega)]; rfl, hT.out1 (by decide)⟩
  · skip
    have h64 : s.length ≤ 64 := by omega
    refine run_skip (by kernel_rfl) ?_
    refine run_seq (x := F28.c11) (y := F28.c39) (by kernel_rfl) ?_
    refine run_seq (x := F28.c12) (y := F28.c13) (by kernel_rfl) ?_
    refine run_plain (id := 3) (ops := F28.o3) [(0, true)] (by kernel_rfl) (by kernel_rfl) ?_
    refine yS (by kernel_rfl : opAt F28.o3 0 = some (some 3, .assign (.const (.int .i64 0)), none)) rfl rfl (fun w' hS => val_assign rfl) ?_
    refine Sch.nil ?_
    refine run_block (x := F28.c14) (id := 0) (by kernel_rfl) ?_
    
    refine run_loop (ι := Nat × (Nat → Nat)) (I := fun x w => x.1 ≤ s.length ∧ validGo s = validGo (s.drop x.1) ∧ Lim w x.2 ∧ Stp [2, 3, 4, 5, 6, 7, 8, 9] w₀ (col1 C) w x.2) (e := fun x => [(0, bs s), (3, .int .i64 x.1)]) (m := fun x => s.length - x.1) (x₀ := (0, col1 C)) (body := F28.c15) (by kernel_rfl) (sub_cons 0 rfl rfl (sub_cons 3 rfl rfl (sub_nil _))) ?_ ?_
    · exact ⟨Nat.zero_le _, rfl, hF, hT⟩
    intro ⟨i, C1⟩ w1 hI next
    obtain ⟨hi, hv, hF, hT⟩ := hI
    try simp only at hi hv hF hT
    have next1 := next
    clear next
    show Run _ _ _ _ [(0, bs s), (3, .int .i64 i)] _ _
    refine run_seq (x := F28.c16) (y := F28.c21) (by kernel_rfl) ?_
    refine run_seq (x := F28.c17) (y := F28.c18) (by kernel_rfl) ?_
    refine run_plain (id := 4) (ops := F28.o4) [(0, true), (1, true), (2, true), (3, true)] (by kernel_rfl) (by kernel_rfl) ?_
    refine yS (by kernel_rfl : opAt F28.o4 0 = some (some 7, .move (.tmp 3), none)) rfl rfl (fun w' hS => val_move rfl) ?_
    refine yS (by kernel_rfl : opAt F28.o4 1 = some (some 8, .move (.tmp 0), none)) rfl rfl (fun w' hS => val_move rfl) ?_
    refine yS (by kernel_rfl : opAt F28.o4 2 = some (some 9, .call { callee := .builtin .len, args := #[(.tmp 8)], argTypes := #[9] }, none)) rfl rfl (fun w' hS => val_lenT rfl Try.underlying9) ?_
    refine yS (by kernel_rfl : opAt F28.o4 3 = some (some 10, .binOp .lss 3 (.tmp 7) (.tmp 9) 3, none)) rfl rfl (fun w' hS => val_lss rfl rfl) ?_
    refine Sch.nil ?_
    refine run_if (x := F28.c19) (y := F28.c20) (o := .tmp 10) (by kernel_rfl) rfl (fun h10 => ?_) (fun h10 => ?_)
    · skip
      have hil : i < s.length := by omega
      refine run_skip (by kernel_rfl) ?_
      refine run_seq (x := F28.c22) (y := F28.c38) (by kernel_rfl) ?_
      refine run_block (x := F28.c23) (id := 1) (by kernel_rfl) ?_
      refine run_seq (x := F28.c24) (y := F28.c29) (by kernel_rfl) ?_
      refine run_seq (x := F28.c25) (y := F28.c26) (by kernel_rfl) ?_
      refine run_cut 22 (decide (okB (s[i]'hil))) (C1) ?_ ?_
      · intro hcut
        by_cases hA : 32 ≤ (s[i]).toNat
        · skip
          refine run_plain (id := 6) (ops := F28.o6) [(0, true), (1, true), (2, true), (3, true), (4, true), (5, true), (6, true), (7, true), (8, true), (9, true)] (by kernel_rfl) (by kernel_rfl) ?_
          refine yS (by kernel_rfl : opAt F28.o6 0 = some (some 13, .move (.tmp 0), none)) rfl rfl (fun w' hS => val_move rfl) ?_
          refine yS (by kernel_rfl : opAt F28.o6 1 = some (some 14, .move (.tmp 3), none)) rfl rfl (fun w' hS => val_move rfl) ?_
          refine yS (by kernel_rfl : opAt F28.o6 2 = some (some 15, .index 9 (.tmp 13) (.tmp 14), none)) rfl rfl (fun w' hS => val_idxN rfl rfl Try.underlying9 (by omega)) ?_
          refine yS (by kernel_rfl : opAt F28.o6 3 = some (some 16, .binOp .geq 5 (.tmp 15) (.const (.int .u8 32)) 5, none)) rfl rfl (fun w' hS => val_T (val_geq rfl rfl) (by omega)) ?_
          refine yS (by kernel_rfl : opAt F28.o6 4 = some (some 17, .move (.tmp 16), none)) rfl rfl (fun w' hS => val_move rfl) ?_
          refine yS (by kernel_rfl : opAt F28.o6 5 = some (some 18, .move (.tmp 0), (some (4, true)))) rfl rfl (fun w' hS => val_move rfl) ?_
          refine yS (by kernel_rfl : opAt F28.o6 6 = some (some 19, .move (.tmp 3), (some (4, true)))) rfl rfl (fun w' hS => val_move rfl) ?_
          refine yS (by kernel_rfl : opAt F28.o6 7 = some (some 20, .index 9 (.tmp 18) (.tmp 19), (some (4, true)))) rfl rfl (fun w' hS => val_idxN rfl rfl Try.underlying9 (by omega)) ?_
          refine yS (by kernel_rfl : opAt F28.o6 8 = some (some 21, .binOp .leq 5 (.tmp 20) (.const (.int .u8 126)) 5, (some (4, true)))) rfl rfl (fun w' hS => val_leq rfl rfl) ?_
          refine yS (by kernel_rfl : opAt F28.o6 9 = some (some 22, .pick (.tmp 17) (.tmp 21) (.const (.bool false)), none)) rfl rfl (fun w' hS => val_pick_t rfl rfl) ?_
          exact Sch.nil (hcut _ _ _ (Stp.refl _ _ _) rfl (eq_bool (decide_eq_decide.2 ⟨fun e => ⟨hA, by omega⟩, fun e => by have := e.2; omega⟩)) (sub_skip rfl (sub_skip rfl (sub_skip rfl (sub_skip rfl (sub_skip rfl (sub_skip rfl (sub_skip rfl (sub_skip rfl (sub_skip rfl (sub_skip rfl (Sub.refl _))))))))))))
        · skip
          refine run_plain (id := 6) (ops := F28.o6) [(0, true), (1, true), (2, true), (3, true), (4, true), (5, true), (6, true), (7, true), (8, true), (9, true)] (by kernel_rfl) (by kernel_rfl) ?_
          refine yS (by kernel_rfl : opAt F28.o6 0 = some (some 13, .move (.tmp 0), none)) rfl rfl (fun w' hS => val_move rfl) ?_
          refine yS (by kernel_rfl : opAt F28.o6 1 = some (some 14, .move (.tmp 3), none)) rfl rfl (fun w' hS => val_move rfl) ?_
          refine yS (by kernel_rfl : opAt F28.o6 2 = some (some 15, .index 9 (.tmp 13) (.tmp 14), none)) rfl rfl (fun w' hS => val_idxN rfl rfl Try.underlying9 (by omega)) ?_
          refine yS (by kernel_rfl : opAt F28.o6 3 = some (some 16, .binOp .geq 5 (.tmp 15) (.const (.int .u8 32)) 5, none)) rfl rfl (fun w' hS => val_F (val_geq rfl rfl) (by omega)) ?_
          refine yS (by kernel_rfl : opAt F28.o6 4 = some (some 17, .move (.tmp 16), none)) rfl rfl (fun w' hS => val_move rfl) ?_
          refine pS (by kernel_rfl : opAt F28.o6 5 = some (some 18, .move (.tmp 0), (some (4, true)))) rfl rfl ?_
          refine pS (by kernel_rfl : opAt F28.o6 6 = some (some 19, .move (.tmp 3), (some (4, true)))) rfl rfl ?_
          refine pS (by kernel_rfl : opAt F28.o6 7 = some (some 20, .index 9 (.tmp 18) (.tmp 19), (some (4, true)))) rfl rfl ?_
          refine pS (by kernel_rfl : opAt F28.o6 8 = some (some 21, .binOp .leq 5 (.tmp 20) (.const (.int .u8 126)) 5, (some (4, true)))) rfl rfl ?_
          refine yS (by kernel_rfl : opAt F28.o6 9 = some (some 22, .pick (.tmp 17) (.tmp 21) (.const (.bool false)), none)) rfl rfl (fun w' hS => val_pick_f rfl rfl) ?_
          exact Sch.nil (hcut _ _ _ (Stp.refl _ _ _) rfl (eq_bool (decide_eq_false (fun e => hA e.1)).symm) (sub_skip rfl (sub_skip rfl (sub_skip rfl (sub_skip rfl (sub_skip rfl (sub_skip rfl (sub_skip rfl (sub_skip rfl (sub_skip rfl (sub_skip rfl (Sub.refl _))))))))))))
      intro w2 hs
      replace hF := hF.st hs
      replace hT := hT.trans hs (by simp)
      refine run_if (x := F28.c27) (y := F28.c28) (o := .tmp 22) (by kernel_rfl) rfl (fun h22 => ?_) (fun h22 => ?_)
      · skip
        refine run_exit (id := 1) (by kernel_rfl) rfl ?_
        refine run_plain (id := 5) (ops := F28.o5) [(0, true), (1, true), (2, true)] (by kernel_rfl) (by kernel_rfl) ?_
        refine yS (by kernel_rfl : opAt F28.o5 0 = some (some 11, .move (.tmp 3), none)) rfl rfl (fun w' hS => val_move rfl) ?_
        refine yS (by kernel_rfl : opAt F28.o5 1 = some (some 12, .binOp .add 3 (.tmp 11) (.const (.int .i64 1)) 3, none)) rfl rfl (fun w' hS => val_addi rfl rfl (by omega) (by omega)) ?_
        refine yS (by kernel_rfl : opAt F28.o5 2 = some (some 3, .assign (.tmp 12), none)) rfl rfl (fun w' hS => val_assign rfl) ?_
        refine Sch.nil ?_
        refine kp (sub_cons 0 rfl rfl (sub_cons 3 rfl (eq_int (by simp)) (sub_nil _))) (next1 (i + 1, C1) _ ⟨(by first | omega | (simp only; omega)), (by rw [hv]; exact valid_ok hil h22), hF, hT⟩ (by first | omega | (simp only; omega)))
      · skip
        refine run_skip (by kernel_rfl) ?_
        refine run_seq (x := F28.c30) (y := F28.c37) (by kernel_rfl) ?_
        refine run_seq (x := F28.c31) (y := F28.c32) (by kernel_rfl) ?_
        refine run_cut 47 (decide (badP s i)) (C1) ?_ ?_
        · intro hcut
          by_cases hA : (s[i]).toNat = 195
          · skip
            by_cases hB : i + 1 = s.length
            · skip
              refine run_plain (id := 7) (ops := F28.o7) [(0, true), (1, true), (2, true), (3, true), (4, true), (5, true), (6, true), (7, true), (8, true), (9, true), (10, true), (11, true), (12, true), (13, true), (14, true), (15, true), (16, true), (17, true), (18, true), (19, true), (20, true), (21, true), (22, true), (23, true), (24, true)] (by kernel_rfl) (by kernel_rfl) ?_
              refine yS (by kernel_rfl : opAt F28.o7 0 = some (some 23, .move (.tmp 0), none)) rfl rfl (fun w' hS => val_move rfl) ?_
              refine yS (by kernel_rfl : opAt F28.o7 1 = some (some 24, .move (.tmp 3), none)) rfl rfl (fun w' hS => val_move rfl) ?_
              refine yS (by kernel_rfl : opAt F28.o7 2 = some (some 25, .index 9 (.tmp 23) (.tmp 24), none)) rfl rfl (fun w' hS => val_idxN (m := i) rfl rfl Try.underlying9 hil) ?_
              refine yS (by kernel_rfl : opAt F28.o7 3 = some (some 26, .binOp .neq 5 (.tmp 25) (.const (.int .u8 195)) 5, none)) rfl rfl (fun w' hS => val_F (val_neq rfl rfl) (by omega)) ?_
              refine yS (by kernel_rfl : opAt F28.o7 4 = some (some 27, .move (.tmp 26), none)) rfl rfl (fun w' hS => val_move rfl) ?_
              refine yS (by kernel_rfl : opAt F28.o7 5 = some (some 28, .move (.tmp 3), (some (4, false)))) rfl rfl (fun w' hS => val_move rfl) ?_
              refine yS (by kernel_rfl : opAt F28.o7 6 = some (some 29, .binOp .add 3 (.tmp 28) (.const (.int .i64 1)) 3, (some (4, false)))) rfl rfl (fun w' hS => val_addi rfl rfl (by omega) (by omega)) ?_
              refine yS (by kernel_rfl : opAt F28.o7 7 = some (some 30, .move (.tmp 0), (some (4, false)))) rfl rfl (fun w' hS => val_move rfl) ?_
              refine yS (by kernel_rfl : opAt F28.o7 8 = some (some 31, .call { callee := .builtin .len, args := #[(.tmp 30)], argTypes := #[9] }, (some (4, false)))) rfl rfl (fun w' hS => val_lenT rfl Try.underlying9) ?_
              refine yS (by kernel_rfl : opAt F28.o7 9 = some (some 32, .binOp .eql 3 (.tmp 29) (.tmp 31) 3, (some (4, false)))) rfl rfl (fun w' hS => val_T (val_eql rfl rfl) (by omega)) ?_
              refine yS (by kernel_rfl : opAt F28.o7 10 = some (some 33, .pick (.tmp 27) (.const (.bool true)) (.tmp 32), none)) rfl rfl (fun w' hS => val_pick_f rfl rfl) ?_
              refine yS (by kernel_rfl : opAt F28.o7 11 = some (some 34, .move (.tmp 33), none)) rfl rfl (fun w' hS => val_move rfl) ?_
              refine pS (by kernel_rfl : opAt F28.o7 12 = some (some 35, .move (.tmp 0), (some (11, false)))) rfl rfl ?_
              refine pS (by kernel_rfl : opAt F28.o7 13 = some (some 36, .move (.tmp 3), (some (11, false)))) rfl rfl ?_
              refine pS (by kernel_rfl : opAt F28.o7 14 = some (some 37, .binOp .add 3 (.tmp 36) (.const (.int .i64 1)) 3, (some (11, false)))) rfl rfl ?_
              refine pS (by kernel_rfl : opAt F28.o7 15 = some (some 38, .index 9 (.tmp 35) (.tmp 37), (some (11, false)))) rfl rfl ?_
              refine pS (by kernel_rfl : opAt F28.o7 16 = some (some 39, .binOp .lss 5 (.tmp 38) (.const (.int .u8 128)) 5, (some (11, false)))) rfl rfl ?_
              refine yS (by kernel_rfl : opAt F28.o7 17 = some (some 40, .pick (.tmp 34) (.const (.bool true)) (.tmp 39), none)) rfl rfl (fun w' hS => val_pick_t rfl rfl) ?_
              refine yS (by kernel_rfl : opAt F28.o7 18 = some (some 41, .move (.tmp 40), none)) rfl rfl (fun w' hS => val_move rfl) ?_
              refine pS (by kernel_rfl : opAt F28.o7 19 = some (some 42, .move (.tmp 0), (some (18, false)))) rfl rfl ?_
              refine pS (by kernel_rfl : opAt F28.o7 20 = some (some 43, .move (.tmp 3), (some (18, false)))) rfl rfl ?_
              refine pS (by kernel_rfl : opAt F28.o7 21 = some (some 44, .binOp .add 3 (.tmp 43) (.const (.int .i64 1)) 3, (some (18, false)))) rfl rfl ?_
              refine pS (by kernel_rfl : opAt F28.o7 22 = some (some 45, .index 9 (.tmp 42) (.tmp 44), (some (18, false)))) rfl rfl ?_
              refine pS (by kernel_rfl : opAt F28.o7 23 = some (some 46, .binOp .gtr 5 (.tmp 45) (.const (.int .u8 191)) 5, (some (18, false)))) rfl rfl ?_
              refine yS (by kernel_rfl : opAt F28.o7 24 = some (some 47, .pick (.tmp 41) (.const (.bool true)) (.tmp 46), none)) rfl rfl (fun w' hS => val_pick_t rfl rfl) ?_
              exact Sch.nil (hcut _ _ _ (Stp.refl _ _ _) rfl (eq_bool (decide_eq_true ⟨hil, .inr (.inl hB)⟩).symm) (sub_skip rfl (sub_skip rfl (sub_skip rfl (sub_skip rfl (sub_skip rfl (sub_skip rfl (sub_skip rfl (sub_skip rfl (sub_skip rfl (sub_skip rfl (sub_skip rfl (sub_skip rfl (sub_skip rfl (sub_skip rfl (sub_skip rfl (sub_skip rfl (sub_skip rfl (sub_skip rfl (sub_skip rfl (sub_skip rfl (sub_skip rfl (sub_skip rfl (sub_skip rfl (sub_skip rfl (sub_skip rfl (Sub.refl _)))))))))))))))))))))))))))
            · skip
              have hil2 : i + 1 < s.length := by omega
              by_cases hC : (s[i + 1]).toNat < 128
              · skip
                refine run_plain (id := 7) (ops := F28.o7) [(0, true), (1, true), (2, true), (3, true), (4, true), (5, true), (6, true), (7, true), (8, true), (9, true), (10, true), (11, true), (12, true), (13, true), (14, true), (15, true), (16, true), (17, true), (18, true), (19, true), (20, true), (21, true), (22, true), (23, true), (24, true)] (by kernel_rfl) (by kernel_rfl) ?_
                refine yS (by kernel_rfl : opAt F28.o7 0 = some (some 23, .move (.tmp 0), none)) rfl rfl (fun w' hS => val_move rfl) ?_
                refine yS (by kernel_rfl : opAt F28.o7 1 = some (some 24, .move (.tmp 3), none)) rfl rfl (fun w' hS => val_move rfl) ?_
                refine yS (by kernel_rfl : opAt F28.o7 2 = some (some 25, .index 9 (.tmp 23) (.tmp 24), none)) rfl rfl (fun w' hS => val_idxN (m := i) rfl rfl Try.underlying9 hil) ?_
                refine yS (by kernel_rfl : opAt F28.o7 3 = some (some 26, .binOp .neq 5 (.tmp 25) (.const (.int .u8 195)) 5, none)) rfl rfl (fun w' hS => val_F (val_neq rfl rfl) (by omega)) ?_
                refine yS (by kernel_rfl : opAt F28.o7 4 = some (some 27, .move (.tmp 26), none)) rfl rfl (fun w' hS => val_move rfl) ?_
                refine yS (by kernel_rfl : opAt F28.o7 5 = some (some 28, .move (.tmp 3), (some (4, false)))) rfl rfl (fun w' hS => val_move rfl) ?_
                refine yS (by kernel_rfl : opAt F28.o7 6 = some (some 29, .binOp .add 3 (.tmp 28) (.const (.int .i64 1)) 3, (some (4, false)))) rfl rfl (fun w' hS => val_addi rfl rfl (by omega) (by omega)) ?_
                refine yS (by kernel_rfl : opAt F28.o7 7 = some (some 30, .move (.tmp 0), (some (4, false)))) rfl rfl (fun w' hS => val_move rfl) ?_
                refine yS (by kernel_rfl : opAt F28.o7 8 = some (some 31, .call { callee := .builtin .len, args := #[(.tmp 30)], argTypes := #[9] }, (some (4, false)))) rfl rfl (fun w' hS => val_lenT rfl Try.underlying9) ?_
                refine yS (by kernel_rfl : opAt F28.o7 9 = some (some 32, .binOp .eql 3 (.tmp 29) (.tmp 31) 3, (some (4, false)))) rfl rfl (fun w' hS => val_F (val_eql rfl rfl) (by omega)) ?_
                refine yS (by kernel_rfl : opAt F28.o7 10 = some (some 33, .pick (.tmp 27) (.const (.bool true)) (.tmp 32), none)) rfl rfl (fun w' hS => val_pick_f rfl rfl) ?_
                refine yS (by kernel_rfl : opAt F28.o7 11 = some (some 34, .move (.tmp 33), none)) rfl rfl (fun w' hS => val_move rfl) ?_
                refine yS (by kernel_rfl : opAt F28.o7 12 = some (some 35, .move (.tmp 0), (some (11, false)))) rfl rfl (fun w' hS => val_move rfl) ?_
                refine yS (by kernel_rfl : opAt F28.o7 13 = some (some 36, .move (.tmp 3), (some (11, false)))) rfl rfl (fun w' hS => val_move rfl) ?_
                refine yS (by kernel_rfl : opAt F28.o7 14 = some (some 37, .binOp .add 3 (.tmp 36) (.const (.int .i64 1)) 3, (some (11, false)))) rfl rfl (fun w' hS => val_addi rfl rfl (by omega) (by omega)) ?_
                refine yS (by kernel_rfl : opAt F28.o7 15 = some (some 38, .index 9 (.tmp 35) (.tmp 37), (some (11, false)))) rfl rfl (fun w' hS => val_idxE (m := (i : Int) + 1) (r := i + 1) rfl rfl Try.underlying9 (by omega) (by omega)) ?_
                refine yS (by kernel_rfl : opAt F28.o7 16 = some (some 39, .binOp .lss 5 (.tmp 38) (.const (.int .u8 128)) 5, (some (11, false)))) rfl rfl (fun w' hS => val_T (val_lss rfl rfl) (by omega)) ?_
                refine yS (by kernel_rfl : opAt F28.o7 17 = some (some 40, .pick (.tmp 34) (.const (.bool true)) (.tmp 39), none)) rfl rfl (fun w' hS => val_pick_f rfl rfl) ?_
                refine yS (by kernel_rfl : opAt F28.o7 18 = some (some 41, .move (.tmp 40), none)) rfl rfl (fun w' hS => val_move rfl) ?_
                refine pS (by kernel_rfl : opAt F28.o7 19 = some (some 42, .move (.tmp 0), (some (18, false)))) rfl rfl ?_
                refine pS (by kernel_rfl : opAt F28.o7 20 = some (some 43, .move (.tmp 3), (some (18, false)))) rfl rfl ?_
                refine pS (by kernel_rfl : opAt F28.o7 21 = some (some 44, .binOp .add 3 (.tmp 43) (.const (.int .i64 1)) 3, (some (18, false)))) rfl rfl ?_
                refine pS (by kernel_rfl : opAt F28.o7 22 = some (some 45, .index 9 (.tmp 42) (.tmp 44), (some (18, false)))) rfl rfl ?_
                refine pS (by kernel_rfl : opAt F28.o7 23 = some (some 46, .binOp .gtr 5 (.tmp 45) (.const (.int .u8 191)) 5, (some (18, false)))) rfl rfl ?_
                refine yS (by kernel_rfl : opAt F28.o7 24 = some (some 47, .pick (.tmp 41) (.const (.bool true)) (.tmp 46), none)) rfl rfl (fun w' hS => val_pick_t rfl rfl) ?_
                exact Sch.nil (hcut _ _ _ (Stp.refl _ _ _) rfl (eq_bool (decide_eq_true ⟨hil, .inr (.inr ⟨hil2, fun e => by have := e.1; omega⟩)⟩).symm) (sub_skip rfl (sub_skip rfl (sub_skip rfl (sub_skip rfl (sub_skip rfl (sub_skip rfl (sub_skip rfl (sub_skip rfl (sub_skip rfl (sub_skip rfl (sub_skip rfl (sub_skip rfl (sub_skip rfl (sub_skip rfl (sub_skip rfl (sub_skip rfl (sub_skip rfl (sub_skip rfl (sub_skip rfl (sub_skip rfl (sub_skip rfl (sub_skip rfl (sub_skip rfl (sub_skip rfl (sub_skip rfl (Sub.refl _)))))))))))))))))))))))))))
              · skip
                refine run_plain (id := 7) (ops := F28.o7) [(0, true), (1, true), (2, true), (3, true), (4, true), (5, true), (6, true), (7, true), (8, true), (9, true), (10, true), (11, true), (12, true), (13, true), (14, true), (15, true), (16, true), (17, true), (18, true), (19, true), (20, true), (21, true), (22, true), (23, true), (24, true)] (by kernel_rfl) (by kernel_rfl) ?_
                refine yS (by kernel_rfl : opAt F28.o7 0 = some (some 23, .move (.tmp 0), none)) rfl rfl (fun w' hS => val_move rfl) ?_
                refine yS (by kernel_rfl : opAt F28.o7 1 = some (some 24, .move (.tmp 3), none)) rfl rfl (fun w' hS => val_move rfl) ?_
                refine yS (by kernel_rfl : opAt F28.o7 2 = some (some 25, .index 9 (.tmp 23) (.tmp 24), none)) rfl rfl (fun w' hS => val_idxN (m := i) rfl rfl Try.underlying9 hil) ?_
                refine yS (by kernel_rfl : opAt F28.o7 3 = some (some 26, .binOp .neq 5 (.tmp 25) (.const (.int .u8 195)) 5, none)) rfl rfl (fun w' hS => val_F (val_neq rfl rfl) (by omega)) ?_
                refine yS (by kernel_rfl : opAt F28.o7 4 = some (some 27, .move (.tmp 26), none)) rfl rfl (fun w' hS => val_move rfl) ?_
                refine yS (by kernel_rfl : opAt F28.o7 5 = some (some 28, .move (.tmp 3), (some (4, false)))) rfl rfl (fun w' hS => val_move rfl) ?_
                refine yS (by kernel_rfl : opAt F28.o7 6 = some (some 29, .binOp .add 3 (.tmp 28) (.const (.int .i64 1)) 3, (some (4, false)))) rfl rfl (fun w' hS => val_addi rfl rfl (by omega) (by omega)) ?_
                refine yS (by kernel_rfl : opAt F28.o7 7 = some (some 30, .move (.tmp 0), (some (4, false)))) rfl rfl (fun w' hS => val_move rfl) ?_
                refine yS (by kernel_rfl : opAt F28.o7 8 = some (some 31, .call { callee := .builtin .len, args := #[(.tmp 30)], argTypes := #[9] }, (some (4, false)))) rfl rfl (fun w' hS => val_lenT rfl Try.underlying9) ?_
                refine yS (by kernel_rfl : opAt F28.o7 9 = some (some 32, .binOp .eql 3 (.tmp 29) (.tmp 31) 3, (some (4, false)))) rfl rfl (fun w' hS => val_F (val_eql rfl rfl) (by omega)) ?_
                refine yS (by kernel_rfl : opAt F28.o7 10 = some (some 33, .pick (.tmp 27) (.const (.bool true)) (.tmp 32), none)) rfl rfl (fun w' hS => val_pick_f rfl rfl) ?_
                refine yS (by kernel_rfl : opAt F28.o7 11 = some (some 34, .move (.tmp 33), none)) rfl rfl (fun w' hS => val_move rfl) ?_
                refine yS (by kernel_rfl : opAt F28.o7 12 = some (some 35, .move (.tmp 0), (some (11, false)))) rfl rfl (fun w' hS => val_move rfl) ?_
                refine yS (by kernel_rfl : opAt F28.o7 13 = some (some 36, .move (.tmp 3), (some (11, false)))) rfl rfl (fun w' hS => val_move rfl) ?_
                refine yS (by kernel_rfl : opAt F28.o7 14 = some (some 37, .binOp .add 3 (.tmp 36) (.const (.int .i64 1)) 3, (some (11, false)))) rfl rfl (fun w' hS => val_addi rfl rfl (by omega) (by omega)) ?_
                refine yS (by kernel_rfl : opAt F28.o7 15 = some (some 38, .index 9 (.tmp 35) (.tmp 37), (some (11, false)))) rfl rfl (fun w' hS => val_idxE (m := (i : Int) + 1) (r := i + 1) rfl rfl Try.underlying9 (by omega) (by omega)) ?_
                refine yS (by kernel_rfl : opAt F28.o7 16 = some (some 39, .binOp .lss 5 (.tmp 38) (.const (.int .u8 128)) 5, (some (11, false)))) rfl rfl (fun w' hS => val_F (val_lss rfl rfl) (by omega)) ?_
                refine yS (by kernel_rfl : opAt F28.o7 17 = some (some 40, .pick (.tmp 34) (.const (.bool true)) (.tmp 39), none)) rfl rfl (fun w' hS => val_pick_f rfl rfl) ?_
                refine yS (by kernel_rfl : opAt F28.o7 18 = some (some 41, .move (.tmp 40), none)) rfl rfl (fun w' hS => val_move rfl) ?_
                refine yS (by kernel_rfl : opAt F28.o7 19 = some (some 42, .move (.tmp 0), (some (18, false)))) rfl rfl (fun w' hS => val_move rfl) ?_
                refine yS (by kernel_rfl : opAt F28.o7 20 = some (some 43, .move (.tmp 3), (some (18, false)))) rfl rfl (fun w' hS => val_move rfl) ?_
                refine yS (by kernel_rfl : opAt F28.o7 21 = some (some 44, .binOp .add 3 (.tmp 43) (.const (.int .i64 1)) 3, (some (18, false)))) rfl rfl (fun w' hS => val_addi rfl rfl (by omega) (by omega)) ?_
                refine yS (by kernel_rfl : opAt F28.o7 22 = some (some 45, .index 9 (.tmp 42) (.tmp 44), (some (18, false)))) rfl rfl (fun w' hS => val_idxE (m := (i : Int) + 1) (r := i + 1) rfl rfl Try.underlying9 (by omega) (by omega)) ?_
                refine yS (by kernel_rfl : opAt F28.o7 23 = some (some 46, .binOp .gtr 5 (.tmp 45) (.const (.int .u8 191)) 5, (some (18, false)))) rfl rfl (fun w' hS => val_gtr rfl rfl) ?_
                refine yS (by kernel_rfl : opAt F28.o7 24 = some (some 47, .pick (.tmp 41) (.const (.bool true)) (.tmp 46), none)) rfl rfl (fun w' hS => val_pick_f rfl rfl) ?_
                exact Sch.nil (hcut _ _ _ (Stp.refl _ _ _) rfl (eq_bool (decide_eq_decide.2 ⟨fun e => ⟨hil, .inr (.inr ⟨hil2, fun e2 => by have := e2.2; omega⟩)⟩, fun e => by
      obtain ⟨_, e | e | ⟨_, e⟩⟩ := e
      · exact absurd hA e
      · exact absurd e hB
      · have : ¬ (s[i + 1]).toNat ≤ 191 := fun e2 => e ⟨by omega, e2⟩
        omega⟩)) (sub_skip rfl (sub_skip rfl (sub_skip rfl (sub_skip rfl (sub_skip rfl (sub_skip rfl (sub_skip rfl (sub_skip rfl (sub_skip rfl (sub_skip rfl (sub_skip rfl (sub_skip rfl (sub_skip rfl (sub_skip rfl (sub_skip rfl (sub_skip rfl (sub_skip rfl (sub_skip rfl (sub_skip rfl (sub_skip rfl (sub_skip rfl (sub_skip rfl (sub_skip rfl (sub_skip rfl (sub_skip rfl (Sub.refl _)))))))))))))))))))))))))))
          · skip
            refine run_plain (id := 7) (ops := F28.o7) [(0, true), (1, true), (2, true), (3, true), (4, true), (5, true), (6, true), (7, true), (8, true), (9, true), (10, true), (11, true), (12, true), (13, true), (14, true), (15, true), (16, true), (17, true), (18, true), (19, true), (20, true), (21, true), (22, true), (23, true), (24, true)] (by kernel_rfl) (by kernel_rfl) ?_
            refine yS (by kernel_rfl : opAt F28.o7 0 = some (some 23, .move (.tmp 0), none)) rfl rfl (fun w' hS => val_move rfl) ?_
            refine yS (by kernel_rfl : opAt F28.o7 1 = some (some 24, .move (.tmp 3), none)) rfl rfl (fun w' hS => val_move rfl) ?_
            refine yS (by kernel_rfl : opAt F28.o7 2 = some (some 25, .index 9 (.tmp 23) (.tmp 24), none)) rfl rfl (fun w' hS => val_idxN (m := i) rfl rfl Try.underlying9 hil) ?_
            refine yS (by kernel_rfl : opAt F28.o7 3 = some (some 26, .binOp .neq 5 (.tmp 25) (.const (.int .u8 195)) 5, none)) rfl rfl (fun w' hS => val_T (val_neq rfl rfl) (by omega)) ?_
            refine yS (by kernel_rfl : opAt F28.o7 4 = some (some 27, .move (.tmp 26), none)) rfl rfl (fun w' hS => val_move rfl) ?_
            refine pS (by kernel_rfl : opAt F28.o7 5 = some (some 28, .move (.tmp 3), (some (4, false)))) rfl rfl ?_
            refine pS (by kernel_rfl : opAt F28.o7 6 = some (some 29, .binOp .add 3 (.tmp 28) (.const (.int .i64 1)) 3, (some (4, false)))) rfl rfl ?_
            refine pS (by kernel_rfl : opAt F28.o7 7 = some (some 30, .move (.tmp 0), (some (4, false)))) rfl rfl ?_
            refine pS (by kernel_rfl : opAt F28.o7 8 = some (some 31, .call { callee := .builtin .len, args := #[(.tmp 30)], argTypes := #[9] }, (some (4, false)))) rfl rfl ?_
            refine pS (by kernel_rfl : opAt F28.o7 9 = some (some 32, .binOp .eql 3 (.tmp 29) (.tmp 31) 3, (some (4, false)))) rfl rfl ?_
            refine yS (by kernel_rfl : opAt F28.o7 10 = some (some 33, .pick (.tmp 27) (.const (.bool true)) (.tmp 32), none)) rfl rfl (fun w' hS => val_pick_t rfl rfl) ?_
            refine yS (by kernel_rfl : opAt F28.o7 11 = some (some 34, .move (.tmp 33), none)) rfl rfl (fun w' hS => val_move rfl) ?_
            refine pS (by kernel_rfl : opAt F28.o7 12 = some (some 35, .move (.tmp 0), (some (11, false)))) rfl rfl ?_
            refine pS (by kernel_rfl : opAt F28.o7 13 = some (some 36, .move (.tmp 3), (some (11, false)))) rfl rfl ?_
            refine pS (by kernel_rfl : opAt F28.o7 14 = some (some 37, .binOp .add 3 (.tmp 36) (.const (.int .i64 1)) 3, (some (11, false)))) rfl rfl ?_
            refine pS (by kernel_rfl : opAt F28.o7 15 = some (some 38, .index 9 (.tmp 35) (.tmp 37), (some (11, false)))) rfl rfl ?_
            refine pS (by kernel_rfl : opAt F28.o7 16 = some (some 39, .binOp .lss 5 (.tmp 38) (.const (.int .u8 128)) 5, (some (11, false)))) rfl rfl ?_
            refine yS (by kernel_rfl : opAt F28.o7 17 = some (some 40, .pick (.tmp 34) (.const (.bool true)) (.tmp 39), none)) rfl rfl (fun w' hS => val_pick_t rfl rfl) ?_
            refine yS (by kernel_rfl : opAt F28.o7 18 = some (some 41, .move (.tmp 40), none)) rfl rfl (fun w' hS => val_move rfl) ?_
            refine pS (by kernel_rfl : opAt F28.o7 19 = some (some 42, .move (.tmp 0), (some (18, false)))) rfl rfl ?_
            refine pS (by kernel_rfl : opAt F28.o7 20 = some (some 43, .move (.tmp 3), (some (18, false)))) rfl rfl ?_
            refine pS (by kernel_rfl : opAt F28.o7 21 = some (some 44, .binOp .add 3 (.tmp 43) (.const (.int .i64 1)) 3, (some (18, false)))) rfl rfl ?_
            refine pS (by kernel_rfl : opAt F28.o7 22 = some (some 45, .index 9 (.tmp 42) (.tmp 44), (some (18, false)))) rfl rfl ?_
            refine pS (by kernel_rfl : opAt F28.o7 23 = some (some 46, .binOp .gtr 5 (.tmp 45) (.const (.int .u8 191)) 5, (some (18, false)))) rfl rfl ?_
            refine yS (by kernel_rfl : opAt F28.o7 24 = some (some 47, .pick (.tmp 41) (.const (.bool true)) (.tmp 46), none)) rfl rfl (fun w' hS => val_pick_t rfl rfl) ?_
            exact Sch.nil (hcut _ _ _ (Stp.refl _ _ _) rfl (eq_bool (decide_eq_true ⟨hil, .inl hA⟩).symm) (sub_skip rfl (sub_skip rfl (sub_skip rfl (sub_skip rfl (sub_skip rfl (sub_skip rfl (sub_skip rfl (sub_skip rfl (sub_skip rfl (sub_skip rfl (sub_skip rfl (sub_skip rfl (sub_skip rfl (sub_skip rfl (sub_skip rfl (sub_skip rfl (sub_skip rfl (sub_skip rfl (sub_skip rfl (sub_skip rfl (sub_skip rfl (sub_skip rfl (sub_skip rfl (sub_skip rfl (sub_skip rfl (Sub.refl _)))))))))))))))))))))))))))
        intro w3 hs
        replace hF := hF.st hs
        replace hT := hT.trans hs (by simp)
        refine run_if (x := F28.c33) (y := F28.c36) (o := .tmp 47) (by kernel_rfl) rfl (fun h47 => ?_) (fun h47 => ?_)
        · skip
          refine run_seq (x := F28.c34) (y := F28.c35) (by kernel_rfl) ?_
          refine run_plain (id := 8) (ops := F28.o8) [(0, true)] (by kernel_rfl) (by kernel_rfl) ?_
          refine yS (by kernel_rfl : opAt F28.o8 0 = some (some 2, .assign (.const (.bool false)), none)) rfl rfl (fun w' hS => val_assign rfl) ?_
          refine Sch.nil ?_
          refine run_ret1 (by kernel_rfl) Try.func28 Try.results28 rfl ?_
          exact ⟨by unfold validT; rw [hv, bad_valid hil h22 h47, Bool.and_false], hT.out1 (by decide)⟩
        · skip
          refine run_skip (by kernel_rfl) ?_
          refine run_plain (id := 9) (ops := F28.o9) [(0, true), (1, true), (2, true)] (by kernel_rfl) (by kernel_rfl) ?_
          refine yS (by kernel_rfl : opAt F28.o9 0 = some (some 48, .move (.tmp 3), none)) rfl rfl (fun w' hS => val_move rfl) ?_
          refine yS (by kernel_rfl : opAt F28.o9 1 = some (some 49, .binOp .add 3 (.tmp 48) (.const (.int .i64 1)) 3, none)) rfl rfl (fun w' hS => val_addi rfl rfl (by omega) (by omega)) ?_
          refine yS (by kernel_rfl : opAt F28.o9 2 = some (some 3, .assign (.tmp 49), none)) rfl rfl (fun w' hS => val_assign rfl) ?_
          refine Sch.nil ?_
          refine run_inBlock ?_
          refine run_plain (id := 5) (ops := F28.o5) [(0, true), (1, true), (2, true)] (by kernel_rfl) (by kernel_rfl) ?_
          refine yS (by kernel_rfl : opAt F28.o5 0 = some (some 11, .move (.tmp 3), none)) rfl rfl (fun w' hS => val_move rfl) ?_
          refine yS (by kernel_rfl : opAt F28.o5 1 = some (some 12, .binOp .add 3 (.tmp 11) (.const (.int .i64 1)) 3, none)) rfl rfl (fun w' hS => val_addi rfl rfl (by omega) (by omega)) ?_
          refine yS (by kernel_rfl : opAt F28.o5 2 = some (some 3, .assign (.tmp 12), none)) rfl rfl (fun w' hS => val_assign rfl) ?_
          refine Sch.nil ?_
          have hgv := (good_valid hil h22 h47).1
          refine kp (sub_cons 0 rfl rfl (sub_cons 3 rfl (eq_int (by simp)) (sub_nil _))) (next1 (i + 1 + 1, C1) _ ⟨(by have := (good_valid hil h22 h47).1; simp only; omega), (by rw [hv]; exact (good_valid hil h22 h47).2), hF, hT⟩ (by simp only; omega))
    · skip
      have hil : i = s.length := by omega
      refine run_exit (id := 0) (by kernel_rfl) rfl ?_
      refine run_seq (x := F28.c40) (y := F28.c41) (by kernel_rfl) ?_
      refine run_plain (id := 10) (ops := F28.o10) [(0, true)] (by kernel_rfl) (by kernel_rfl) ?_
      refine yS (by kernel_rfl : opAt F28.o10 0 = some (some 2, .assign (.const (.bool true)), none)) rfl rfl (fun w' hS => val_assign rfl) ?_
      refine Sch.nil ?_
      refine run_ret1 (by kernel_rfl) Try.func28 Try.results28 rfl ?_
      exact ⟨by unfold validT; rw [decide_eq_true h64, hv, valid_end hil]; rfl, hT.out1 (by decide)⟩
namespace F29
noncomputable def c0 : Code := bodyOf Try.f29
noncomputable def c1 : Code := cl c0
noncomputable def o0 : Array Oper := rops c1
noncomputable def c2 : Code := cr c0
noncomputable def c3 : Code := cl c2
noncomputable def o1 : Array Oper := rops c3
noncomputable def c4 : Code := cr c2
noncomputable def c5 : Code := cl c4
noncomputable def o2 : Array Oper := rops c5
noncomputable def c6 : Code := cr c4
noncomputable def c7 : Code := cl c6
noncomputable def c8 : Code := cl c7
noncomputable def c9 : Code := cl c8
noncomputable def o3 : Array Oper := rops c9
noncomputable def c10 : Code := cr c8
noncomputable def c11 : Code := cl c10
noncomputable def c12 : Code := cl c11
noncomputable def o4 : Array Oper := rops c12
noncomputable def c13 : Code := cr c11
noncomputable def c14 : Code := cr c10
noncomputable def c15 : Code := cl c14
noncomputable def o5 : Array Oper := rops c15
noncomputable def c16 : Code := cr c14
noncomputable def c17 : Code := cl c16
noncomputable def c18 : Code := cl c17
noncomputable def o6 : Array Oper := rops c18
noncomputable def c19 : Code := cr c17
noncomputable def c20 : Code := cr c16
noncomputable def c21 : Code := cl c20
noncomputable def o7 : Array Oper := rops c21
noncomputable def c22 : Code := cr c20
noncomputable def c23 : Code := cl c22
noncomputable def c24 : Code := cl c23
noncomputable def o8 : Array Oper := rops c24
noncomputable def c25 : Code := cr c23
noncomputable def c26 : Code := cr c22
noncomputable def c27 : Code := cl c26
noncomputable def o9 : Array Oper := rops c27
noncomputable def c28 : Code := cr c26
noncomputable def c29 : Code := cl c28
noncomputable def c30 : Code := cl c29
noncomputable def o10 : Array Oper := rops c30
noncomputable def c31 : Code := cr c29
noncomputable def c32 : Code := cr c28
noncomputable def c33 : Code := cl c32
noncomputable def o11 : Array Oper := rops c33
noncomputable def c34 : Code := cr c32
noncomputable def c35 : Code := cl c34
noncomputable def c36 : Code := cl c35
noncomputable def o12 : Array Oper := rops c36
noncomputable def c37 : Code := cr c35
noncomputable def c38 : Code := cr c34
noncomputable def c39 : Code := cl c38
noncomputable def o13 : Array Oper := rops c39
noncomputable def c40 : Code := cr c38
noncomputable def c41 : Code := cl c40
noncomputable def c42 : Code := cl c41
noncomputable def o14 : Array Oper := rops c42
noncomputable def c43 : Code := cr c41
noncomputable def c44 : Code := cr c40
noncomputable def c45 : Code := cr c6
noncomputable def c46 : Code := cl c45
noncomputable def o15 : Array Oper := rops c46
noncomputable def c47 : Code := cr c45
end F29
theorem repl_ok {w₀ : World} {c : Nat} (hc : c < 256) : Calls Try.prog 29 #[.int .u8 (c : Int)] w₀ (Ret fun v w' => ∃ x : Tx, v = sv x ∧ x.l.length ≤ 2 ∧ w' = w₀) := by
  refine calls_start (c := F29.c0) (N := 30) [.int .u8 (c : Int)] Try.func29 (by kernel_rfl) (by kernel_rfl) (by kernel_rfl) ?_
  show Run _ _ _ _ [(0, .int .u8 (c : Int))] _ _
  refine run_seq (x := F29.c1) (y := F29.c2) (by kernel_rfl) ?_
  refine run_plain (id := 0) (ops := F29.o0) [(0, true)] (by kernel_rfl) (by kernel_rfl) ?_
  refine yS (by kernel_rfl : opAt F29.o0 0 = some (some 2, .assign (.const (.string ⟨#[]⟩)), none)) rfl rfl (fun w' hS => val_assign rfl) ?_
  refine Sch.nil ?_
  refine run_seq (x := F29.c3) (y := F29.c4) (by kernel_rfl) ?_
  refine run_plain (id := 1) (ops := F29.o1) [(0, true)] (by kernel_rfl) (by kernel_rfl) ?_
  refine yS (by kernel_rfl : opAt F29.o1 0 = some (some 3, .assign (.const (.string ⟨#[97, 97, 97, 97, 97, 97, 63, 63, 101, 101, 101, 101, 105, 105, 105, 105, 100, 110, 111, 111, 111, 111, 111, 63, 111, 117, 117, 117, 117, 121, 63, 63]⟩)), none)) rfl rfl (fun w' hS => val_assign rfl) ?_
  refine Sch.nil ?_
  refine run_seq (x := F29.c5) (y := F29.c6) (by kernel_rfl) ?_
  refine run_plain (id := 2) (ops := F29.o2) [(0, true), (1, true), (2, true)] (by kernel_rfl) (by kernel_rfl) ?_
  refine yS (by kernel_rfl : opAt F29.o2 0 = some (some 5, .move (.tmp 0), none)) rfl rfl (fun w' hS => val_move rfl) ?_
  refine yS (by kernel_rfl : opAt F29.o2 1 = some (some 6, .binOp .and 5 (.tmp 5) (.const (.int .u8 31)) 5, none)) rfl rfl (fun w' hS => val_andE (r := ((c % 32 : Nat) : Int)) rfl rfl (and31 c hc)) ?_
  obtain ⟨k, hkd⟩ : ∃ k, k = c % 32 := ⟨_, rfl⟩
  rw [← hkd]
  have hk : k < 32 := by omega
  refine yS (by kernel_rfl : opAt F29.o2 2 = some (some 4, .assign (.tmp 6), none)) rfl rfl (fun w' hS => val_assign rfl) ?_
  refine Sch.nil ?_
  refine run_seq (x := F29.c7) (y := F29.c45) (by kernel_rfl) ?_
  refine run_block (x := F29.c8) (id := 0) (by kernel_rfl) ?_
  refine run_seq (x := F29.c9) (y := F29.c10) (by kernel_rfl) ?_
  refine run_plain (id := 3) (ops := F29.o3) [(0, true), (1, true), (2, true)] (by kernel_rfl) (by kernel_rfl) ?_
  refine yS (by kernel_rfl : opAt F29.o3 0 = some (some 8, .move (.tmp 4), none)) rfl rfl (fun w' hS => val_move rfl) ?_
  refine yS (by kernel_rfl : opAt F29.o3 1 = some (some 9, .binOp .eql 5 (.tmp 8) (.const (.int .u8 6)) 5, none)) rfl rfl (fun w' hS => val_eql rfl rfl) ?_
  refine yS (by kernel_rfl : opAt F29.o3 2 = some (some 7, .assign (.tmp 9), none)) rfl rfl (fun w' hS => val_assign rfl) ?_
  refine Sch.nil ?_
  refine run_if (x := F29.c11) (y := F29.c14) (o := .tmp 7) (by kernel_rfl) rfl (fun h7 => ?_) (fun h7 => ?_)
  · skip
    refine run_seq (x := F29.c12) (y := F29.c13) (by kernel_rfl) ?_
    refine run_plain (id := 4) (ops := F29.o4) [(0, true)] (by kernel_rfl) (by kernel_rfl) ?_
    refine yS (by kernel_rfl : opAt F29.o4 0 = some (some 2, .assign (.const (.string ⟨#[97, 101]⟩)), none)) rfl rfl (fun w' hS => val_assign rfl) ?_
    refine Sch.nil ?_
    refine run_ret1 (by kernel_rfl) Try.func29 Try.results29 rfl ?_
    exact ⟨⟨_⟩, rfl, by decide, rfl⟩
  · skip
    refine run_seq (x := F29.c15) (y := F29.c16) (by kernel_rfl) ?_
    refine run_plain (id := 5) (ops := F29.o5) [(0, true), (1, true), (2, true)] (by kernel_rfl) (by kernel_rfl) ?_
    refine yS (by kernel_rfl : opAt F29.o5 0 = some (some 11, .move (.tmp 4), none)) rfl rfl (fun w' hS => val_move rfl) ?_
    refine yS (by kernel_rfl : opAt F29.o5 1 = some (some 12, .binOp .eql 5 (.tmp 11) (.const (.int .u8 7)) 5, none)) rfl rfl (fun w' hS => val_eql rfl rfl) ?_
    refine yS (by kernel_rfl : opAt F29.o5 2 = some (some 10, .assign (.tmp 12), none)) rfl rfl (fun w' hS => val_assign rfl) ?_
    refine Sch.nil ?_
    refine run_if (x := F29.c17) (y := F29.c20) (o := .tmp 10) (by kernel_rfl) rfl (fun h10 => ?_) (fun h10 => ?_)
    · skip
      refine run_seq (x := F29.c18) (y := F29.c19) (by kernel_rfl) ?_
      refine run_plain (id := 6) (ops := F29.o6) [(0, true)] (by kernel_rfl) (by kernel_rfl) ?_
      refine yS (by kernel_rfl : opAt F29.o6 0 = some (some 2, .assign (.const (.string ⟨#[99]⟩)), none)) rfl rfl (fun w' hS => val_assign rfl) ?_
      refine Sch.nil ?_
      refine run_ret1 (by kernel_rfl) Try.func29 Try.results29 rfl ?_
      exact ⟨⟨_⟩, rfl, by decide, rfl⟩
    · skip
      refine run_seq (x := F29.c21) (y := F29.c22) (by kernel_rfl) ?_
      refine run_plain (id := 7) (ops := F29.o7) [(0, true), (1, true), (2, true)] (by kernel_rfl) (by kernel_rfl) ?_
      refine yS (by kernel_rfl : opAt F29.o7 0 = some (some 14, .move (.tmp 4), none)) rfl rfl (fun w' hS => val_move rfl) ?_
      refine yS (by kernel_rfl : opAt F29.o7 1 = some (some 15, .binOp .eql 5 (.tmp 14) (.const (.int .u8 23)) 5, none)) rfl rfl (fun w' hS => val_eql rfl rfl) ?_
      refine yS (by kernel_rfl : opAt F29.o7 2 = some (some 13, .assign (.tmp 15), none)) rfl rfl (fun w' hS => val_assign rfl) ?_
      refine Sch.nil ?_
      refine run_if (x := F29.c23) (y := F29.c26) (o := .tmp 13) (by kernel_rfl) rfl (fun h13 => ?_) (fun h13 => ?_)
      · skip
        refine run_seq (x := F29.c24) (y := F29.c25) (by kernel_rfl) ?_
        refine run_plain (id := 8) (ops := F29.o8) [(0, true)] (by kernel_rfl) (by kernel_rfl) ?_
        refine yS (by kernel_rfl : opAt F29.o8 0 = some (some 2, .assign (.const (.string ⟨#[]⟩)), none)) rfl rfl (fun w' hS => val_assign rfl) ?_
        refine Sch.nil ?_
        refine run_ret1 (by kernel_rfl) Try.func29 Try.results29 rfl ?_
        exact ⟨⟨_⟩, rfl, by decide, rfl⟩
      · skip
        refine run_seq (x := F29.c27) (y := F29.c28) (by kernel_rfl) ?_
        refine run_plain (id := 9) (ops := F29.o9) [(0, true), (1, true), (2, true)] (by kernel_rfl) (by kernel_rfl) ?_
        refine yS (by kernel_rfl : opAt F29.o9 0 = some (some 17, .move (.tmp 4), none)) rfl rfl (fun w' hS => val_move rfl) ?_
        refine yS (by kernel_rfl : opAt F29.o9 1 = some (some 18, .binOp .eql 5 (.tmp 17) (.const (.int .u8 30)) 5, none)) rfl rfl (fun w' hS => val_eql rfl rfl) ?_
        refine yS (by kernel_rfl : opAt F29.o9 2 = some (some 16, .assign (.tmp 18), none)) rfl rfl (fun w' hS => val_assign rfl) ?_
        refine Sch.nil ?_
        refine run_if (x := F29.c29) (y := F29.c32) (o := .tmp 16) (by kernel_rfl) rfl (fun h16 => ?_) (fun h16 => ?_)
        · skip
          refine run_seq (x := F29.c30) (y := F29.c31) (by kernel_rfl) ?_
          refine run_plain (id := 10) (ops := F29.o10) [(0, true)] (by kernel_rfl) (by kernel_rfl) ?_
          refine yS (by kernel_rfl : opAt F29.o10 0 = some (some 2, .assign (.const (.string ⟨#[116, 104]⟩)), none)) rfl rfl (fun w' hS => val_assign rfl) ?_
          refine Sch.nil ?_
          refine run_ret1 (by kernel_rfl) Try.func29 Try.results29 rfl ?_
          exact ⟨⟨_⟩, rfl, by decide, rfl⟩
        · skip
          refine run_seq (x := F29.c33) (y := F29.c34) (by kernel_rfl) ?_
          refine run_plain (id := 11) (ops := F29.o11) [(0, true), (1, true), (2, true)] (by kernel_rfl) (by kernel_rfl) ?_
          refine yS (by kernel_rfl : opAt F29.o11 0 = some (some 20, .move (.tmp 0), none)) rfl rfl (fun w' hS => val_move rfl) ?_
          refine yS (by kernel_rfl : opAt F29.o11 1 = some (some 21, .binOp .eql 5 (.tmp 20) (.const (.int .u8 159)) 5, none)) rfl rfl (fun w' hS => val_eql rfl rfl) ?_
          refine yS (by kernel_rfl : opAt F29.o11 2 = some (some 19, .assign (.tmp 21), none)) rfl rfl (fun w' hS => val_assign rfl) ?_
          refine Sch.nil ?_
          refine run_if (x := F29.c35) (y := F29.c38) (o := .tmp 19) (by kernel_rfl) rfl (fun h19 => ?_) (fun h19 => ?_)
          · skip
            refine run_seq (x := F29.c36) (y := F29.c37) (by kernel_rfl) ?_
            refine run_plain (id := 12) (ops := F29.o12) [(0, true)] (by kernel_rfl) (by kernel_rfl) ?_
            refine yS (by kernel_rfl : opAt F29.o12 0 = some (some 2, .assign (.const (.string ⟨#[115, 115]⟩)), none)) rfl rfl (fun w' hS => val_assign rfl) ?_
            refine Sch.nil ?_
            refine run_ret1 (by kernel_rfl) Try.func29 Try.results29 rfl ?_
            exact ⟨⟨_⟩, rfl, by decide, rfl⟩
          · skip
            refine run_seq (x := F29.c39) (y := F29.c40) (by kernel_rfl) ?_
            refine run_plain (id := 13) (ops := F29.o13) [(0, true), (1, true), (2, true)] (by kernel_rfl) (by kernel_rfl) ?_
            refine yS (by kernel_rfl : opAt F29.o13 0 = some (some 23, .move (.tmp 0), none)) rfl rfl (fun w' hS => val_move rfl) ?_
            refine yS (by kernel_rfl : opAt F29.o13 1 = some (some 24, .binOp .eql 5 (.tmp 23) (.const (.int .u8 191)) 5, none)) rfl rfl (fun w' hS => val_eql rfl rfl) ?_
            refine yS (by kernel_rfl : opAt F29.o13 2 = some (some 22, .assign (.tmp 24), none)) rfl rfl (fun w' hS => val_assign rfl) ?_
            refine Sch.nil ?_
            refine run_if (x := F29.c41) (y := F29.c44) (o := .tmp 22) (by kernel_rfl) rfl (fun h22 => ?_) (fun h22 => ?_)
            · skip
              refine run_seq (x := F29.c42) (y := F29.c43) (by kernel_rfl) ?_
              refine run_plain (id := 14) (ops := F29.o14) [(0, true)] (by kernel_rfl) (by kernel_rfl) ?_
              refine yS (by kernel_rfl : opAt F29.o14 0 = some (some 2, .assign (.const (.string ⟨#[121]⟩)), none)) rfl rfl (fun w' hS => val_assign rfl) ?_
              refine Sch.nil ?_
              refine run_ret1 (by kernel_rfl) Try.func29 Try.results29 rfl ?_
              exact ⟨⟨_⟩, rfl, by decide, rfl⟩
            · skip
              refine run_skip (by kernel_rfl) ?_
              refine run_inBlock ?_
              refine run_seq (x := F29.c46) (y := F29.c47) (by kernel_rfl) ?_
              refine run_plain (id := 15) (ops := F29.o15) [(0, true), (1, true), (2, true), (3, true), (4, true), (5, true)] (by kernel_rfl) (by kernel_rfl) ?_
              refine yS (by kernel_rfl : opAt F29.o15 0 = some (some 25, .move (.tmp 3), none)) rfl rfl (fun w' hS => val_move rfl) ?_
              refine yS (by kernel_rfl : opAt F29.o15 1 = some (some 26, .move (.tmp 4), none)) rfl rfl (fun w' hS => val_move rfl) ?_
              refine yS (by kernel_rfl : opAt F29.o15 2 = some (some 27, .move (.tmp 4), none)) rfl rfl (fun w' hS => val_move rfl) ?_
              refine yS (by kernel_rfl : opAt F29.o15 3 = some (some 28, .binOp .add 5 (.tmp 27) (.const (.int .u8 1)) 5, none)) rfl rfl (fun w' hS => val_is (val_add rfl rfl) (eq_int (wrap_u8 (by omega) (by omega)))) ?_
              refine yS (by kernel_rfl : opAt F29.o15 4 = some (some 29, .slice 9 (.tmp 25) (some (.tmp 26)) (some (.tmp 28)) none, none)) rfl rfl (fun w' hS => val_subE rfl rfl rfl Try.underlying9 (by omega) (by omega) (by simp only [List.length_cons, List.length_nil]; omega) rfl) ?_
              refine yS (by kernel_rfl : opAt F29.o15 5 = some (some 2, .assign (.tmp 29), none)) rfl rfl (fun w' hS => val_assign rfl) ?_
              refine Sch.nil ?_
              refine run_ret1 (by kernel_rfl) Try.func29 Try.results29 rfl ?_
              exact ⟨⟨_⟩, rfl, by simp only [List.length_drop, List.length_take]; omega, rfl⟩
namespace F12
noncomputable def c0 : Code := bodyOf Try.f12
noncomputable def c1 : Code := cl c0
noncomputable def o0 : Array Oper := rops c1
noncomputable def c2 : Code := cr c0
noncomputable def c3 : Code := cl c2
noncomputable def c4 : Code := cl c3
noncomputable def o1 : Array Oper := rops c4
noncomputable def c5 : Code := cr c3
noncomputable def c6 : Code := cl c5
noncomputable def c7 : Code := cl c6
noncomputable def o2 : Array Oper := rops c7
noncomputable def c8 : Code := cr c6
noncomputable def c9 : Code := cr c5
noncomputable def c10 : Code := cr c2
noncomputable def c11 : Code := cl c10
noncomputable def o3 : Array Oper := rops c11
noncomputable def c12 : Code := cr c10
noncomputable def c13 : Code := cl c12
noncomputable def o4 : Array Oper := rops c13
noncomputable def c14 : Code := cr c12
noncomputable def c15 : Code := cl c14
noncomputable def c16 : Code := cl c15
noncomputable def o5 : Array Oper := rops c16
noncomputable def c17 : Code := cr c15
noncomputable def c18 : Code := cl c17
noncomputable def c19 : Code := cl c18
noncomputable def c20 : Code := cl c19
noncomputable def c21 : Code := cl c20
noncomputable def o6 : Array Oper := rops c21
noncomputable def c22 : Code := cr c20
noncomputable def c23 : Code := cl c22
noncomputable def c24 : Code := cr c22
noncomputable def c25 : Code := cr c19
noncomputable def c26 : Code := cl c25
noncomputable def c27 : Code := cl c26
noncomputable def c28 : Code := cl c27
noncomputable def o8 : Array Oper := rops c28
noncomputable def c29 : Code := cr c27
noncomputable def c30 : Code := cl c29
noncomputable def o9 : Array Oper := rops c30
noncomputable def c31 : Code := cr c29
noncomputable def c32 : Code := cl c31
noncomputable def c33 : Code := cl c32
noncomputable def c34 : Code := cl c33
noncomputable def o10 : Array Oper := rops c34
noncomputable def c35 : Code := cr c33
noncomputable def c36 : Code := cl c35
noncomputable def c37 : Code := cl c36
noncomputable def o11 : Array Oper := rops c37
noncomputable def c38 : Code := cr c36
noncomputable def o12 : Array Oper := rops c38
noncomputable def c39 : Code := cr c35
noncomputable def c40 : Code := cl c39
noncomputable def o13 : Array Oper := rops c40
noncomputable def c41 : Code := cr c39
noncomputable def c42 : Code := cl c41
noncomputable def o14 : Array Oper := rops c42
noncomputable def c43 : Code := cr c41
noncomputable def c44 : Code := cl c43
noncomputable def o15 : Array Oper := rops c44
noncomputable def c45 : Code := cr c43
noncomputable def c46 : Code := cl c45
noncomputable def o16 : Array Oper := rops c46
noncomputable def c47 : Code := cr c45
noncomputable def c48 : Code := cl c47
noncomputable def o17 : Array Oper := rops c48
noncomputable def c49 : Code := cr c47
noncomputable def c50 : Code := cl c49
noncomputable def o18 : Array Oper := rops c50
noncomputable def c51 : Code := cr c49
noncomputable def c52 : Code := cr c31
noncomputable def c53 : Code := cl c52
noncomputable def c54 : Code := cl c53
noncomputable def o19 : Array Oper := rops c54
noncomputable def c55 : Code := cr c53
noncomputable def c56 : Code := cl c55
noncomputable def c57 : Code := cr c55
noncomputable def c58 : Code := cr c52
noncomputable def c59 : Code := cl c58
noncomputable def c60 : Code := cl c59
noncomputable def o20 : Array Oper := rops c60
noncomputable def c61 : Code := cr c59
noncomputable def c62 : Code := cl c61
noncomputable def o21 : Array Oper := rops c62
noncomputable def c63 : Code := cr c61
noncomputable def c64 : Code := cr c58
noncomputable def c65 : Code := cl c64
noncomputable def o22 : Array Oper := rops c65
noncomputable def c66 : Code := cr c64
noncomputable def o23 : Array Oper := rops c66
noncomputable def c67 : Code := cr c25
noncomputable def o7 : Array Oper := rops c67
noncomputable def c68 : Code := cr c14
noncomputable def c69 : Code := cl c68
noncomputable def o24 : Array Oper := rops c69
noncomputable def c70 : Code := cr c68
end F12
/-- A text is folded to some text. -/
theorem fold_ok {w₀ : World} {C : Nat → Nat} {s : List UInt8} (hF : Lim w₀ C) (hb : s.length ≤ 4294967296) : Calls Try.prog 12 #[bs s] w₀ (Ret fun v w' => ∃ (x : Tx) (e : Int), v = .tuple #[sv x, .int .i64 e] ∧ x.l.length ≤ 200 ∧ Stp [] w₀ C w' C) := by
  have hF0 := hF
  have hT := Stp.refl [2, 3, 4, 5, 6, 7, 8, 9] w₀ (col1 C)
  replace hF := hF.col1
  refine calls_start (c := F12.c0) (N := 75) [bs s] Try.func12 (by kernel_rfl) (by kernel_rfl) (by kernel_rfl) ?_
  show Run _ _ _ _ [(0, bs s)] _ _
  refine run_seq (x := F12.c1) (y := F12.c2) (by kernel_rfl) ?_
  refine run_plain (id := 0) (ops := F12.o0) [(0, true), (1, true)] (by kernel_rfl) (by kernel_rfl) ?_
  refine yS (by kernel_rfl : opAt F12.o0 0 = some (some 2, .assign (.const (.string ⟨#[]⟩)), none)) rfl rfl (fun w' hS => val_assign rfl) ?_
  refine yS (by kernel_rfl : opAt F12.o0 1 = some (some 3, .assign (.const (.int .i64 0)), none)) rfl rfl (fun w' hS => val_assign rfl) ?_
  refine Sch.nil ?_
  refine run_seq (x := F12.c3) (y := F12.c10) (by kernel_rfl) ?_
  refine run_seq (x := F12.c4) (y := F12.c5) (by kernel_rfl) ?_
  refine run_plain (id := 1) (ops := F12.o1) [(0, true), (1, false), (2, true)] (by kernel_rfl) (by kernel_rfl) ?_
  refine yS (by kernel_rfl : opAt F12.o1 0 = some (some 9, .move (.tmp 0), none)) rfl rfl (fun w' hS => val_move rfl) ?_
  refine cS (by kernel_rfl : opAt F12.o1 1 = some (some 10, .call { callee := .value (.func 28), args := #[(.tmp 9)], argTypes := #[9] }, none)) rfl rfl (ent Try.call28 rfl) (valid_okW hF hb) ?_
  rintro vw1 w1 ⟨rfl, hs⟩
  refine ⟨trivial, ?_⟩
  replace hF := hF.st hs
  replace hT := hT.trans hs (by simp)
  refine yS (by kernel_rfl : opAt F12.o1 2 = some (some 11, .unOp .not 4 (.tmp 10), none)) rfl rfl (fun w' hS => val_not rfl) ?_
  refine Sch.nil ?_
  refine run_cond (x := F12.c6) (y := F12.c9) (o := .tmp 11) (by kernel_rfl) rfl (fun h11 => ?_) (fun h11 => ?_)
  · skip
    refine run_seq (x := F12.c7) (y := F12.c8) (by kernel_rfl) ?_
    refine run_plain (id := 2) (ops := F12.o2) [(0, true), (1, true)] (by kernel_rfl) (by kernel_rfl) ?_
    refine yS (by kernel_rfl : opAt F12.o2 0 = some (some 2, .assign (.const (.string ⟨#[]⟩)), none)) rfl rfl (fun w' hS => val_assign rfl) ?_
    refine yS (by kernel_rfl : opAt F12.o2 1 = some (some 3, .assign (.const (.int .i64 3)), none)) rfl rfl (fun w' hS => val_assign rfl) ?_
    refine Sch.nil ?_
    refine run_ret2 (by kernel_rfl) Try.func12 Try.results12 rfl rfl ?_
    exact ⟨⟨[]⟩, _, rfl, by decide, hT.out1 (by decide)⟩
  · skip
    have hvt : validT s = true := by simpa using h11
    have hv0 : validGo s = true ∧ s.length ≤ 64 := by unfold validT at hvt; simp only [Bool.and_eq_true, decide_eq_true_eq] at hvt; exact ⟨hvt.2, hvt.1⟩
    have h64 := hv0.2
    refine run_skip (by kernel_rfl) ?_
    refine run_seq (x := F12.c11) (y := F12.c12) (by kernel_rfl) ?_
    refine run_plain (id := 3) (ops := F12.o3) [(0, true)] (by kernel_rfl) (by kernel_rfl) ?_
    refine yS (by kernel_rfl : opAt F12.o3 0 = some (some 4, .assign (.const (.string ⟨#[]⟩)), none)) rfl rfl (fun w' hS => val_assign rfl) ?_
    refine Sch.nil ?_
    refine run_seq (x := F12.c13) (y := F12.c14) (by kernel_rfl) ?_
    refine run_plain (id := 4) (ops := F12.o4) [(0, true)] (by kernel_rfl) (by kernel_rfl) ?_
    refine yS (by kernel_rfl : opAt F12.o4 0 = some (some 5, .assign (.const (.bool false)), none)) rfl rfl (fun w' hS => val_assign rfl) ?_
    refine Sch.nil ?_
    refine run_seq (x := F12.c15) (y := F12.c68) (by kernel_rfl) ?_
    refine run_seq (x := F12.c16) (y := F12.c17) (by kernel_rfl) ?_
    refine run_plain (id := 5) (ops := F12.o5) [(0, true)] (by kernel_rfl) (by kernel_rfl) ?_
    refine yS (by kernel_rfl : opAt F12.o5 0 = some (some 6, .assign (.const (.int .i64 0)), none)) rfl rfl (fun w' hS => val_assign rfl) ?_
    refine Sch.nil ?_
    refine run_block (x := F12.c18) (id := 0) (by kernel_rfl) ?_
    
    refine run_loop (ι := Nat × (List UInt8) × Bool × (Nat → Nat)) (I := fun x w => x.1 ≤ s.length ∧ validGo (s.drop x.1) = true ∧ x.2.1.length ≤ 3 * x.1 ∧ Lim w x.2.2.2 ∧ Stp [2, 3, 4, 5, 6, 7, 8, 9] w₀ (col1 C) w x.2.2.2) (e := fun x => [(0, bs s), (4, bs x.2.1), (5, .bool x.2.2.1), (6, .int .i64 x.1)]) (m := fun x => s.length - x.1) (x₀ := (0, [], false, col1 C)) (body := F12.c19) (by kernel_rfl) (sub_cons 0 rfl rfl (sub_cons 4 rfl rfl (sub_cons 5 rfl rfl (sub_cons 6 rfl rfl (sub_nil _))))) ?_ ?_
    · exact ⟨Nat.zero_le _, hv0.1, (Nat.le_refl _), hF, hT⟩
    intro ⟨i, out, sep, C1⟩ w2 hI next
    obtain ⟨hi, hv, hol, hF, hT⟩ := hI
    try simp only at hi hv hol hF hT
    have next1 := next
    clear next
    show Run _ _ _ _ [(0, bs s), (4, bs out), (5, .bool sep), (6, .int .i64 i)] _ _
    refine run_seq (x := F12.c20) (y := F12.c25) (by kernel_rfl) ?_
    refine run_seq (x := F12.c21) (y := F12.c22) (by kernel_rfl) ?_
    refine run_plain (id := 6) (ops := F12.o6) [(0, true), (1, true), (2, true), (3, true)] (by kernel_rfl) (by kernel_rfl) ?_
    refine yS (by kernel_rfl : opAt F12.o6 0 = some (some 12, .move (.tmp 6), none)) rfl rfl (fun w' hS => val_move rfl) ?_
    refine yS (by kernel_rfl : opAt F12.o6 1 = some (some 13, .move (.tmp 0), none)) rfl rfl (fun w' hS => val_move rfl) ?_
    refine yS (by kernel_rfl : opAt F12.o6 2 = some (some 14, .call { callee := .builtin .len, args := #[(.tmp 13)], argTypes := #[9] }, none)) rfl rfl (fun w' hS => val_lenT rfl Try.underlying9) ?_
    refine yS (by kernel_rfl : opAt F12.o6 3 = some (some 15, .binOp .lss 3 (.tmp 12) (.tmp 14) 3, none)) rfl rfl (fun w' hS => val_lss rfl rfl) ?_
    refine Sch.nil ?_
    refine run_if (x := F12.c23) (y := F12.c24) (o := .tmp 15) (by kernel_rfl) rfl (fun h15 => ?_) (fun h15 => ?_)
    · skip
      have hil : i < s.length := by omega
      have hbl := UInt8.toNat_lt s[i]
      refine run_skip (by kernel_rfl) ?_
      refine run_seq (x := F12.c26) (y := F12.c67) (by kernel_rfl) ?_
      refine run_block (x := F12.c27) (id := 1) (by kernel_rfl) ?_
      refine run_seq (x := F12.c28) (y := F12.c29) (by kernel_rfl) ?_
      refine run_plain (id := 8) (ops := F12.o8) [(0, true), (1, true), (2, true), (3, true)] (by kernel_rfl) (by kernel_rfl) ?_
      refine yS (by kernel_rfl : opAt F12.o8 0 = some (some 18, .move (.tmp 0), none)) rfl rfl (fun w' hS => val_move rfl) ?_
      refine yS (by kernel_rfl : opAt F12.o8 1 = some (some 19, .move (.tmp 6), none)) rfl rfl (fun w' hS => val_move rfl) ?_
      refine yS (by kernel_rfl : opAt F12.o8 2 = some (some 20, .index 9 (.tmp 18) (.tmp 19), none)) rfl rfl (fun w' hS => val_idxN rfl rfl Try.underlying9 (by omega)) ?_
      refine yS (by kernel_rfl : opAt F12.o8 3 = some (some 7, .assign (.tmp 20), none)) rfl rfl (fun w' hS => val_assign rfl) ?_
      refine Sch.nil ?_
      refine run_seq (x := F12.c30) (y := F12.c31) (by kernel_rfl) ?_
      refine run_plain (id := 9) (ops := F12.o9) [(0, true)] (by kernel_rfl) (by kernel_rfl) ?_
      refine yS (by kernel_rfl : opAt F12.o9 0 = some (some 8, .assign (.const (.string ⟨#[]⟩)), none)) rfl rfl (fun w' hS => val_assign rfl) ?_
      refine Sch.nil ?_
      refine run_seq (x := F12.c32) (y := F12.c52) (by kernel_rfl) ?_
      refine run_block (x := F12.c33) (id := 2) (by kernel_rfl) ?_
      refine run_seq (x := F12.c34) (y := F12.c35) (by kernel_rfl) ?_
      refine run_plain (id := 10) (ops := F12.o10) [(0, true), (1, true), (2, true)] (by kernel_rfl) (by kernel_rfl) ?_
      refine yS (by kernel_rfl : opAt F12.o10 0 = some (some 22, .move (.tmp 7), none)) rfl rfl (fun w' hS => val_move rfl) ?_
      refine yS (by kernel_rfl : opAt F12.o10 1 = some (some 23, .binOp .eql 5 (.tmp 22) (.const (.int .u8 195)) 5, none)) rfl rfl (fun w' hS => val_eql rfl rfl) ?_
      refine yS (by kernel_rfl : opAt F12.o10 2 = some (some 21, .assign (.tmp 23), none)) rfl rfl (fun w' hS => val_assign rfl) ?_
      refine Sch.nil ?_
      refine run_if (x := F12.c36) (y := F12.c39) (o := .tmp 21) (by kernel_rfl) rfl (fun h21 => ?_) (fun h21 => ?_)
      · skip
        obtain ⟨hil2, hpr, hvn⟩ := valid_pair hil hv (by omega)
        have hbl2 := UInt8.toNat_lt s[i + 1]
        refine run_seq (x := F12.c37) (y := F12.c38) (by kernel_rfl) ?_
        refine run_plain (id := 11) (ops := F12.o11) [(0, true), (1, true), (2, true)] (by kernel_rfl) (by kernel_rfl) ?_
        refine yS (by kernel_rfl : opAt F12.o11 0 = some (some 24, .move (.tmp 6), none)) rfl rfl (fun w' hS => val_move rfl) ?_
        refine yS (by kernel_rfl : opAt F12.o11 1 = some (some 25, .binOp .add 3 (.tmp 24) (.const (.int .i64 1)) 3, none)) rfl rfl (fun w' hS => val_addi rfl rfl (by omega) (by omega)) ?_
        refine yS (by kernel_rfl : opAt F12.o11 2 = some (some 6, .assign (.tmp 25), none)) rfl rfl (fun w' hS => val_assign rfl) ?_
        refine Sch.nil ?_
        refine run_plain (id := 12) (ops := F12.o12) [(0, true), (1, true), (2, true), (3, false), (4, true)] (by kernel_rfl) (by kernel_rfl) ?_
        refine yS (by kernel_rfl : opAt F12.o12 0 = some (some 26, .move (.tmp 0), none)) rfl rfl (fun w' hS => val_move rfl) ?_
        refine yS (by kernel_rfl : opAt F12.o12 1 = some (some 27, .move (.tmp 6), none)) rfl rfl (fun w' hS => val_move rfl) ?_
        refine yS (by kernel_rfl : opAt F12.o12 2 = some (some 28, .index 9 (.tmp 26) (.tmp 27), none)) rfl rfl (fun w' hS => val_idxE (m := (i : Int) + 1) (r := i + 1) rfl rfl Try.underlying9 (by omega) (by omega)) ?_
        refine cS (by kernel_rfl : opAt F12.o12 3 = some (some 29, .call { callee := .value (.func 29), args := #[(.tmp 28)], argTypes := #[5] }, none)) rfl rfl (ent Try.call29 rfl) (repl_ok (c := (s[i + 1]).toNat) (by omega)) ?_
        rintro vw3 w3 ⟨⟨ad⟩, rfl, hxr, rfl⟩
        refine ⟨trivial, ?_⟩
        replace hxr : ad.length ≤ 2 := hxr
        refine yS (by kernel_rfl : opAt F12.o12 4 = some (some 8, .assign (.tmp 29), none)) rfl rfl (fun w' hS => val_assign rfl) ?_
        refine Sch.nil ?_
        refine run_inBlock ?_
        refine run_seq (x := F12.c53) (y := F12.c58) (by kernel_rfl) ?_
        refine run_seq (x := F12.c54) (y := F12.c55) (by kernel_rfl) ?_
        refine run_plain (id := 19) (ops := F12.o19) [(0, true), (1, true)] (by kernel_rfl) (by kernel_rfl) ?_
        refine yS (by kernel_rfl : opAt F12.o19 0 = some (some 62, .move (.tmp 8), none)) rfl rfl (fun w' hS => val_move rfl) ?_
        refine yS (by kernel_rfl : opAt F12.o19 1 = some (some 63, .binOp .eql 9 (.tmp 62) (.const (.string ⟨#[]⟩)) 9, none)) rfl rfl (fun w' hS => val_eqT rfl rfl) ?_
        refine Sch.nil ?_
        refine run_if (x := F12.c56) (y := F12.c57) (o := .tmp 63) (by kernel_rfl) rfl (fun h63 => ?_) (fun h63 => ?_)
        · skip
          refine run_exit (id := 1) (by kernel_rfl) rfl ?_
          refine run_plain (id := 7) (ops := F12.o7) [(0, true), (1, true), (2, true)] (by kernel_rfl) (by kernel_rfl) ?_
          refine yS (by kernel_rfl : opAt F12.o7 0 = some (some 16, .move (.tmp 6), none)) rfl rfl (fun w' hS => val_move rfl) ?_
          refine yS (by kernel_rfl : opAt F12.o7 1 = some (some 17, .binOp .add 3 (.tmp 16) (.const (.int .i64 1)) 3, none)) rfl rfl (fun w' hS => val_addi rfl rfl (by omega) (by omega)) ?_
          refine yS (by kernel_rfl : opAt F12.o7 2 = some (some 6, .assign (.tmp 17), none)) rfl rfl (fun w' hS => val_assign rfl) ?_
          refine Sch.nil ?_
          refine kp (sub_cons 0 rfl rfl (sub_cons 4 rfl rfl (sub_cons 5 rfl rfl (sub_cons 6 rfl (eq_int (by simp only; omega)) (sub_nil _))))) (next1 (i + 1 + 1, out, sep, C1) _ ⟨(by first | omega | (simp only; omega)), hvn, (by first | omega | (simp only; omega)), hF, hT⟩ (by first | omega | (simp only; omega)))
        · skip
          refine run_skip (by kernel_rfl) ?_
          refine run_seq (x := F12.c59) (y := F12.c64) (by kernel_rfl) ?_
          refine run_seq (x := F12.c60) (y := F12.c61) (by kernel_rfl) ?_
          refine run_cut 68 (decide (sep = true ∧ out ≠ [])) (C1) ?_ ?_
          · intro hcut
            cases sep
            · skip
              refine run_plain (id := 20) (ops := F12.o20) [(0, true), (1, true), (2, true), (3, true), (4, true)] (by kernel_rfl) (by kernel_rfl) ?_
              refine yS (by kernel_rfl : opAt F12.o20 0 = some (some 64, .move (.tmp 5), none)) rfl rfl (fun w' hS => val_move rfl) ?_
              refine yS (by kernel_rfl : opAt F12.o20 1 = some (some 65, .move (.tmp 64), none)) rfl rfl (fun w' hS => val_move rfl) ?_
              refine pS (by kernel_rfl : opAt F12.o20 2 = some (some 66, .move (.tmp 4), (some (1, true)))) rfl rfl ?_
              refine pS (by kernel_rfl : opAt F12.o20 3 = some (some 67, .binOp .neq 9 (.tmp 66) (.const (.string ⟨#[]⟩)) 9, (some (1, true)))) rfl rfl ?_
              refine yS (by kernel_rfl : opAt F12.o20 4 = some (some 68, .pick (.tmp 65) (.tmp 67) (.const (.bool false)), none)) rfl rfl (fun w' hS => val_pick_f rfl rfl) ?_
              exact Sch.nil (hcut _ _ _ (Stp.refl _ _ _) rfl (eq_bool (by simp)) (sub_skip rfl (sub_skip rfl (sub_skip rfl (sub_skip rfl (sub_skip rfl (Sub.refl _)))))))
            · skip
              refine run_plain (id := 20) (ops := F12.o20) [(0, true), (1, true), (2, true), (3, true), (4, true)] (by kernel_rfl) (by kernel_rfl) ?_
              refine yS (by kernel_rfl : opAt F12.o20 0 = some (some 64, .move (.tmp 5), none)) rfl rfl (fun w' hS => val_move rfl) ?_
              refine yS (by kernel_rfl : opAt F12.o20 1 = some (some 65, .move (.tmp 64), none)) rfl rfl (fun w' hS => val_move rfl) ?_
              refine yS (by kernel_rfl : opAt F12.o20 2 = some (some 66, .move (.tmp 4), (some (1, true)))) rfl rfl (fun w' hS => val_move rfl) ?_
              refine yS (by kernel_rfl : opAt F12.o20 3 = some (some 67, .binOp .neq 9 (.tmp 66) (.const (.string ⟨#[]⟩)) 9, (some (1, true)))) rfl rfl (fun w' hS => val_neT rfl rfl) ?_
              refine yS (by kernel_rfl : opAt F12.o20 4 = some (some 68, .pick (.tmp 65) (.tmp 67) (.const (.bool false)), none)) rfl rfl (fun w' hS => val_pick_t rfl rfl) ?_
              exact Sch.nil (hcut _ _ _ (Stp.refl _ _ _) rfl (eq_bool (by simp)) (sub_skip rfl (sub_skip rfl (sub_skip rfl (sub_skip rfl (sub_skip rfl (Sub.refl _)))))))
          intro w4 hs
          replace hF := hF.st hs
          replace hT := hT.trans hs (by simp)
          refine run_if (x := F12.c62) (y := F12.c63) (o := .tmp 68) (by kernel_rfl) rfl (fun h68 => ?_) (fun h68 => ?_)
          · skip
            refine run_plain (id := 21) (ops := F12.o21) [(0, true), (1, true), (2, true)] (by kernel_rfl) (by kernel_rfl) ?_
            refine yS (by kernel_rfl : opAt F12.o21 0 = some (some 69, .move (.tmp 4), none)) rfl rfl (fun w' hS => val_move rfl) ?_
            refine yS (by kernel_rfl : opAt F12.o21 1 = some (some 70, .binOp .add 9 (.tmp 69) (.const (.string ⟨#[32]⟩)) 9, none)) rfl rfl (fun w' hS => val_cat rfl rfl (by (try simp only [List.length_append, List.length_cons, List.length_nil]); omega)) ?_
            refine yS (by kernel_rfl : opAt F12.o21 2 = some (some 4, .assign (.tmp 70), none)) rfl rfl (fun w' hS => val_assign rfl) ?_
            refine Sch.nil ?_
            refine run_seq (x := F12.c65) (y := F12.c66) (by kernel_rfl) ?_
            refine run_plain (id := 22) (ops := F12.o22) [(0, true)] (by kernel_rfl) (by kernel_rfl) ?_
            refine yS (by kernel_rfl : opAt F12.o22 0 = some (some 5, .assign (.const (.bool false)), none)) rfl rfl (fun w' hS => val_assign rfl) ?_
            refine Sch.nil ?_
            refine run_plain (id := 23) (ops := F12.o23) [(0, true), (1, true), (2, true), (3, true)] (by kernel_rfl) (by kernel_rfl) ?_
            refine yS (by kernel_rfl : opAt F12.o23 0 = some (some 71, .move (.tmp 4), none)) rfl rfl (fun w' hS => val_move rfl) ?_
            refine yS (by kernel_rfl : opAt F12.o23 1 = some (some 72, .move (.tmp 8), none)) rfl rfl (fun w' hS => val_move rfl) ?_
            refine yS (by kernel_rfl : opAt F12.o23 2 = some (some 73, .binOp .add 9 (.tmp 71) (.tmp 72) 9, none)) rfl rfl (fun w' hS => val_cat rfl rfl (by (try simp only [List.length_append, List.length_cons, List.length_nil]); omega)) ?_
            refine yS (by kernel_rfl : opAt F12.o23 3 = some (some 4, .assign (.tmp 73), none)) rfl rfl (fun w' hS => val_assign rfl) ?_
            refine Sch.nil ?_
            refine run_inBlock ?_
            refine run_plain (id := 7) (ops := F12.o7) [(0, true), (1, true), (2, true)] (by kernel_rfl) (by kernel_rfl) ?_
            refine yS (by kernel_rfl : opAt F12.o7 0 = some (some 16, .move (.tmp 6), none)) rfl rfl (fun w' hS => val_move rfl) ?_
            refine yS (by kernel_rfl : opAt F12.o7 1 = some (some 17, .binOp .add 3 (.tmp 16) (.const (.int .i64 1)) 3, none)) rfl rfl (fun w' hS => val_addi rfl rfl (by omega) (by omega)) ?_
            refine yS (by kernel_rfl : opAt F12.o7 2 = some (some 6, .assign (.tmp 17), none)) rfl rfl (fun w' hS => val_assign rfl) ?_
            refine Sch.nil ?_
            refine kp (sub_cons 0 rfl rfl (sub_cons 4 rfl rfl (sub_cons 5 rfl rfl (sub_cons 6 rfl (eq_int (by simp only; omega)) (sub_nil _))))) (next1 (i + 1 + 1, (out ++ [32]) ++ ad, false, C1) _ ⟨(by first | omega | (simp only; omega)), hvn, (by simp only [List.length_append, List.length_cons, List.length_nil]; omega), hF, hT⟩ (by first | omega | (simp only; omega)))
          · skip
            refine run_skip (by kernel_rfl) ?_
            refine run_seq (x := F12.c65) (y := F12.c66) (by kernel_rfl) ?_
            refine run_plain (id := 22) (ops := F12.o22) [(0, true)] (by kernel_rfl) (by kernel_rfl) ?_
            refine yS (by kernel_rfl : opAt F12.o22 0 = some (some 5, .assign (.const (.bool false)), none)) rfl rfl (fun w' hS => val_assign rfl) ?_
            refine Sch.nil ?_
            refine run_plain (id := 23) (ops := F12.o23) [(0, true), (1, true), (2, true), (3, true)] (by kernel_rfl) (by kernel_rfl) ?_
            refine yS (by kernel_rfl : opAt F12.o23 0 = some (some 71, .move (.tmp 4), none)) rfl rfl (fun w' hS => val_move rfl) ?_
            refine yS (by kernel_rfl : opAt F12.o23 1 = some (some 72, .move (.tmp 8), none)) rfl rfl (fun w' hS => val_move rfl) ?_
            refine yS (by kernel_rfl : opAt F12.o23 2 = some (some 73, .binOp .add 9 (.tmp 71) (.tmp 72) 9, none)) rfl rfl (fun w' hS => val_cat rfl rfl (by (try simp only [List.length_append, List.length_cons, List.length_nil]); omega)) ?_
            refine yS (by kernel_rfl : opAt F12.o23 3 = some (some 4, .assign (.tmp 73), none)) rfl rfl (fun w' hS => val_assign rfl) ?_
            refine Sch.nil ?_
            refine run_inBlock ?_
            refine run_plain (id := 7) (ops := F12.o7) [(0, true), (1, true), (2, true)] (by kernel_rfl) (by kernel_rfl) ?_
            refine yS (by kernel_rfl : opAt F12.o7 0 = some (some 16, .move (.tmp 6), none)) rfl rfl (fun w' hS => val_move rfl) ?_
            refine yS (by kernel_rfl : opAt F12.o7 1 = some (some 17, .binOp .add 3 (.tmp 16) (.const (.int .i64 1)) 3, none)) rfl rfl (fun w' hS => val_addi rfl rfl (by omega) (by omega)) ?_
            refine yS (by kernel_rfl : opAt F12.o7 2 = some (some 6, .assign (.tmp 17), none)) rfl rfl (fun w' hS => val_assign rfl) ?_
            refine Sch.nil ?_
            refine kp (sub_cons 0 rfl rfl (sub_cons 4 rfl rfl (sub_cons 5 rfl rfl (sub_cons 6 rfl (eq_int (by simp only; omega)) (sub_nil _))))) (next1 (i + 1 + 1, out ++ ad, false, C1) _ ⟨(by first | omega | (simp only; omega)), hvn, (by simp only [List.length_append, List.length_cons, List.length_nil]; omega), hF, hT⟩ (by first | omega | (simp only; omega)))
      · skip
        have hvn := valid_next hil hv (by omega)
        refine run_seq (x := F12.c40) (y := F12.c41) (by kernel_rfl) ?_
        refine run_cut 30 (decide (65 ≤ (s[i]).toNat ∧ (s[i]).toNat ≤ 90)) (C1) ?_ ?_
        · intro hcut
          by_cases hA : 65 ≤ (s[i]).toNat
          · skip
            refine run_plain (id := 13) (ops := F12.o13) [(0, true), (1, true), (2, true), (3, true), (4, true), (5, true), (6, true)] (by kernel_rfl) (by kernel_rfl) ?_
            refine yS (by kernel_rfl : opAt F12.o13 0 = some (some 31, .move (.tmp 7), none)) rfl rfl (fun w' hS => val_move rfl) ?_
            refine yS (by kernel_rfl : opAt F12.o13 1 = some (some 32, .binOp .geq 5 (.tmp 31) (.const (.int .u8 65)) 5, none)) rfl rfl (fun w' hS => val_T (val_geq rfl rfl) (by omega)) ?_
            refine yS (by kernel_rfl : opAt F12.o13 2 = some (some 33, .move (.tmp 32), none)) rfl rfl (fun w' hS => val_move rfl) ?_
            refine yS (by kernel_rfl : opAt F12.o13 3 = some (some 34, .move (.tmp 7), (some (2, true)))) rfl rfl (fun w' hS => val_move rfl) ?_
            refine yS (by kernel_rfl : opAt F12.o13 4 = some (some 35, .binOp .leq 5 (.tmp 34) (.const (.int .u8 90)) 5, (some (2, true)))) rfl rfl (fun w' hS => val_leq rfl rfl) ?_
            refine yS (by kernel_rfl : opAt F12.o13 5 = some (some 36, .pick (.tmp 33) (.tmp 35) (.const (.bool false)), none)) rfl rfl (fun w' hS => val_pick_t rfl rfl) ?_
            refine yS (by kernel_rfl : opAt F12.o13 6 = some (some 30, .assign (.tmp 36), none)) rfl rfl (fun w' hS => val_assign rfl) ?_
            exact Sch.nil (hcut _ _ _ (Stp.refl _ _ _) rfl (eq_bool (decide_eq_decide.2 ⟨fun e => ⟨hA, by omega⟩, fun e => by omega⟩)) (sub_skip rfl (sub_skip rfl (sub_skip rfl (sub_skip rfl (sub_skip rfl (sub_skip rfl (sub_skip rfl (Sub.refl _)))))))))
          · skip
            refine run_plain (id := 13) (ops := F12.o13) [(0, true), (1, true), (2, true), (3, true), (4, true), (5, true), (6, true)] (by kernel_rfl) (by kernel_rfl) ?_
            refine yS (by kernel_rfl : opAt F12.o13 0 = some (some 31, .move (.tmp 7), none)) rfl rfl (fun w' hS => val_move rfl) ?_
            refine yS (by kernel_rfl : opAt F12.o13 1 = some (some 32, .binOp .geq 5 (.tmp 31) (.const (.int .u8 65)) 5, none)) rfl rfl (fun w' hS => val_F (val_geq rfl rfl) (by omega)) ?_
            refine yS (by kernel_rfl : opAt F12.o13 2 = some (some 33, .move (.tmp 32), none)) rfl rfl (fun w' hS => val_move rfl) ?_
            refine pS (by kernel_rfl : opAt F12.o13 3 = some (some 34, .move (.tmp 7), (some (2, true)))) rfl rfl ?_
            refine pS (by kernel_rfl : opAt F12.o13 4 = some (some 35, .binOp .leq 5 (.tmp 34) (.const (.int .u8 90)) 5, (some (2, true)))) rfl rfl ?_
            refine yS (by kernel_rfl : opAt F12.o13 5 = some (some 36, .pick (.tmp 33) (.tmp 35) (.const (.bool false)), none)) rfl rfl (fun w' hS => val_pick_f rfl rfl) ?_
            refine yS (by kernel_rfl : opAt F12.o13 6 = some (some 30, .assign (.tmp 36), none)) rfl rfl (fun w' hS => val_assign rfl) ?_
            exact Sch.nil (hcut _ _ _ (Stp.refl _ _ _) rfl (eq_bool (decide_eq_false (fun e => hA e.1)).symm) (sub_skip rfl (sub_skip rfl (sub_skip rfl (sub_skip rfl (sub_skip rfl (sub_skip rfl (sub_skip rfl (Sub.refl _)))))))))
        intro w5 hs
        replace hF := hF.st hs
        replace hT := hT.trans hs (by simp)
        refine run_if (x := F12.c42) (y := F12.c43) (o := .tmp 30) (by kernel_rfl) rfl (fun h30 => ?_) (fun h30 => ?_)
        · skip
          refine run_plain (id := 14) (ops := F12.o14) [(0, true), (1, true), (2, false), (3, false), (4, true)] (by kernel_rfl) (by kernel_rfl) ?_
          refine yS (by kernel_rfl : opAt F12.o14 0 = some (some 37, .move (.tmp 7), none)) rfl rfl (fun w' hS => val_move rfl) ?_
          refine yS (by kernel_rfl : opAt F12.o14 1 = some (some 38, .binOp .add 5 (.tmp 37) (.const (.int .u8 32)) 5, none)) rfl rfl (fun w' hS => val_add rfl rfl) ?_
          refine aS (by kernel_rfl : opAt F12.o14 2 = some (some 39, .buildSlice 39 1 #[(0, (.tmp 38))], none)) rfl rfl (a_buildSlice (ys := ([⟨IntKind.u8.wrap (((s[i]).toNat : Nat) + 32)⟩] : List U8)) (e := 5) (bytes := 1) hF (by kernel_rfl) rfl (by decide) (by decide) ⟨rfl, ⟨_, rfl, rv_num.2 rfl⟩, trivial⟩) ?_
          rintro v39 w6 ⟨hs, hbs, hF⟩
          refine ⟨trivial, ?_⟩
          replace hT := hT.trans hs (by simp)
          refine nS (by kernel_rfl : opAt F12.o14 3 = some (some 40, .convert 39 9 (.tmp 39), none)) rfl rfl trivial (val_ofBytes (e := 5) hbs rfl Try.underlying39 Try.underlying5 Try.underlying9 (List.cons_ne_nil _ _)) ?_
          obtain ⟨ad, had⟩ : ∃ ad, ad = (([⟨IntKind.u8.wrap (((s[i]).toNat : Nat) + 32)⟩] : List U8).map fun y => UInt8.ofNat y.n.toNat) := ⟨_, rfl⟩
          rw [← had]
          have hxr : ad.length ≤ 2 := by rw [had]; simp
          refine yS (by kernel_rfl : opAt F12.o14 4 = some (some 8, .assign (.tmp 40), none)) rfl rfl (fun w' hS => val_assign rfl) ?_
          refine Sch.nil ?_
          refine run_inBlock ?_
          refine run_seq (x := F12.c53) (y := F12.c58) (by kernel_rfl) ?_
          refine run_seq (x := F12.c54) (y := F12.c55) (by kernel_rfl) ?_
          refine run_plain (id := 19) (ops := F12.o19) [(0, true), (1, true)] (by kernel_rfl) (by kernel_rfl) ?_
          refine yS (by kernel_rfl : opAt F12.o19 0 = some (some 62, .move (.tmp 8), none)) rfl rfl (fun w' hS => val_move rfl) ?_
          refine yS (by kernel_rfl : opAt F12.o19 1 = some (some 63, .binOp .eql 9 (.tmp 62) (.const (.string ⟨#[]⟩)) 9, none)) rfl rfl (fun w' hS => val_eqT rfl rfl) ?_
          refine Sch.nil ?_
          refine run_if (x := F12.c56) (y := F12.c57) (o := .tmp 63) (by kernel_rfl) rfl (fun h63 => ?_) (fun h63 => ?_)
          · skip
            refine run_exit (id := 1) (by kernel_rfl) rfl ?_
            refine run_plain (id := 7) (ops := F12.o7) [(0, true), (1, true), (2, true)] (by kernel_rfl) (by kernel_rfl) ?_
            refine yS (by kernel_rfl : opAt F12.o7 0 = some (some 16, .move (.tmp 6), none)) rfl rfl (fun w' hS => val_move rfl) ?_
            refine yS (by kernel_rfl : opAt F12.o7 1 = some (some 17, .binOp .add 3 (.tmp 16) (.const (.int .i64 1)) 3, none)) rfl rfl (fun w' hS => val_addi rfl rfl (by omega) (by omega)) ?_
            refine yS (by kernel_rfl : opAt F12.o7 2 = some (some 6, .assign (.tmp 17), none)) rfl rfl (fun w' hS => val_assign rfl) ?_
            refine Sch.nil ?_
            refine kp (sub_cons 0 rfl rfl (sub_cons 4 rfl rfl (sub_cons 5 rfl rfl (sub_cons 6 rfl (eq_int (by simp only; omega)) (sub_nil _))))) (next1 (i + 1, out, sep, C1) _ ⟨(by first | omega | (simp only; omega)), hvn, (by first | omega | (simp only; omega)), hF, hT⟩ (by first | omega | (simp only; omega)))
          · skip
            refine run_skip (by kernel_rfl) ?_
            refine run_seq (x := F12.c59) (y := F12.c64) (by kernel_rfl) ?_
            refine run_seq (x := F12.c60) (y := F12.c61) (by kernel_rfl) ?_
            refine run_cut 68 (decide (sep = true ∧ out ≠ [])) (C1) ?_ ?_
            · intro hcut
              cases sep
              · skip
                refine run_plain (id := 20) (ops := F12.o20) [(0, true), (1, true), (2, true), (3, true), (4, true)] (by kernel_rfl) (by kernel_rfl) ?_
                refine yS (by kernel_rfl : opAt F12.o20 0 = some (some 64, .move (.tmp 5), none)) rfl rfl (fun w' hS => val_move rfl) ?_
                refine yS (by kernel_rfl : opAt F12.o20 1 = some (some 65, .move (.tmp 64), none)) rfl rfl (fun w' hS => val_move rfl) ?_
                refine pS (by kernel_rfl : opAt F12.o20 2 = some (some 66, .move (.tmp 4), (some (1, true)))) rfl rfl ?_
                refine pS (by kernel_rfl : opAt F12.o20 3 = some (some 67, .binOp .neq 9 (.tmp 66) (.const (.string ⟨#[]⟩)) 9, (some (1, true)))) rfl rfl ?_
                refine yS (by kernel_rfl : opAt F12.o20 4 = some (some 68, .pick (.tmp 65) (.tmp 67) (.const (.bool false)), none)) rfl rfl (fun w' hS => val_pick_f rfl rfl) ?_
                exact Sch.nil (hcut _ _ _ (Stp.refl _ _ _) rfl (eq_bool (by simp)) (sub_skip rfl (sub_skip rfl (sub_skip rfl (sub_skip rfl (sub_skip rfl (Sub.refl _)))))))
              · skip
                refine run_plain (id := 20) (ops := F12.o20) [(0, true), (1, true), (2, true), (3, true), (4, true)] (by kernel_rfl) (by kernel_rfl) ?_
                refine yS (by kernel_rfl : opAt F12.o20 0 = some (some 64, .move (.tmp 5), none)) rfl rfl (fun w' hS => val_move rfl) ?_
                refine yS (by kernel_rfl : opAt F12.o20 1 = some (some 65, .move (.tmp 64), none)) rfl rfl (fun w' hS => val_move rfl) ?_
                refine yS (by kernel_rfl : opAt F12.o20 2 = some (some 66, .move (.tmp 4), (some (1, true)))) rfl rfl (fun w' hS => val_move rfl) ?_
                refine yS (by kernel_rfl : opAt F12.o20 3 = some (some 67, .binOp .neq 9 (.tmp 66) (.const (.string ⟨#[]⟩)) 9, (some (1, true)))) rfl rfl (fun w' hS => val_neT rfl rfl) ?_
                refine yS (by kernel_rfl : opAt F12.o20 4 = some (some 68, .pick (.tmp 65) (.tmp 67) (.const (.bool false)), none)) rfl rfl (fun w' hS => val_pick_t rfl rfl) ?_
                exact Sch.nil (hcut _ _ _ (Stp.refl _ _ _) rfl (eq_bool (by simp)) (sub_skip rfl (sub_skip rfl (sub_skip rfl (sub_skip rfl (sub_skip rfl (Sub.refl _)))))))
            intro w7 hs
            replace hF := hF.st hs
            replace hT := hT.trans hs (by simp)
            replace hbs := hbs.st hs (by first | decide | (simp <;> omega))
            refine run_if (x := F12.c62) (y := F12.c63) (o := .tmp 68) (by kernel_rfl) rfl (fun h68 => ?_) (fun h68 => ?_)
            · skip
              refine run_plain (id := 21) (ops := F12.o21) [(0, true), (1, true), (2, true)] (by kernel_rfl) (by kernel_rfl) ?_
              refine yS (by kernel_rfl : opAt F12.o21 0 = some (some 69, .move (.tmp 4), none)) rfl rfl (fun w' hS => val_move rfl) ?_
              refine yS (by kernel_rfl : opAt F12.o21 1 = some (some 70, .binOp .add 9 (.tmp 69) (.const (.string ⟨#[32]⟩)) 9, none)) rfl rfl (fun w' hS => val_cat rfl rfl (by (try simp only [List.length_append, List.length_cons, List.length_nil]); omega)) ?_
              refine yS (by kernel_rfl : opAt F12.o21 2 = some (some 4, .assign (.tmp 70), none)) rfl rfl (fun w' hS => val_assign rfl) ?_
              refine Sch.nil ?_
              refine run_seq (x := F12.c65) (y := F12.c66) (by kernel_rfl) ?_
              refine run_plain (id := 22) (ops := F12.o22) [(0, true)] (by kernel_rfl) (by kernel_rfl) ?_
              refine yS (by kernel_rfl : opAt F12.o22 0 = some (some 5, .assign (.const (.bool false)), none)) rfl rfl (fun w' hS => val_assign rfl) ?_
              refine Sch.nil ?_
              refine run_plain (id := 23) (ops := F12.o23) [(0, true), (1, true), (2, true), (3, true)] (by kernel_rfl) (by kernel_rfl) ?_
              refine yS (by kernel_rfl : opAt F12.o23 0 = some (some 71, .move (.tmp 4), none)) rfl rfl (fun w' hS => val_move rfl) ?_
              refine yS (by kernel_rfl : opAt F12.o23 1 = some (some 72, .move (.tmp 8), none)) rfl rfl (fun w' hS => val_move rfl) ?_
              refine yS (by kernel_rfl : opAt F12.o23 2 = some (some 73, .binOp .add 9 (.tmp 71) (.tmp 72) 9, none)) rfl rfl (fun w' hS => val_cat rfl rfl (by (try simp only [List.length_append, List.length_cons, List.length_nil]); omega)) ?_
              refine yS (by kernel_rfl : opAt F12.o23 3 = some (some 4, .assign (.tmp 73), none)) rfl rfl (fun w' hS => val_assign rfl) ?_
              refine Sch.nil ?_
              refine run_inBlock ?_
              refine run_plain (id := 7) (ops := F12.o7) [(0, true), (1, true), (2, true)] (by kernel_rfl) (by kernel_rfl) ?_
              refine yS (by kernel_rfl : opAt F12.o7 0 = some (some 16, .move (.tmp 6), none)) rfl rfl (fun w' hS => val_move rfl) ?_
              refine yS (by kernel_rfl : opAt F12.o7 1 = some (some 17, .binOp .add 3 (.tmp 16) (.const (.int .i64 1)) 3, none)) rfl rfl (fun w' hS => val_addi rfl rfl (by omega) (by omega)) ?_
              refine yS (by kernel_rfl : opAt F12.o7 2 = some (some 6, .assign (.tmp 17), none)) rfl rfl (fun w' hS => val_assign rfl) ?_
              refine Sch.nil ?_
              refine kp (sub_cons 0 rfl rfl (sub_cons 4 rfl rfl (sub_cons 5 rfl rfl (sub_cons 6 rfl (eq_int (by simp only; omega)) (sub_nil _))))) (next1 (i + 1, (out ++ [32]) ++ ad, false, C1) _ ⟨(by first | omega | (simp only; omega)), hvn, (by simp only [List.length_append, List.length_cons, List.length_nil]; omega), hF, hT⟩ (by first | omega | (simp only; omega)))
            · skip
              refine run_skip (by kernel_rfl) ?_
              refine run_seq (x := F12.c65) (y := F12.c66) (by kernel_rfl) ?_
              refine run_plain (id := 22) (ops := F12.o22) [(0, true)] (by kernel_rfl) (by kernel_rfl) ?_
              refine yS (by kernel_rfl : opAt F12.o22 0 = some (some 5, .assign (.const (.bool false)), none)) rfl rfl (fun w' hS => val_assign rfl) ?_
              refine Sch.nil ?_
              refine run_plain (id := 23) (ops := F12.o23) [(0, true), (1, true), (2, true), (3, true)] (by kernel_rfl) (by kernel_rfl) ?_
              refine yS (by kernel_rfl : opAt F12.o23 0 = some (some 71, .move (.tmp 4), none)) rfl rfl (fun w' hS => val_move rfl) ?_
              refine yS (by kernel_rfl : opAt F12.o23 1 = some (some 72, .move (.tmp 8), none)) rfl rfl (fun w' hS => val_move rfl) ?_
              refine yS (by kernel_rfl : opAt F12.o23 2 = some (some 73, .binOp .add 9 (.tmp 71) (.tmp 72) 9, none)) rfl rfl (fun w' hS => val_cat rfl rfl (by (try simp only [List.length_append, List.length_cons, List.length_nil]); omega)) ?_
              refine yS (by kernel_rfl : opAt F12.o23 3 = some (some 4, .assign (.tmp 73), none)) rfl rfl (fun w' hS => val_assign rfl) ?_
              refine Sch.nil ?_
              refine run_inBlock ?_
              refine run_plain (id := 7) (ops := F12.o7) [(0, true), (1, true), (2, true)] (by kernel_rfl) (by kernel_rfl) ?_
              refine yS (by kernel_rfl : opAt F12.o7 0 = some (some 16, .move (.tmp 6), none)) rfl rfl (fun w' hS => val_move rfl) ?_
              refine yS (by kernel_rfl : opAt F12.o7 1 = some (some 17, .binOp .add 3 (.tmp 16) (.const (.int .i64 1)) 3, none)) rfl rfl (fun w' hS => val_addi rfl rfl (by omega) (by omega)) ?_
              refine yS (by kernel_rfl : opAt F12.o7 2 = some (some 6, .assign (.tmp 17), none)) rfl rfl (fun w' hS => val_assign rfl) ?_
              refine Sch.nil ?_
              refine kp (sub_cons 0 rfl rfl (sub_cons 4 rfl rfl (sub_cons 5 rfl rfl (sub_cons 6 rfl (eq_int (by simp only; omega)) (sub_nil _))))) (next1 (i + 1, out ++ ad, false, C1) _ ⟨(by first | omega | (simp only; omega)), hvn, (by simp only [List.length_append, List.length_cons, List.length_nil]; omega), hF, hT⟩ (by first | omega | (simp only; omega)))
        · skip
          refine run_seq (x := F12.c44) (y := F12.c45) (by kernel_rfl) ?_
          refine run_cut 41 (decide ((97 ≤ (s[i]).toNat ∧ (s[i]).toNat ≤ 122) ∨ (48 ≤ (s[i]).toNat ∧ (s[i]).toNat ≤ 57))) (C1) ?_ ?_
          · intro hcut
            by_cases hA : 97 ≤ (s[i]).toNat
            · skip
              by_cases hB : (s[i]).toNat ≤ 122
              · skip
                refine run_plain (id := 15) (ops := F12.o15) [(0, true), (1, true), (2, true), (3, true), (4, true), (5, true), (6, true), (7, true), (8, true), (9, true), (10, true), (11, true), (12, true), (13, true), (14, true)] (by kernel_rfl) (by kernel_rfl) ?_
                refine yS (by kernel_rfl : opAt F12.o15 0 = some (some 42, .move (.tmp 7), none)) rfl rfl (fun w' hS => val_move rfl) ?_
                refine yS (by kernel_rfl : opAt F12.o15 1 = some (some 43, .binOp .geq 5 (.tmp 42) (.const (.int .u8 97)) 5, none)) rfl rfl (fun w' hS => val_T (val_geq rfl rfl) (by omega)) ?_
                refine yS (by kernel_rfl : opAt F12.o15 2 = some (some 44, .move (.tmp 43), none)) rfl rfl (fun w' hS => val_move rfl) ?_
                refine yS (by kernel_rfl : opAt F12.o15 3 = some (some 45, .move (.tmp 7), (some (2, true)))) rfl rfl (fun w' hS => val_move rfl) ?_
                refine yS (by kernel_rfl : opAt F12.o15 4 = some (some 46, .binOp .leq 5 (.tmp 45) (.const (.int .u8 122)) 5, (some (2, true)))) rfl rfl (fun w' hS => val_T (val_leq rfl rfl) (by omega)) ?_
                refine yS (by kernel_rfl : opAt F12.o15 5 = some (some 47, .pick (.tmp 44) (.tmp 46) (.const (.bool false)), none)) rfl rfl (fun w' hS => val_pick_t rfl rfl) ?_
                refine yS (by kernel_rfl : opAt F12.o15 6 = some (some 48, .move (.tmp 47), none)) rfl rfl (fun w' hS => val_move rfl) ?_
                refine pS (by kernel_rfl : opAt F12.o15 7 = some (some 49, .move (.tmp 7), (some (6, false)))) rfl rfl ?_
                refine pS (by kernel_rfl : opAt F12.o15 8 = some (some 50, .binOp .geq 5 (.tmp 49) (.const (.int .u8 48)) 5, (some (6, false)))) rfl rfl ?_
                refine pS (by kernel_rfl : opAt F12.o15 9 = some (some 51, .move (.tmp 50), (some (6, false)))) rfl rfl ?_
                refine pS (by kernel_rfl : opAt F12.o15 10 = some (some 52, .move (.tmp 7), (some (9, true)))) rfl rfl ?_
                refine pS (by kernel_rfl : opAt F12.o15 11 = some (some 53, .binOp .leq 5 (.tmp 52) (.const (.int .u8 57)) 5, (some (9, true)))) rfl rfl ?_
                refine pS (by kernel_rfl : opAt F12.o15 12 = some (some 54, .pick (.tmp 51) (.tmp 53) (.const (.bool false)), (some (6, false)))) rfl rfl ?_
                refine yS (by kernel_rfl : opAt F12.o15 13 = some (some 55, .pick (.tmp 48) (.const (.bool true)) (.tmp 54), none)) rfl rfl (fun w' hS => val_pick_t rfl rfl) ?_
                refine yS (by kernel_rfl : opAt F12.o15 14 = some (some 41, .assign (.tmp 55), none)) rfl rfl (fun w' hS => val_assign rfl) ?_
                exact Sch.nil (hcut _ _ _ (Stp.refl _ _ _) rfl (eq_bool (decide_eq_true (.inl ⟨hA, hB⟩)).symm) (sub_skip rfl (sub_skip rfl (sub_skip rfl (sub_skip rfl (sub_skip rfl (sub_skip rfl (sub_skip rfl (sub_skip rfl (sub_skip rfl (sub_skip rfl (sub_skip rfl (sub_skip rfl (sub_skip rfl (sub_skip rfl (sub_skip rfl (Sub.refl _)))))))))))))))))
              · skip
                refine run_plain (id := 15) (ops := F12.o15) [(0, true), (1, true), (2, true), (3, true), (4, true), (5, true), (6, true), (7, true), (8, true), (9, true), (10, true), (11, true), (12, true), (13, true), (14, true)] (by kernel_rfl) (by kernel_rfl) ?_
                refine yS (by kernel_rfl : opAt F12.o15 0 = some (some 42, .move (.tmp 7), none)) rfl rfl (fun w' hS => val_move rfl) ?_
                refine yS (by kernel_rfl : opAt F12.o15 1 = some (some 43, .binOp .geq 5 (.tmp 42) (.const (.int .u8 97)) 5, none)) rfl rfl (fun w' hS => val_T (val_geq rfl rfl) (by omega)) ?_
                refine yS (by kernel_rfl : opAt F12.o15 2 = some (some 44, .move (.tmp 43), none)) rfl rfl (fun w' hS => val_move rfl) ?_
                refine yS (by kernel_rfl : opAt F12.o15 3 = some (some 45, .move (.tmp 7), (some (2, true)))) rfl rfl (fun w' hS => val_move rfl) ?_
                refine yS (by kernel_rfl : opAt F12.o15 4 = some (some 46, .binOp .leq 5 (.tmp 45) (.const (.int .u8 122)) 5, (some (2, true)))) rfl rfl (fun w' hS => val_F (val_leq rfl rfl) (by omega)) ?_
                refine yS (by kernel_rfl : opAt F12.o15 5 = some (some 47, .pick (.tmp 44) (.tmp 46) (.const (.bool false)), none)) rfl rfl (fun w' hS => val_pick_t rfl rfl) ?_
                refine yS (by kernel_rfl : opAt F12.o15 6 = some (some 48, .move (.tmp 47), none)) rfl rfl (fun w' hS => val_move rfl) ?_
                refine yS (by kernel_rfl : opAt F12.o15 7 = some (some 49, .move (.tmp 7), (some (6, false)))) rfl rfl (fun w' hS => val_move rfl) ?_
                refine yS (by kernel_rfl : opAt F12.o15 8 = some (some 50, .binOp .geq 5 (.tmp 49) (.const (.int .u8 48)) 5, (some (6, false)))) rfl rfl (fun w' hS => val_T (val_geq rfl rfl) (by omega)) ?_
                refine yS (by kernel_rfl : opAt F12.o15 9 = some (some 51, .move (.tmp 50), (some (6, false)))) rfl rfl (fun w' hS => val_move rfl) ?_
                refine yS (by kernel_rfl : opAt F12.o15 10 = some (some 52, .move (.tmp 7), (some (9, true)))) rfl rfl (fun w' hS => val_move rfl) ?_
                refine yS (by kernel_rfl : opAt F12.o15 11 = some (some 53, .binOp .leq 5 (.tmp 52) (.const (.int .u8 57)) 5, (some (9, true)))) rfl rfl (fun w' hS => val_leq rfl rfl) ?_
                refine yS (by kernel_rfl : opAt F12.o15 12 = some (some 54, .pick (.tmp 51) (.tmp 53) (.const (.bool false)), (some (6, false)))) rfl rfl (fun w' hS => val_pick_t rfl rfl) ?_
                refine yS (by kernel_rfl : opAt F12.o15 13 = some (some 55, .pick (.tmp 48) (.const (.bool true)) (.tmp 54), none)) rfl rfl (fun w' hS => val_pick_f rfl rfl) ?_
                refine yS (by kernel_rfl : opAt F12.o15 14 = some (some 41, .assign (.tmp 55), none)) rfl rfl (fun w' hS => val_assign rfl) ?_
                exact Sch.nil (hcut _ _ _ (Stp.refl _ _ _) rfl (eq_bool (decide_eq_decide.2 ⟨fun e => by omega, fun e => by omega⟩)) (sub_skip rfl (sub_skip rfl (sub_skip rfl (sub_skip rfl (sub_skip rfl (sub_skip rfl (sub_skip rfl (sub_skip rfl (sub_skip rfl (sub_skip rfl (sub_skip rfl (sub_skip rfl (sub_skip rfl (sub_skip rfl (sub_skip rfl (Sub.refl _)))))))))))))))))
            · skip
              by_cases hC : 48 ≤ (s[i]).toNat
              · skip
                refine run_plain (id := 15) (ops := F12.o15) [(0, true), (1, true), (2, true), (3, true), (4, true), (5, true), (6, true), (7, true), (8, true), (9, true), (10, true), (11, true), (12, true), (13, true), (14, true)] (by kernel_rfl) (by kernel_rfl) ?_
                refine yS (by kernel_rfl : opAt F12.o15 0 = some (some 42, .move (.tmp 7), none)) rfl rfl (fun w' hS => val_move rfl) ?_
                refine yS (by kernel_rfl : opAt F12.o15 1 = some (some 43, .binOp .geq 5 (.tmp 42) (.const (.int .u8 97)) 5, none)) rfl rfl (fun w' hS => val_F (val_geq rfl rfl) (by omega)) ?_
                refine yS (by kernel_rfl : opAt F12.o15 2 = some (some 44, .move (.tmp 43), none)) rfl rfl (fun w' hS => val_move rfl) ?_
                refine pS (by kernel_rfl : opAt F12.o15 3 = some (some 45, .move (.tmp 7), (some (2, true)))) rfl rfl ?_
                refine pS (by kernel_rfl : opAt F12.o15 4 = some (some 46, .binOp .leq 5 (.tmp 45) (.const (.int .u8 122)) 5, (some (2, true)))) rfl rfl ?_
                refine yS (by kernel_rfl : opAt F12.o15 5 = some (some 47, .pick (.tmp 44) (.tmp 46) (.const (.bool false)), none)) rfl rfl (fun w' hS => val_pick_f rfl rfl) ?_
                refine yS (by kernel_rfl : opAt F12.o15 6 = some (some 48, .move (.tmp 47), none)) rfl rfl (fun w' hS => val_move rfl) ?_
                refine yS (by kernel_rfl : opAt F12.o15 7 = some (some 49, .move (.tmp 7), (some (6, false)))) rfl rfl (fun w' hS => val_move rfl) ?_
                refine yS (by kernel_rfl : opAt F12.o15 8 = some (some 50, .binOp .geq 5 (.tmp 49) (.const (.int .u8 48)) 5, (some (6, false)))) rfl rfl (fun w' hS => val_T (val_geq rfl rfl) (by omega)) ?_
                refine yS (by kernel_rfl : opAt F12.o15 9 = some (some 51, .move (.tmp 50), (some (6, false)))) rfl rfl (fun w' hS => val_move rfl) ?_
                refine yS (by kernel_rfl : opAt F12.o15 10 = some (some 52, .move (.tmp 7), (some (9, true)))) rfl rfl (fun w' hS => val_move rfl) ?_
                refine yS (by kernel_rfl : opAt F12.o15 11 = some (some 53, .binOp .leq 5 (.tmp 52) (.const (.int .u8 57)) 5, (some (9, true)))) rfl rfl (fun w' hS => val_leq rfl rfl) ?_
                refine yS (by kernel_rfl : opAt F12.o15 12 = some (some 54, .pick (.tmp 51) (.tmp 53) (.const (.bool false)), (some (6, false)))) rfl rfl (fun w' hS => val_pick_t rfl rfl) ?_
                refine yS (by kernel_rfl : opAt F12.o15 13 = some (some 55, .pick (.tmp 48) (.const (.bool true)) (.tmp 54), none)) rfl rfl (fun w' hS => val_pick_f rfl rfl) ?_
                refine yS (by kernel_rfl : opAt F12.o15 14 = some (some 41, .assign (.tmp 55), none)) rfl rfl (fun w' hS => val_assign rfl) ?_
                exact Sch.nil (hcut _ _ _ (Stp.refl _ _ _) rfl (eq_bool (decide_eq_decide.2 ⟨fun e => by omega, fun e => by omega⟩)) (sub_skip rfl (sub_skip rfl (sub_skip rfl (sub_skip rfl (sub_skip rfl (sub_skip rfl (sub_skip rfl (sub_skip rfl (sub_skip rfl (sub_skip rfl (sub_skip rfl (sub_skip rfl (sub_skip rfl (sub_skip rfl (sub_skip rfl (Sub.refl _)))))))))))))))))
              · skip
                refine run_plain (id := 15) (ops := F12.o15) [(0, true), (1, true), (2, true), (3, true), (4, true), (5, true), (6, true), (7, true), (8, true), (9, true), (10, true), (11, true), (12, true), (13, true), (14, true)] (by kernel_rfl) (by kernel_rfl) ?_
                refine yS (by kernel_rfl : opAt F12.o15 0 = some (some 42, .move (.tmp 7), none)) rfl rfl (fun w' hS => val_move rfl) ?_
                refine yS (by kernel_rfl : opAt F12.o15 1 = some (some 43, .binOp .geq 5 (.tmp 42) (.const (.int .u8 97)) 5, none)) rfl rfl (fun w' hS => val_F (val_geq rfl rfl) (by omega)) ?_
                refine yS (by kernel_rfl : opAt F12.o15 2 = some (some 44, .move (.tmp 43), none)) rfl rfl (fun w' hS => val_move rfl) ?_
                refine pS (by kernel_rfl : opAt F12.o15 3 = some (some 45, .move (.tmp 7), (some (2, true)))) rfl rfl ?_
                refine pS (by kernel_rfl : opAt F12.o15 4 = some (some 46, .binOp .leq 5 (.tmp 45) (.const (.int .u8 122)) 5, (some (2, true)))) rfl rfl ?_
                refine yS (by kernel_rfl : opAt F12.o15 5 = some (some 47, .pick (.tmp 44) (.tmp 46) (.const (.bool false)), none)) rfl rfl (fun w' hS => val_pick_f rfl rfl) ?_
                refine yS (by kernel_rfl : opAt F12.o15 6 = some (some 48, .move (.tmp 47), none)) rfl rfl (fun w' hS => val_move rfl) ?_
                refine yS (by kernel_rfl : opAt F12.o15 7 = some (some 49, .move (.tmp 7), (some (6, false)))) rfl rfl (fun w' hS => val_move rfl) ?_
                refine yS (by kernel_rfl : opAt F12.o15 8 = some (some 50, .binOp .geq 5 (.tmp 49) (.const (.int .u8 48)) 5, (some (6, false)))) rfl rfl (fun w' hS => val_F (val_geq rfl rfl) (by omega)) ?_
                refine yS (by kernel_rfl : opAt F12.o15 9 = some (some 51, .move (.tmp 50), (some (6, false)))) rfl rfl (fun w' hS => val_move rfl) ?_
                refine pS (by kernel_rfl : opAt F12.o15 10 = some (some 52, .move (.tmp 7), (some (9, true)))) rfl rfl ?_
                refine pS (by kernel_rfl : opAt F12.o15 11 = some (some 53, .binOp .leq 5 (.tmp 52) (.const (.int .u8 57)) 5, (some (9, true)))) rfl rfl ?_
                refine yS (by kernel_rfl : opAt F12.o15 12 = some (some 54, .pick (.tmp 51) (.tmp 53) (.const (.bool false)), (some (6, false)))) rfl rfl (fun w' hS => val_pick_f rfl rfl) ?_
                refine yS (by kernel_rfl : opAt F12.o15 13 = some (some 55, .pick (.tmp 48) (.const (.bool true)) (.tmp 54), none)) rfl rfl (fun w' hS => val_pick_f rfl rfl) ?_
                refine yS (by kernel_rfl : opAt F12.o15 14 = some (some 41, .assign (.tmp 55), none)) rfl rfl (fun w' hS => val_assign rfl) ?_
                exact Sch.nil (hcut _ _ _ (Stp.refl _ _ _) rfl (eq_bool (decide_eq_false (fun e => by omega)).symm) (sub_skip rfl (sub_skip rfl (sub_skip rfl (sub_skip rfl (sub_skip rfl (sub_skip rfl (sub_skip rfl (sub_skip rfl (sub_skip rfl (sub_skip rfl (sub_skip rfl (sub_skip rfl (sub_skip rfl (sub_skip rfl (sub_skip rfl (Sub.refl _)))))))))))))))))
          intro w8 hs
          replace hF := hF.st hs
          replace hT := hT.trans hs (by simp)
          refine run_if (x := F12.c46) (y := F12.c47) (o := .tmp 41) (by kernel_rfl) rfl (fun h41 => ?_) (fun h41 => ?_)
          · skip
            refine run_plain (id := 16) (ops := F12.o16) [(0, true), (1, false), (2, false), (3, true)] (by kernel_rfl) (by kernel_rfl) ?_
            refine yS (by kernel_rfl : opAt F12.o16 0 = some (some 56, .move (.tmp 7), none)) rfl rfl (fun w' hS => val_move rfl) ?_
            refine aS (by kernel_rfl : opAt F12.o16 1 = some (some 57, .buildSlice 39 1 #[(0, (.tmp 56))], none)) rfl rfl (a_buildSlice (ys := ([⟨((s[i]).toNat : Nat)⟩] : List U8)) (e := 5) (bytes := 1) hF (by kernel_rfl) rfl (by decide) (by decide) ⟨rfl, ⟨_, rfl, rv_num.2 rfl⟩, trivial⟩) ?_
            rintro v57 w9 ⟨hs, hbs, hF⟩
            refine ⟨trivial, ?_⟩
            replace hT := hT.trans hs (by simp)
            refine nS (by kernel_rfl : opAt F12.o16 2 = some (some 58, .convert 39 9 (.tmp 57), none)) rfl rfl trivial (val_ofBytes (e := 5) hbs rfl Try.underlying39 Try.underlying5 Try.underlying9 (List.cons_ne_nil _ _)) ?_
            obtain ⟨ad, had⟩ : ∃ ad, ad = (([⟨((s[i]).toNat : Nat)⟩] : List U8).map fun y => UInt8.ofNat y.n.toNat) := ⟨_, rfl⟩
            rw [← had]
            have hxr : ad.length ≤ 2 := by rw [had]; simp
            refine yS (by kernel_rfl : opAt F12.o16 3 = some (some 8, .assign (.tmp 58), none)) rfl rfl (fun w' hS => val_assign rfl) ?_
            refine Sch.nil ?_
            refine run_inBlock ?_
            refine run_seq (x := F12.c53) (y := F12.c58) (by kernel_rfl) ?_
            refine run_seq (x := F12.c54) (y := F12.c55) (by kernel_rfl) ?_
            refine run_plain (id := 19) (ops := F12.o19) [(0, true), (1, true)] (by kernel_rfl) (by kernel_rfl) ?_
            refine yS (by kernel_rfl : opAt F12.o19 0 = some (some 62, .move (.tmp 8), none)) rfl rfl (fun w' hS => val_move rfl) ?_
            refine yS (by kernel_rfl : opAt F12.o19 1 = some (some 63, .binOp .eql 9 (.tmp 62) (.const (.string ⟨#[]⟩)) 9, none)) rfl rfl (fun w' hS => val_eqT rfl rfl) ?_
            refine Sch.nil ?_
            refine run_if (x := F12.c56) (y := F12.c57) (o := .tmp 63) (by kernel_rfl) rfl (fun h63 => ?_) (fun h63 => ?_)
            · skip
              refine run_exit (id := 1) (by kernel_rfl) rfl ?_
              refine run_plain (id := 7) (ops := F12.o7) [(0, true), (1, true), (2, true)] (by kernel_rfl) (by kernel_rfl) ?_
              refine yS (by kernel_rfl : opAt F12.o7 0 = some (some 16, .move (.tmp 6), none)) rfl rfl (fun w' hS => val_move rfl) ?_
              refine yS (by kernel_rfl : opAt F12.o7 1 = some (some 17, .binOp .add 3 (.tmp 16) (.const (.int .i64 1)) 3, none)) rfl rfl (fun w' hS => val_addi rfl rfl (by omega) (by omega)) ?_
              refine yS (by kernel_rfl : opAt F12.o7 2 = some (some 6, .assign (.tmp 17), none)) rfl rfl (fun w' hS => val_assign rfl) ?_
              refine Sch.nil ?_
              refine kp (sub_cons 0 rfl rfl (sub_cons 4 rfl rfl (sub_cons 5 rfl rfl (sub_cons 6 rfl (eq_int (by simp only; omega)) (sub_nil _))))) (next1 (i + 1, out, sep, C1) _ ⟨(by first | omega | (simp only; omega)), hvn, (by first | omega | (simp only; omega)), hF, hT⟩ (by first | omega | (simp only; omega)))
            · skip
              refine run_skip (by kernel_rfl) ?_
              refine run_seq (x := F12.c59) (y := F12.c64) (by kernel_rfl) ?_
              refine run_seq (x := F12.c60) (y := F12.c61) (by kernel_rfl) ?_
              refine run_cut 68 (decide (sep = true ∧ out ≠ [])) (C1) ?_ ?_
              · intro hcut
                cases sep
                · skip
                  refine run_plain (id := 20) (ops := F12.o20) [(0, true), (1, true), (2, true), (3, true), (4, true)] (by kernel_rfl) (by kernel_rfl) ?_
                  refine yS (by kernel_rfl : opAt F12.o20 0 = some (some 64, .move (.tmp 5), none)) rfl rfl (fun w' hS => val_move rfl) ?_
                  refine yS (by kernel_rfl : opAt F12.o20 1 = some (some 65, .move (.tmp 64), none)) rfl rfl (fun w' hS => val_move rfl) ?_
                  refine pS (by kernel_rfl : opAt F12.o20 2 = some (some 66, .move (.tmp 4), (some (1, true)))) rfl rfl ?_
                  refine pS (by kernel_rfl : opAt F12.o20 3 = some (some 67, .binOp .neq 9 (.tmp 66) (.const (.string ⟨#[]⟩)) 9, (some (1, true)))) rfl rfl ?_
                  refine yS (by kernel_rfl : opAt F12.o20 4 = some (some 68, .pick (.tmp 65) (.tmp 67) (.const (.bool false)), none)) rfl rfl (fun w' hS => val_pick_f rfl rfl) ?_
                  exact Sch.nil (hcut _ _ _ (Stp.refl _ _ _) rfl (eq_bool (by simp)) (sub_skip rfl (sub_skip rfl (sub_skip rfl (sub_skip rfl (sub_skip rfl (Sub.refl _)))))))
                · skip
                  refine run_plain (id := 20) (ops := F12.o20) [(0, true), (1, true), (2, true), (3, true), (4, true)] (by kernel_rfl) (by kernel_rfl) ?_
                  refine yS (by kernel_rfl : opAt F12.o20 0 = some (some 64, .move (.tmp 5), none)) rfl rfl (fun w' hS => val_move rfl) ?_
                  refine yS (by kernel_rfl : opAt F12.o20 1 = some (some 65, .move (.tmp 64), none)) rfl rfl (fun w' hS => val_move rfl) ?_
                  refine yS (by kernel_rfl : opAt F12.o20 2 = some (some 66, .move (.tmp 4), (some (1, true)))) rfl rfl (fun w' hS => val_move rfl) ?_
                  refine yS (by kernel_rfl : opAt F12.o20 3 = some (some 67, .binOp .neq 9 (.tmp 66) (.const (.string ⟨#[]⟩)) 9, (some (1, true)))) rfl rfl (fun w' hS => val_neT rfl rfl) ?_
                  refine yS (by kernel_rfl : opAt F12.o20 4 = some (some 68, .pick (.tmp 65) (.tmp 67) (.const (.bool false)), none)) rfl rfl (fun w' hS => val_pick_t rfl rfl) ?_
                  exact Sch.nil (hcut _ _ _ (Stp.refl _ _ _) rfl (eq_bool (by simp)) (sub_skip rfl (sub_skip rfl (sub_skip rfl (sub_skip rfl (sub_skip rfl (Sub.refl _)))))))
              intro w10 hs
              replace hF := hF.st hs
              replace hT := hT.trans hs (by simp)
              replace hbs := hbs.st hs (by first | decide | (simp <;> omega))
              refine run_if (x := F12.c62) (y := F12.c63) (o := .tmp 68) (by kernel_rfl) rfl (fun h68 => ?_) (fun h68 => ?_)
              · skip
                refine run_plain (id := 21) (ops := F12.o21) [(0, true), (1, true), (2, true)] (by kernel_rfl) (by kernel_rfl) ?_
                refine yS (by kernel_rfl : opAt F12.o21 0 = some (some 69, .move (.tmp 4), none)) rfl rfl (fun w' hS => val_move rfl) ?_
                refine yS (by kernel_rfl : opAt F12.o21 1 = some (some 70, .binOp .add 9 (.tmp 69) (.const (.string ⟨#[32]⟩)) 9, none)) rfl rfl (fun w' hS => val_cat rfl rfl (by (try simp only [List.length_append, List.length_cons, List.length_nil]); omega)) ?_
                refine yS (by kernel_rfl : opAt F12.o21 2 = some (some 4, .assign (.tmp 70), none)) rfl rfl (fun w' hS => val_assign rfl) ?_
                refine Sch.nil ?_
                refine run_seq (x := F12.c65) (y := F12.c66) (by kernel_rfl) ?_
                refine run_plain (id := 22) (ops := F12.o22) [(0, true)] (by kernel_rfl) (by kernel_rfl) ?_
                refine yS (by kernel_rfl : opAt F12.o22 0 = some (some 5, .assign (.const (.bool false)), none)) rfl rfl (fun w' hS => val_assign rfl) ?_
                refine Sch.nil ?_
                refine run_plain (id := 23) (ops := F12.o23) [(0, true), (1, true), (2, true), (3, true)] (by kernel_rfl) (by kernel_rfl) ?_
                refine yS (by kernel_rfl : opAt F12.o23 0 = some (some 71, .move (.tmp 4), none)) rfl rfl (fun w' hS => val_move rfl) ?_
                refine yS (by kernel_rfl : opAt F12.o23 1 = some (some 72, .move (.tmp 8), none)) rfl rfl (fun w' hS => val_move rfl) ?_
                refine yS (by kernel_rfl : opAt F12.o23 2 = some (some 73, .binOp .add 9 (.tmp 71) (.tmp 72) 9, none)) rfl rfl (fun w' hS => val_cat rfl rfl (by (try simp only [List.length_append, List.length_cons, List.length_nil]); omega)) ?_
                refine yS (by kernel_rfl : opAt F12.o23 3 = some (some 4, .assign (.tmp 73), none)) rfl rfl (fun w' hS => val_assign rfl) ?_
                refine Sch.nil ?_
                refine run_inBlock ?_
                refine run_plain (id := 7) (ops := F12.o7) [(0, true), (1, true), (2, true)] (by kernel_rfl) (by kernel_rfl) ?_
                refine yS (by kernel_rfl : opAt F12.o7 0 = some (some 16, .move (.tmp 6), none)) rfl rfl (fun w' hS => val_move rfl) ?_
                refine yS (by kernel_rfl : opAt F12.o7 1 = some (some 17, .binOp .add 3 (.tmp 16) (.const (.int .i64 1)) 3, none)) rfl rfl (fun w' hS => val_addi rfl rfl (by omega) (by omega)) ?_
                refine yS (by kernel_rfl : opAt F12.o7 2 = some (some 6, .assign (.tmp 17), none)) rfl rfl (fun w' hS => val_assign rfl) ?_
                refine Sch.nil ?_
                refine kp (sub_cons 0 rfl rfl (sub_cons 4 rfl rfl (sub_cons 5 rfl rfl (sub_cons 6 rfl (eq_int (by simp only; omega)) (sub_nil _))))) (next1 (i + 1, (out ++ [32]) ++ ad, false, C1) _ ⟨(by first | omega | (simp only; omega)), hvn, (by simp only [List.length_append, List.length_cons, List.length_nil]; omega), hF, hT⟩ (by first | omega | (simp only; omega)))
              · skip
                refine run_skip (by kernel_rfl) ?_
                refine run_seq (x := F12.c65) (y := F12.c66) (by kernel_rfl) ?_
                refine run_plain (id := 22) (ops := F12.o22) [(0, true)] (by kernel_rfl) (by kernel_rfl) ?_
                refine yS (by kernel_rfl : opAt F12.o22 0 = some (some 5, .assign (.const (.bool false)), none)) rfl rfl (fun w' hS => val_assign rfl) ?_
                refine Sch.nil ?_
                refine run_plain (id := 23) (ops := F12.o23) [(0, true), (1, true), (2, true), (3, true)] (by kernel_rfl) (by kernel_rfl) ?_
                refine yS (by kernel_rfl : opAt F12.o23 0 = some (some 71, .move (.tmp 4), none)) rfl rfl (fun w' hS => val_move rfl) ?_
                refine yS (by kernel_rfl : opAt F12.o23 1 = some (some 72, .move (.tmp 8), none)) rfl rfl (fun w' hS => val_move rfl) ?_
                refine yS (by kernel_rfl : opAt F12.o23 2 = some (some 73, .binOp .add 9 (.tmp 71) (.tmp 72) 9, none)) rfl rfl (fun w' hS => val_cat rfl rfl (by (try simp only [List.length_append, List.length_cons, List.length_nil]); omega)) ?_
                refine yS (by kernel_rfl : opAt F12.o23 3 = some (some 4, .assign (.tmp 73), none)) rfl rfl (fun w' hS => val_assign rfl) ?_
                refine Sch.nil ?_
                refine run_inBlock ?_
                refine run_plain (id := 7) (ops := F12.o7) [(0, true), (1, true), (2, true)] (by kernel_rfl) (by kernel_rfl) ?_
                refine yS (by kernel_rfl : opAt F12.o7 0 = some (some 16, .move (.tmp 6), none)) rfl rfl (fun w' hS => val_move rfl) ?_
                refine yS (by kernel_rfl : opAt F12.o7 1 = some (some 17, .binOp .add 3 (.tmp 16) (.const (.int .i64 1)) 3, none)) rfl rfl (fun w' hS => val_addi rfl rfl (by omega) (by omega)) ?_
                refine yS (by kernel_rfl : opAt F12.o7 2 = some (some 6, .assign (.tmp 17), none)) rfl rfl (fun w' hS => val_assign rfl) ?_
                refine Sch.nil ?_
                refine kp (sub_cons 0 rfl rfl (sub_cons 4 rfl rfl (sub_cons 5 rfl rfl (sub_cons 6 rfl (eq_int (by simp only; omega)) (sub_nil _))))) (next1 (i + 1, out ++ ad, false, C1) _ ⟨(by first | omega | (simp only; omega)), hvn, (by simp only [List.length_append, List.length_cons, List.length_nil]; omega), hF, hT⟩ (by first | omega | (simp only; omega)))
          · skip
            refine run_seq (x := F12.c48) (y := F12.c49) (by kernel_rfl) ?_
            refine run_plain (id := 17) (ops := F12.o17) [(0, true), (1, true), (2, true)] (by kernel_rfl) (by kernel_rfl) ?_
            refine yS (by kernel_rfl : opAt F12.o17 0 = some (some 60, .move (.tmp 7), none)) rfl rfl (fun w' hS => val_move rfl) ?_
            refine yS (by kernel_rfl : opAt F12.o17 1 = some (some 61, .binOp .neq 5 (.tmp 60) (.const (.int .u8 39)) 5, none)) rfl rfl (fun w' hS => val_neq rfl rfl) ?_
            refine yS (by kernel_rfl : opAt F12.o17 2 = some (some 59, .assign (.tmp 61), none)) rfl rfl (fun w' hS => val_assign rfl) ?_
            refine Sch.nil ?_
            refine run_if (x := F12.c50) (y := F12.c51) (o := .tmp 59) (by kernel_rfl) rfl (fun h59 => ?_) (fun h59 => ?_)
            · skip
              refine run_plain (id := 18) (ops := F12.o18) [(0, true)] (by kernel_rfl) (by kernel_rfl) ?_
              refine yS (by kernel_rfl : opAt F12.o18 0 = some (some 5, .assign (.const (.bool true)), none)) rfl rfl (fun w' hS => val_assign rfl) ?_
              refine Sch.nil ?_
              refine run_inBlock ?_
              refine run_seq (x := F12.c53) (y := F12.c58) (by kernel_rfl) ?_
              refine run_seq (x := F12.c54) (y := F12.c55) (by kernel_rfl) ?_
              refine run_plain (id := 19) (ops := F12.o19) [(0, true), (1, true)] (by kernel_rfl) (by kernel_rfl) ?_
              refine yS (by kernel_rfl : opAt F12.o19 0 = some (some 62, .move (.tmp 8), none)) rfl rfl (fun w' hS => val_move rfl) ?_
              refine yS (by kernel_rfl : opAt F12.o19 1 = some (some 63, .binOp .eql 9 (.tmp 62) (.const (.string ⟨#[]⟩)) 9, none)) rfl rfl (fun w' hS => val_eqT rfl rfl) ?_
              refine Sch.nil ?_
              refine run_if (x := F12.c56) (y := F12.c57) (o := .tmp 63) (by kernel_rfl) rfl (fun h63 => ?_) (fun h63 => ?_)
              · skip
                refine run_exit (id := 1) (by kernel_rfl) rfl ?_
                refine run_plain (id := 7) (ops := F12.o7) [(0, true), (1, true), (2, true)] (by kernel_rfl) (by kernel_rfl) ?_
                refine yS (by kernel_rfl : opAt F12.o7 0 = some (some 16, .move (.tmp 6), none)) rfl rfl (fun w' hS => val_move rfl) ?_
                refine yS (by kernel_rfl : opAt F12.o7 1 = some (some 17, .binOp .add 3 (.tmp 16) (.const (.int .i64 1)) 3, none)) rfl rfl (fun w' hS => val_addi rfl rfl (by omega) (by omega)) ?_
                refine yS (by kernel_rfl : opAt F12.o7 2 = some (some 6, .assign (.tmp 17), none)) rfl rfl (fun w' hS => val_assign rfl) ?_
                refine Sch.nil ?_
                refine kp (sub_cons 0 rfl rfl (sub_cons 4 rfl rfl (sub_cons 5 rfl rfl (sub_cons 6 rfl (eq_int (by simp only; omega)) (sub_nil _))))) (next1 (i + 1, out, true, C1) _ ⟨(by first | omega | (simp only; omega)), hvn, (by first | omega | (simp only; omega)), hF, hT⟩ (by first | omega | (simp only; omega)))
              · skip
                exact absurd rfl h63
            · skip
              refine run_skip (by kernel_rfl) ?_
              refine run_inBlock ?_
              refine run_seq (x := F12.c53) (y := F12.c58) (by kernel_rfl) ?_
              refine run_seq (x := F12.c54) (y := F12.c55) (by kernel_rfl) ?_
              refine run_plain (id := 19) (ops := F12.o19) [(0, true), (1, true)] (by kernel_rfl) (by kernel_rfl) ?_
              refine yS (by kernel_rfl : opAt F12.o19 0 = some (some 62, .move (.tmp 8), none)) rfl rfl (fun w' hS => val_move rfl) ?_
              refine yS (by kernel_rfl : opAt F12.o19 1 = some (some 63, .binOp .eql 9 (.tmp 62) (.const (.string ⟨#[]⟩)) 9, none)) rfl rfl (fun w' hS => val_eqT rfl rfl) ?_
              refine Sch.nil ?_
              refine run_if (x := F12.c56) (y := F12.c57) (o := .tmp 63) (by kernel_rfl) rfl (fun h63 => ?_) (fun h63 => ?_)
              · skip
                refine run_exit (id := 1) (by kernel_rfl) rfl ?_
                refine run_plain (id := 7) (ops := F12.o7) [(0, true), (1, true), (2, true)] (by kernel_rfl) (by kernel_rfl) ?_
                refine yS (by kernel_rfl : opAt F12.o7 0 = some (some 16, .move (.tmp 6), none)) rfl rfl (fun w' hS => val_move rfl) ?_
                refine yS (by kernel_rfl : opAt F12.o7 1 = some (some 17, .binOp .add 3 (.tmp 16) (.const (.int .i64 1)) 3, none)) rfl rfl (fun w' hS => val_addi rfl rfl (by omega) (by omega)) ?_
                refine yS (by kernel_rfl : opAt F12.o7 2 = some (some 6, .assign (.tmp 17), none)) rfl rfl (fun w' hS => val_assign rfl) ?_
                refine Sch.nil ?_
                refine kp (sub_cons 0 rfl rfl (sub_cons 4 rfl rfl (sub_cons 5 rfl rfl (sub_cons 6 rfl (eq_int (by simp only; omega)) (sub_nil _))))) (next1 (i + 1, out, sep, C1) _ ⟨(by first | omega | (simp only; omega)), hvn, (by first | omega | (simp only; omega)), hF, hT⟩ (by first | omega | (simp only; omega)))
              · skip
                exact absurd rfl h63
    · skip
      have hil : i = s.length := by omega
      refine run_exit (id := 0) (by kernel_rfl) rfl ?_
      refine run_seq (x := F12.c69) (y := F12.c70) (by kernel_rfl) ?_
      refine run_plain (id := 24) (ops := F12.o24) [(0, true), (1, true), (2, true)] (by kernel_rfl) (by kernel_rfl) ?_
      refine yS (by kernel_rfl : opAt F12.o24 0 = some (some 74, .move (.tmp 4), none)) rfl rfl (fun w' hS => val_move rfl) ?_
      refine yS (by kernel_rfl : opAt F12.o24 1 = some (some 2, .assign (.tmp 74), none)) rfl rfl (fun w' hS => val_assign rfl) ?_
      refine yS (by kernel_rfl : opAt F12.o24 2 = some (some 3, .assign (.const (.int .i64 0)), none)) rfl rfl (fun w' hS => val_assign rfl) ?_
      refine Sch.nil ?_
      refine run_ret2 (by kernel_rfl) Try.func12 Try.results12 rfl rfl ?_
      exact ⟨⟨out⟩, _, rfl, by simp only; omega, hT.out1 (by decide)⟩
end Go.Proofs.Ythdkcbakiiokiaa
