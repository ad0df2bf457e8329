/- Steps through functions of the program. -/
import Derived.Test.YtgooehopkmbkfaaJU9
import Derived.Test.YtgooehopkmbkfaaL2
set_option linter.unusedVariables false
set_option linter.unusedSimpArgs false
set_option maxRecDepth 100000
set_option maxHeartbeats 4000000
namespace Go.Proofs.Ytgooehopkmbkfaa
open Go.K Go.K.Rep

namespace F29
noncomputable def c0 : Code := bodyOf Try.f29
noncomputable def c1 : Code := cl c0
noncomputable def o0 : Array Oper := rops c1
noncomputable def c2 : Code := cr c0
noncomputable def c3 : Code := cl c2
noncomputable def o1 : Array Oper := rops c3
noncomputable def c4 : Code := cr c2
end F29
theorem range_any {w₀ : World} {C : Nat → Nat} {i b : Nat} {lo hi : Int} (hF : Lim w₀ C) (hi0 : i ≠ 0) (hd : DeckIs w₀ C i b) (h1 : lo ≤ hi) (h2 : -1000000000 ≤ lo) (h3 : hi ≤ 1000000000) :
    Calls Try.prog 29 #[.pointer (some ⟨b, 0, none⟩), .int .i64 lo, .int .i64 hi] w₀ (Ret fun v w' => ∃ n : Int, v = .int .i64 n ∧ lo ≤ n ∧ n ≤ hi ∧ Stp [i] w₀ C w' C ∧ DeckIs w' C i b) := by
  have hF0 := hF
  have hbc := hd.colour
  replace hd := hd.col2 hi0
  have hT := Stp.refl [2, 3, 4, 5, 6, 7, 8, 9] w₀ (col2 C i)
  replace hF := hF.col2 i
  refine calls_start (c := F29.c0) (N := 15) [.pointer (some ⟨b, 0, none⟩), .int .i64 lo, .int .i64 hi] Try.func29 (by kernel_rfl) (by kernel_rfl) (by kernel_rfl) ?_
  show Run _ _ _ _ [(0, .pointer (some ⟨b, 0, none⟩)), (1, .int .i64 lo), (2, .int .i64 hi)] _ _
  refine run_seq (x := F29.c1) (y := F29.c2) (by kernel_rfl) ?_
  refine run_plain (id := 0) (ops := F29.o0) [(0, true)] (by kernel_rfl) (by kernel_rfl) ?_
  refine yS (by kernel_rfl : opAt F29.o0 0 = some (some 6, .assign (.const (.int .i64 0)), none)) rfl rfl (fun w' hS => val_assign rfl) ?_
  refine Sch.nil ?_
  refine run_seq (x := F29.c3) (y := F29.c4) (by kernel_rfl) ?_
  refine run_plain (id := 1) (ops := F29.o1) [(0, true), (1, true), (2, true), (3, true), (4, true), (5, true), (6, false), (7, true), (8, true)] (by kernel_rfl) (by kernel_rfl) ?_
  refine yS (by kernel_rfl : opAt F29.o1 0 = some (some 7, .move (.tmp 1), none)) rfl rfl (fun w' hS => val_move rfl) ?_
  refine yS (by kernel_rfl : opAt F29.o1 1 = some (some 8, .move (.tmp 0), none)) rfl rfl (fun w' hS => val_move rfl) ?_
  refine yS (by kernel_rfl : opAt F29.o1 2 = some (some 9, .move (.tmp 2), none)) rfl rfl (fun w' hS => val_move rfl) ?_
  refine yS (by kernel_rfl : opAt F29.o1 3 = some (some 10, .move (.tmp 1), none)) rfl rfl (fun w' hS => val_move rfl) ?_
  refine yS (by kernel_rfl : opAt F29.o1 4 = some (some 11, .binOp .sub 3 (.tmp 9) (.tmp 10) 3, none)) rfl rfl (fun w' hS => val_subi rfl rfl (by omega) (by omega)) ?_
  refine yS (by kernel_rfl : opAt F29.o1 5 = some (some 12, .binOp .add 3 (.tmp 11) (.const (.int .i64 1)) 3, none)) rfl rfl (fun w' hS => val_addi rfl rfl (by omega) (by omega)) ?_
  refine cS (by kernel_rfl : opAt F29.o1 6 = some (some 13, .call { callee := .value (.func 13), args := #[(.tmp 8), (.tmp 12)], argTypes := #[27, 3] }, none)) rfl rfl (ent Try.call13 rfl) (next_any (n := hi - lo + 1) hF (by decide) hd (by omega) (by omega)) ?_
  rintro vw1 w1 ⟨k, rfl, hk, hs, hd⟩
  refine ⟨trivial, ?_⟩
  replace hF := hF.st hs
  replace hT := hT.trans hs (by simp)
  refine yS (by kernel_rfl : opAt F29.o1 7 = some (some 14, .binOp .add 3 (.tmp 7) (.tmp 13) 3, none)) rfl rfl (fun w' hS => val_addi rfl rfl (by omega) (by omega)) ?_
  refine yS (by kernel_rfl : opAt F29.o1 8 = some (some 6, .assign (.tmp 14), none)) rfl rfl (fun w' hS => val_assign rfl) ?_
  refine Sch.nil ?_
  refine run_ret1 (by kernel_rfl) Try.func29 Try.results29 rfl ?_
  exact ⟨_, rfl, by omega, by omega, hT.out2 (by decide), hd.out hT hF0 hbc⟩
theorem DeckIs.give {w' : World} {C1 C' : Nat → Nat} {b i : Nat} (h : DeckIs w' C1 2 b) (hM : ∀ b, Mc C' b → Mc C1 b) (hb : C' b = i) : DeckIs w' C' i b := let ⟨d, ⟨h1, v, h2, h3⟩, h4⟩ := h; ⟨d, ⟨h1, v, RV.give h2 hM, ⟨hb, h3.at_⟩⟩, h4⟩

namespace F14
noncomputable def c0 : Code := bodyOf Try.f14
noncomputable def c1 : Code := cl c0
noncomputable def o0 : Array Oper := rops c1
noncomputable def c2 : Code := cr c0
noncomputable def c3 : Code := cl c2
noncomputable def o1 : Array Oper := rops c3
noncomputable def c4 : Code := cr c2
noncomputable def c5 : Code := cl c4
noncomputable def c6 : Code := cl c5
noncomputable def o2 : Array Oper := rops c6
noncomputable def c7 : Code := cr c5
noncomputable def c8 : Code := cl c7
noncomputable def c9 : Code := cl c8
noncomputable def c10 : Code := cl c9
noncomputable def c11 : Code := cl c10
noncomputable def o3 : Array Oper := rops c11
noncomputable def c12 : Code := cr c10
noncomputable def c13 : Code := cl c12
noncomputable def c14 : Code := cr c12
noncomputable def c15 : Code := cr c9
noncomputable def c16 : Code := cl c15
noncomputable def c17 : Code := cl c16
noncomputable def c18 : Code := cl c17
noncomputable def o5 : Array Oper := rops c18
noncomputable def c19 : Code := cr c17
noncomputable def c20 : Code := cl c19
noncomputable def c21 : Code := cl c20
noncomputable def c22 : Code := cl c21
noncomputable def c23 : Code := cl c22
noncomputable def o6 : Array Oper := rops c23
noncomputable def c24 : Code := cr c22
noncomputable def c25 : Code := cl c24
noncomputable def c26 : Code := cr c24
noncomputable def c27 : Code := cr c21
noncomputable def c28 : Code := cl c27
noncomputable def c29 : Code := cl c28
noncomputable def c30 : Code := cl c29
noncomputable def o8 : Array Oper := rops c30
noncomputable def c31 : Code := cr c29
noncomputable def c32 : Code := cl c31
noncomputable def o9 : Array Oper := rops c32
noncomputable def c33 : Code := cr c31
noncomputable def c34 : Code := cr c27
noncomputable def o7 : Array Oper := rops c34
noncomputable def c35 : Code := cr c15
noncomputable def o4 : Array Oper := rops c35
noncomputable def c36 : Code := cr c4
noncomputable def c37 : Code := cl c36
noncomputable def o10 : Array Oper := rops c37
noncomputable def c38 : Code := cr c36
end F14
/-- 'Edges'. -/
theorem edges_any {w₀ : World} {C : Nat → Nat} {i0 b n m : Nat} {one : Int} (hF : Lim w₀ C) (hi0 : i0 ≠ 0) (hd : DeckIs w₀ C i0 b) (hn : n ≤ 8) (hm : m ≤ 8) (h1 : 1 ≤ one) (h63 : one ≤ 9223372036854775807) :
    Calls Try.prog 14 #[.pointer (some ⟨b, 0, none⟩), .int .i64 n, .int .i64 m, .int .i64 one] w₀ (Ret fun v w' => ∃ l, EdD n m l ∧ (Stp [i0] w₀ C w' C ∧ RV w' (Mc C) l v ∧ DeckIs w' C i0 b) ∧
      ∀ j, j ≠ 0 → ∃ C', Stp [i0] w₀ C w' C' ∧ Lim w' C' ∧ OwnL w' C' j 46 v l ∧ DeckIs w' C' i0 b) := by
  have hF0 := hF
  have hbc := hd.colour
  replace hd := hd.col2 hi0
  have hT := Stp.refl [2, 3, 4, 5, 6, 7, 8, 9] w₀ (col2 C i0)
  replace hF := hF.col2 i0
  refine calls_start (c := F14.c0) (N := 34) [.pointer (some ⟨b, 0, none⟩), .int .i64 n, .int .i64 m, .int .i64 one] Try.func14 (by kernel_rfl) (by kernel_rfl) (by kernel_rfl) ?_
  show Run _ _ _ _ [(0, .pointer (some ⟨b, 0, none⟩)), (1, .int .i64 n), (2, .int .i64 m), (3, .int .i64 one)] _ _
  refine run_seq (x := F14.c1) (y := F14.c2) (by kernel_rfl) ?_
  refine run_plain (id := 0) (ops := F14.o0) [(0, true)] (by kernel_rfl) (by kernel_rfl) ?_
  refine yS (by kernel_rfl : opAt F14.o0 0 = some (some 8, .assign (.const (.slice none 0 0)), none)) rfl rfl (fun w' hS => val_assign rfl) ?_
  refine Sch.nil ?_
  refine run_seq (x := F14.c3) (y := F14.c4) (by kernel_rfl) ?_
  refine run_plain (id := 1) (ops := F14.o1) [(0, true)] (by kernel_rfl) (by kernel_rfl) ?_
  refine yS (by kernel_rfl : opAt F14.o1 0 = some (some 9, .assign (.const (.slice none 0 0)), none)) rfl rfl (fun w' hS => val_assign rfl) ?_
  refine Sch.nil ?_
  refine run_seq (x := F14.c5) (y := F14.c36) (by kernel_rfl) ?_
  refine run_seq (x := F14.c6) (y := F14.c7) (by kernel_rfl) ?_
  refine run_plain (id := 2) (ops := F14.o2) [(0, true)] (by kernel_rfl) (by kernel_rfl) ?_
  refine yS (by kernel_rfl : opAt F14.o2 0 = some (some 10, .assign (.const (.int .i64 0)), none)) rfl rfl (fun w' hS => val_assign rfl) ?_
  refine Sch.nil ?_
  refine run_block (x := F14.c8) (id := 0) (by kernel_rfl) ?_
  
  refine run_loop (ι := Nat × (List K.Edge) × Value × (Nat → Nat)) (I := fun x w => x.1 ≤ n ∧ DE n m x.1 0 x.2.1 ∧ Lim w x.2.2.2 ∧ Stp [2, 3, 4, 5, 6, 7, 8, 9] w₀ (col2 C i0) w x.2.2.2 ∧ DeckIs w x.2.2.2 2 b ∧ OwnL w x.2.2.2 3 46 x.2.2.1 x.2.1) (e := fun x => [(0, .pointer (some ⟨b, 0, none⟩)), (1, .int .i64 n), (2, .int .i64 m), (3, .int .i64 one), (9, x.2.2.1), (10, .int .i64 x.1)]) (m := fun x => n - x.1) (x₀ := (0, [], .slice none 0 0, col2 C i0)) (body := F14.c9) (by kernel_rfl) (sub_cons 0 rfl rfl (sub_cons 1 rfl rfl (sub_cons 2 rfl rfl (sub_cons 3 rfl rfl (sub_cons 9 rfl rfl (sub_cons 10 rfl rfl (sub_nil _))))))) ?_ ?_
  · exact ⟨Nat.zero_le _, DE.start, hF, hT, hd, OwnL.nil⟩
  intro ⟨i, l, vo, C1⟩ w1 hI next
  obtain ⟨hi, hD, hF, hT, hd, ho⟩ := hI
  try simp only at hi hD hF hT hd ho
  have next1 := next
  clear next
  show Run _ _ _ _ [(0, .pointer (some ⟨b, 0, none⟩)), (1, .int .i64 n), (2, .int .i64 m), (3, .int .i64 one), (9, vo), (10, .int .i64 i)] _ _
  refine run_seq (x := F14.c10) (y := F14.c15) (by kernel_rfl) ?_
  refine run_seq (x := F14.c11) (y := F14.c12) (by kernel_rfl) ?_
  refine run_plain (id := 3) (ops := F14.o3) [(0, true), (1, true), (2, true)] (by kernel_rfl) (by kernel_rfl) ?_
  refine yS (by kernel_rfl : opAt F14.o3 0 = some (some 12, .move (.tmp 10), none)) rfl rfl (fun w' hS => val_move rfl) ?_
  refine yS (by kernel_rfl : opAt F14.o3 1 = some (some 13, .move (.tmp 1), none)) rfl rfl (fun w' hS => val_move rfl) ?_
  refine yS (by kernel_rfl : opAt F14.o3 2 = some (some 14, .binOp .lss 3 (.tmp 12) (.tmp 13) 3, none)) rfl rfl (fun w' hS => val_lss rfl rfl) ?_
  refine Sch.nil ?_
  refine run_if (x := F14.c13) (y := F14.c14) (o := .tmp 14) (by kernel_rfl) rfl (fun h14 => ?_) (fun h14 => ?_)
  · skip
    have hin : i < n := by omega
    refine run_skip (by kernel_rfl) ?_
    refine run_seq (x := F14.c16) (y := F14.c35) (by kernel_rfl) ?_
    refine run_block (x := F14.c17) (id := 1) (by kernel_rfl) ?_
    refine run_seq (x := F14.c18) (y := F14.c19) (by kernel_rfl) ?_
    refine run_plain (id := 5) (ops := F14.o5) [(0, true)] (by kernel_rfl) (by kernel_rfl) ?_
    refine yS (by kernel_rfl : opAt F14.o5 0 = some (some 11, .assign (.const (.int .i64 0)), none)) rfl rfl (fun w' hS => val_assign rfl) ?_
    refine Sch.nil ?_
    refine run_block (x := F14.c20) (id := 2) (by kernel_rfl) ?_
    
    refine run_loop (ι := Nat × (List K.Edge) × Value × (Nat → Nat)) (I := fun x w => x.1 ≤ m ∧ DE n m i x.1 x.2.1 ∧ Lim w x.2.2.2 ∧ Stp [2, 3, 4, 5, 6, 7, 8, 9] w₀ (col2 C i0) w x.2.2.2 ∧ DeckIs w x.2.2.2 2 b ∧ OwnL w x.2.2.2 3 46 x.2.2.1 x.2.1) (e := fun x => [(0, .pointer (some ⟨b, 0, none⟩)), (1, .int .i64 n), (2, .int .i64 m), (3, .int .i64 one), (9, x.2.2.1), (10, .int .i64 i), (11, .int .i64 x.1)]) (m := fun x => m - x.1) (x₀ := (0, l, vo, C1)) (body := F14.c21) (by kernel_rfl) (sub_cons 0 rfl rfl (sub_cons 1 rfl rfl (sub_cons 2 rfl rfl (sub_cons 3 rfl rfl (sub_cons 9 rfl rfl (sub_cons 10 rfl rfl (sub_cons 11 rfl rfl (sub_nil _)))))))) ?_ ?_
    · exact ⟨Nat.zero_le _, hD, hF, hT, hd, ho⟩
    intro ⟨j, l, vo, C1⟩ w2 hI next
    obtain ⟨hj, hD, hF, hT, hd, ho⟩ := hI
    try simp only at hj hD hF hT hd ho
    have next2 := next
    clear next
    show Run _ _ _ _ [(0, .pointer (some ⟨b, 0, none⟩)), (1, .int .i64 n), (2, .int .i64 m), (3, .int .i64 one), (9, vo), (10, .int .i64 i), (11, .int .i64 j)] _ _
    have hln := hD.len
    refine run_seq (x := F14.c22) (y := F14.c27) (by kernel_rfl) ?_
    refine run_seq (x := F14.c23) (y := F14.c24) (by kernel_rfl) ?_
    refine run_plain (id := 6) (ops := F14.o6) [(0, true), (1, true), (2, true)] (by kernel_rfl) (by kernel_rfl) ?_
    refine yS (by kernel_rfl : opAt F14.o6 0 = some (some 17, .move (.tmp 11), none)) rfl rfl (fun w' hS => val_move rfl) ?_
    refine yS (by kernel_rfl : opAt F14.o6 1 = some (some 18, .move (.tmp 2), none)) rfl rfl (fun w' hS => val_move rfl) ?_
    refine yS (by kernel_rfl : opAt F14.o6 2 = some (some 19, .binOp .lss 3 (.tmp 17) (.tmp 18) 3, none)) rfl rfl (fun w' hS => val_lss rfl rfl) ?_
    refine Sch.nil ?_
    refine run_if (x := F14.c25) (y := F14.c26) (o := .tmp 19) (by kernel_rfl) rfl (fun h19 => ?_) (fun h19 => ?_)
    · skip
      have hjm : j < m := by omega
      refine run_skip (by kernel_rfl) ?_
      refine run_seq (x := F14.c28) (y := F14.c34) (by kernel_rfl) ?_
      refine run_block (x := F14.c29) (id := 3) (by kernel_rfl) ?_
      refine run_seq (x := F14.c30) (y := F14.c31) (by kernel_rfl) ?_
      refine run_plain (id := 8) (ops := F14.o8) [(0, true), (1, true), (2, false)] (by kernel_rfl) (by kernel_rfl) ?_
      refine yS (by kernel_rfl : opAt F14.o8 0 = some (some 22, .move (.tmp 0), none)) rfl rfl (fun w' hS => val_move rfl) ?_
      refine yS (by kernel_rfl : opAt F14.o8 1 = some (some 23, .move (.tmp 3), none)) rfl rfl (fun w' hS => val_move rfl) ?_
      refine cS (by kernel_rfl : opAt F14.o8 2 = some (some 24, .call { callee := .value (.func 28), args := #[(.tmp 22), (.tmp 23)], argTypes := #[27, 3] }, none)) rfl rfl (ent Try.call28 rfl) (one_any hF (by decide) hd h1 h63) ?_
      rintro vw3 w3 ⟨t, rfl, hs, hd⟩
      refine ⟨trivial, ?_⟩
      replace hF := hF.st hs
      replace hT := hT.trans hs (by simp)
      replace ho := ho.st hs (by first | decide | (simp <;> omega)) (by first | decide | (simp <;> omega))
      refine Sch.nil ?_
      refine run_cond (x := F14.c32) (y := F14.c33) (o := .tmp 24) (by kernel_rfl) rfl (fun h24 => ?_) (fun h24 => ?_)
      · skip
        refine run_plain (id := 9) (ops := F14.o9) [(0, true), (1, true), (2, true), (3, true), (4, false), (5, true), (6, false), (7, false), (8, true)] (by kernel_rfl) (by kernel_rfl) ?_
        refine yS (by kernel_rfl : opAt F14.o9 0 = some (some 25, .move (.tmp 9), none)) rfl rfl (fun w' hS => val_move rfl) ?_
        refine yS (by kernel_rfl : opAt F14.o9 1 = some (some 26, .move (.tmp 10), none)) rfl rfl (fun w' hS => val_move rfl) ?_
        refine yS (by kernel_rfl : opAt F14.o9 2 = some (some 27, .move (.tmp 11), none)) rfl rfl (fun w' hS => val_move rfl) ?_
        refine yS (by kernel_rfl : opAt F14.o9 3 = some (some 28, .move (.tmp 0), none)) rfl rfl (fun w' hS => val_move rfl) ?_
        refine cS (by kernel_rfl : opAt F14.o9 4 = some (some 29, .call { callee := .value (.func 29), args := #[(.tmp 28), (.const (.int .i64 (-2))), (.const (.int .i64 7))], argTypes := #[27, 3, 3] }, none)) rfl rfl (ent Try.call29 rfl) (range_any (lo := -2) (hi := 7) hF (by decide) hd (by decide) (by decide) (by decide)) ?_
        rintro vw4 w4 ⟨x, rfl, hx1, hx2, hs, hd⟩
        refine ⟨trivial, ?_⟩
        replace hF := hF.st hs
        replace hT := hT.trans hs (by simp)
        replace ho := ho.st hs (by first | decide | (simp <;> omega)) (by first | decide | (simp <;> omega))
        refine yS (by kernel_rfl : opAt F14.o9 5 = some (some 30, .build 46 #[(0, (.tmp 26)), (1, (.tmp 27)), (2, (.tmp 29))], none)) rfl rfl (fun w' hS => val_build (zs := [.int .i64 0, .int .i64 0, .int .i64 0]) (ps := [(0, 1), (1, 1), (2, 1)]) (qs := [(0, [.int .i64 (i : Int)]), (1, [.int .i64 (j : Int)]), (2, [.int .i64 x])]) (cs := [.int .i64 (i : Int), .int .i64 (j : Int), .int .i64 x]) (by kernel_rfl) (by kernel_rfl) (by exact ⟨rfl, ⟨_, rfl, rfl⟩, rfl, ⟨_, rfl, rfl⟩, rfl, ⟨_, rfl, rfl⟩, trivial⟩) rfl) ?_
        refine aS (by kernel_rfl : opAt F14.o9 6 = some (some 31, .buildSlice 23 1 #[(0, (.tmp 30))], none)) rfl rfl (a_buildSlice (ys := ([⟨i, j, x⟩] : List K.Edge)) (e := 46) (bytes := 24) hF (by kernel_rfl) rfl (by decide) (by decide) ⟨rfl, ⟨_, rfl, rv_edge.2 rfl⟩, trivial⟩) ?_
        rintro v31 w5 ⟨hs, g31, hF⟩
        refine ⟨trivial, ?_⟩
        replace hT := hT.trans hs (by simp)
        replace hd := hd.st hs (by first | decide | (simp <;> omega)) (by first | decide | (simp <;> omega))
        replace ho := ho.st hs (by first | decide | (simp <;> omega)) (by first | decide | (simp <;> omega))
        refine aS (by kernel_rfl : opAt F14.o9 7 = some (some 32, .call { callee := .builtin .append, args := #[(.tmp 25), (.tmp 31)], argTypes := #[23, 23] }, none)) rfl rfl (a_append (e := 46) (bytes := 24) hF (by decide) rfl rfl (by kernel_rfl) (by decide) ho g31 (by simp only [List.length_cons, List.length_nil]; omega) (by simp only [List.length_cons, List.length_nil]; omega)) ?_
        rintro v32 w6 ⟨Cw6, hs, ho, hF⟩
        refine ⟨trivial, ?_⟩
        replace hT := hT.trans hs (by simp)
        replace hd := hd.st hs (by first | decide | (simp <;> omega)) (by first | decide | (simp <;> omega))
        replace g31 := g31.st hs (by first | decide | (simp <;> omega))
        refine yS (by kernel_rfl : opAt F14.o9 8 = some (some 9, .assign (.tmp 32), none)) rfl rfl (fun w' hS => val_assign rfl) ?_
        refine Sch.nil ?_
        refine run_inBlock ?_
        refine run_plain (id := 7) (ops := F14.o7) [(0, true), (1, true), (2, true)] (by kernel_rfl) (by kernel_rfl) ?_
        refine yS (by kernel_rfl : opAt F14.o7 0 = some (some 20, .move (.tmp 11), none)) rfl rfl (fun w' hS => val_move rfl) ?_
        refine yS (by kernel_rfl : opAt F14.o7 1 = some (some 21, .binOp .add 3 (.tmp 20) (.const (.int .i64 1)) 3, none)) rfl rfl (fun w' hS => val_addi rfl rfl (by omega) (by omega)) ?_
        refine yS (by kernel_rfl : opAt F14.o7 2 = some (some 11, .assign (.tmp 21), none)) rfl rfl (fun w' hS => val_assign rfl) ?_
        refine Sch.nil ?_
        refine kp (sub_cons 0 rfl rfl (sub_cons 1 rfl rfl (sub_cons 2 rfl rfl (sub_cons 3 rfl rfl (sub_cons 9 rfl rfl (sub_cons 10 rfl rfl (sub_cons 11 rfl (eq_int (by simp)) (sub_nil _)))))))) (next2 (j + 1, l ++ [⟨i, j, x⟩], v32, Cw6) _ ⟨(by first | omega | (simp only; omega)), (hD.push hin hjm hx1 hx2), hF, hT, hd, ho⟩ (by first | omega | (simp only; omega)))
      · skip
        refine run_skip (by kernel_rfl) ?_
        refine run_inBlock ?_
        refine run_plain (id := 7) (ops := F14.o7) [(0, true), (1, true), (2, true)] (by kernel_rfl) (by kernel_rfl) ?_
        refine yS (by kernel_rfl : opAt F14.o7 0 = some (some 20, .move (.tmp 11), none)) rfl rfl (fun w' hS => val_move rfl) ?_
        refine yS (by kernel_rfl : opAt F14.o7 1 = some (some 21, .binOp .add 3 (.tmp 20) (.const (.int .i64 1)) 3, none)) rfl rfl (fun w' hS => val_addi rfl rfl (by omega) (by omega)) ?_
        refine yS (by kernel_rfl : opAt F14.o7 2 = some (some 11, .assign (.tmp 21), none)) rfl rfl (fun w' hS => val_assign rfl) ?_
        refine Sch.nil ?_
        refine kp (sub_cons 0 rfl rfl (sub_cons 1 rfl rfl (sub_cons 2 rfl rfl (sub_cons 3 rfl rfl (sub_cons 9 rfl rfl (sub_cons 10 rfl rfl (sub_cons 11 rfl (eq_int (by simp)) (sub_nil _)))))))) (next2 (j + 1, l, vo, C1) _ ⟨(by first | omega | (simp only; omega)), hD.skip, hF, hT, hd, ho⟩ (by first | omega | (simp only; omega)))
    · skip
      have hjm : j = m := by omega
      rw [hjm] at hD
      refine run_exit (id := 2) (by kernel_rfl) rfl ?_
      refine run_inBlock ?_
      refine run_plain (id := 4) (ops := F14.o4) [(0, true), (1, true), (2, true)] (by kernel_rfl) (by kernel_rfl) ?_
      refine yS (by kernel_rfl : opAt F14.o4 0 = some (some 15, .move (.tmp 10), none)) rfl rfl (fun w' hS => val_move rfl) ?_
      refine yS (by kernel_rfl : opAt F14.o4 1 = some (some 16, .binOp .add 3 (.tmp 15) (.const (.int .i64 1)) 3, none)) rfl rfl (fun w' hS => val_addi rfl rfl (by omega) (by omega)) ?_
      refine yS (by kernel_rfl : opAt F14.o4 2 = some (some 10, .assign (.tmp 16), none)) rfl rfl (fun w' hS => val_assign rfl) ?_
      refine Sch.nil ?_
      refine kp (sub_cons 0 rfl rfl (sub_cons 1 rfl rfl (sub_cons 2 rfl rfl (sub_cons 3 rfl rfl (sub_cons 9 rfl rfl (sub_cons 10 rfl (eq_int (by simp)) (sub_nil _))))))) (next1 (i + 1, l, vo, C1) _ ⟨(by first | omega | (simp only; omega)), (hD.row hm), hF, hT, hd, ho⟩ (by first | omega | (simp only; omega)))
  · skip
    have hin : i = n := by omega
    rw [hin] at hD
    refine run_exit (id := 0) (by kernel_rfl) rfl ?_
    refine run_seq (x := F14.c37) (y := F14.c38) (by kernel_rfl) ?_
    refine run_plain (id := 10) (ops := F14.o10) [(0, true), (1, true)] (by kernel_rfl) (by kernel_rfl) ?_
    refine yS (by kernel_rfl : opAt F14.o10 0 = some (some 33, .move (.tmp 9), none)) rfl rfl (fun w' hS => val_move rfl) ?_
    refine yS (by kernel_rfl : opAt F14.o10 1 = some (some 8, .assign (.tmp 33), none)) rfl rfl (fun w' hS => val_assign rfl) ?_
    refine Sch.nil ?_
    refine run_ret1 (by kernel_rfl) Try.func14 Try.results14 rfl ?_
    have hln := hD.len
    refine ⟨l, hD.fin hn, ⟨hT.out2 (by decide), ho.out hT hF0 (Mc_col2 C i0) (fun b _ => col2_lt C i0 (by decide) b) (by omega), hd.out hT hF0 hbc⟩, fun j hj => ?_⟩
    obtain ⟨Cg, hcg, hFg, hMg, hog⟩ := ho.give hT hF0 (Mc_col2 C i0) (fun b _ => col2_lt C i0 (by decide) b) (by decide) j hj
    exact ⟨Cg, (hT.out2 (by decide)).give hcg, hFg, hog, hd.give hMg (by rw [hcg b (hF0 b (by rw [hbc]; exact hi0)), hbc])⟩
end Go.Proofs.Ytgooehopkmbkfaa
