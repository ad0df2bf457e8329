/- Steps through functions of the program. -/
import Derived.Test.YtfmdkdfhnkennaaKC7
import Derived.Test.YtfmdkdfhnkennaaKComp3
set_option linter.unusedVariables false
set_option linter.unusedSimpArgs false
set_option maxRecDepth 100000
set_option maxHeartbeats 400000
namespace Go.Proofs.Ytfmdkdfhnkennaa
open Go.K Go.K.Rep

theorem DeckIs.give {w' : World} {C1 C' : Nat → Nat} {b i : Nat} (h : DeckIs w' C1 2 b) (hM : ∀ b, Mc C' b → Mc C1 b) (hb : C' b = i) : DeckIs w' C' i b := let ⟨d, ⟨h1, v, h2, h3⟩, h4⟩ := h; ⟨d, ⟨h1, v, RV.give h2 hM, ⟨hb, h3.at_⟩⟩, h4⟩

namespace F11
noncomputable def c0 : Code := bodyOf Try.f11
noncomputable def c1 : Code := cl c0
noncomputable def o0 : Array Oper := rops c1
noncomputable def c2 : Code := cr c0
noncomputable def c3 : Code := cl c2
noncomputable def o1 : Array Oper := rops c3
noncomputable def c4 : Code := cr c2
noncomputable def c5 : Code := cl c4
noncomputable def c6 : Code := cl c5
noncomputable def o2 : Array Oper := rops c6
noncomputable def c7 : Code := cr c5
noncomputable def c8 : Code := cl c7
noncomputable def c9 : Code := cl c8
noncomputable def c10 : Code := cl c9
noncomputable def c11 : Code := cl c10
noncomputable def o3 : Array Oper := rops c11
noncomputable def c12 : Code := cr c10
noncomputable def c13 : Code := cl c12
noncomputable def c14 : Code := cr c12
noncomputable def c15 : Code := cr c9
noncomputable def c16 : Code := cl c15
noncomputable def c17 : Code := cl c16
noncomputable def c18 : Code := cl c17
noncomputable def o5 : Array Oper := rops c18
noncomputable def c19 : Code := cr c17
noncomputable def c20 : Code := cl c19
noncomputable def c21 : Code := cl c20
noncomputable def c22 : Code := cl c21
noncomputable def c23 : Code := cl c22
noncomputable def o6 : Array Oper := rops c23
noncomputable def c24 : Code := cr c22
noncomputable def c25 : Code := cl c24
noncomputable def c26 : Code := cr c24
noncomputable def c27 : Code := cr c21
noncomputable def c28 : Code := cl c27
noncomputable def c29 : Code := cl c28
noncomputable def c30 : Code := cl c29
noncomputable def o8 : Array Oper := rops c30
noncomputable def c31 : Code := cr c29
noncomputable def c32 : Code := cl c31
noncomputable def c33 : Code := cl c32
noncomputable def c34 : Code := cl c33
noncomputable def c35 : Code := cl c34
noncomputable def o9 : Array Oper := rops c35
noncomputable def c36 : Code := cr c34
noncomputable def c37 : Code := cl c36
noncomputable def c38 : Code := cr c36
noncomputable def c39 : Code := cr c33
noncomputable def c40 : Code := cl c39
noncomputable def c41 : Code := cl c40
noncomputable def c42 : Code := cl c41
noncomputable def o11 : Array Oper := rops c42
noncomputable def c43 : Code := cr c41
noncomputable def c44 : Code := cl c43
noncomputable def c45 : Code := cl c44
noncomputable def c46 : Code := cl c45
noncomputable def c47 : Code := cl c46
noncomputable def o12 : Array Oper := rops c47
noncomputable def c48 : Code := cr c46
noncomputable def c49 : Code := cl c48
noncomputable def c50 : Code := cr c48
noncomputable def c51 : Code := cr c45
noncomputable def c52 : Code := cl c51
noncomputable def c53 : Code := cl c52
noncomputable def c54 : Code := cl c53
noncomputable def o14 : Array Oper := rops c54
noncomputable def c55 : Code := cr c53
noncomputable def c56 : Code := cl c55
noncomputable def o15 : Array Oper := rops c56
noncomputable def c57 : Code := cr c55
noncomputable def c58 : Code := cr c51
noncomputable def o13 : Array Oper := rops c58
noncomputable def c59 : Code := cr c39
noncomputable def o10 : Array Oper := rops c59
noncomputable def c60 : Code := cr c27
noncomputable def o7 : Array Oper := rops c60
noncomputable def c61 : Code := cr c15
noncomputable def o4 : Array Oper := rops c61
noncomputable def c62 : Code := cr c4
noncomputable def c63 : Code := cl c62
noncomputable def o16 : Array Oper := rops c63
noncomputable def c64 : Code := cr c62
end F11
/-- 'Bonds'. -/
theorem bonds_any {w₀ : World} {C : Nat → Nat} {i b R I : Nat} {one : Int} (hF : Lim w₀ C) (hi : i ≠ 0) (hd : DeckIs w₀ C i b) (hR : R ≤ 7) (hI : I ≤ 7) (h1 : 1 ≤ one) (h63 : one ≤ 9223372036854775807) :
    Calls Try.prog 11 #[.pointer (some ⟨b, 0, none⟩), .int .i64 R, .int .i64 I, .int .i64 one] w₀ (Ret fun v w' => ∃ l, Dlt R I l ∧ (Stp [i] w₀ C w' C ∧ RV w' (Mc C) l v ∧ DeckIs w' C i b) ∧
      ∀ j, j ≠ 0 → ∃ C', Stp [i] w₀ C w' C' ∧ Lim w' C' ∧ OwnL w' C' j 50 v l ∧ DeckIs w' C' i b) := by
  have hF0 := hF
  have hbc := hd.colour
  replace hd := hd.col2 hi
  have hT := Stp.refl [2, 3, 4, 5, 6, 7, 8, 9] w₀ (col2 C i)
  replace hF := hF.col2 i
  refine calls_start (c := F11.c0) (N := 53) [.pointer (some ⟨b, 0, none⟩), .int .i64 R, .int .i64 I, .int .i64 one] Try.func11 (by kernel_rfl) (by kernel_rfl) (by kernel_rfl) ?_
  show Run _ _ _ _ [(0, .pointer (some ⟨b, 0, none⟩)), (1, .int .i64 R), (2, .int .i64 I), (3, .int .i64 one)] _ _
  refine run_seq (x := F11.c1) (y := F11.c2) (by kernel_rfl) ?_
  refine run_plain (id := 0) (ops := F11.o0) [(0, true)] (by kernel_rfl) (by kernel_rfl) ?_
  refine yS (by kernel_rfl : opAt F11.o0 0 = some (some 8, .assign (.const (.slice none 0 0)), none)) rfl rfl (fun w' hS => val_assign rfl) ?_
  refine Sch.nil ?_
  refine run_seq (x := F11.c3) (y := F11.c4) (by kernel_rfl) ?_
  refine run_plain (id := 1) (ops := F11.o1) [(0, true)] (by kernel_rfl) (by kernel_rfl) ?_
  refine yS (by kernel_rfl : opAt F11.o1 0 = some (some 9, .assign (.const (.slice none 0 0)), none)) rfl rfl (fun w' hS => val_assign rfl) ?_
  refine Sch.nil ?_
  refine run_seq (x := F11.c5) (y := F11.c62) (by kernel_rfl) ?_
  refine run_seq (x := F11.c6) (y := F11.c7) (by kernel_rfl) ?_
  refine run_plain (id := 2) (ops := F11.o2) [(0, true)] (by kernel_rfl) (by kernel_rfl) ?_
  refine yS (by kernel_rfl : opAt F11.o2 0 = some (some 10, .assign (.const (.int .i64 0)), none)) rfl rfl (fun w' hS => val_assign rfl) ?_
  refine Sch.nil ?_
  refine run_block (x := F11.c8) (id := 0) (by kernel_rfl) ?_
  
  refine run_loop (ι := Nat × (List Bond) × Value × (Nat → Nat)) (I := fun x w => x.1 ≤ R ∧ Dl R I x.1 1 0 0 x.2.1 ∧ Lim w x.2.2.2 ∧ Stp [2, 3, 4, 5, 6, 7, 8, 9] w₀ (col2 C i) w x.2.2.2 ∧ DeckIs w x.2.2.2 2 b ∧ OwnL w x.2.2.2 3 50 x.2.2.1 x.2.1) (e := fun x => [(0, .pointer (some ⟨b, 0, none⟩)), (1, .int .i64 R), (2, .int .i64 I), (3, .int .i64 one), (9, x.2.2.1), (10, .int .i64 x.1)]) (m := fun x => R - x.1) (x₀ := (0, [], .slice none 0 0, col2 C i)) (body := F11.c9) (by kernel_rfl) (sub_cons 0 rfl rfl (sub_cons 1 rfl rfl (sub_cons 2 rfl rfl (sub_cons 3 rfl rfl (sub_cons 9 rfl rfl (sub_cons 10 rfl rfl (sub_nil _))))))) ?_ ?_
  · exact ⟨Nat.zero_le _, Dl.nil _ _ _ _ _ _, hF, hT, hd, OwnL.nil⟩
  intro ⟨r, l, vo, C1⟩ w1 hI next
  obtain ⟨hr, hD, hF, hT, hd, ho⟩ := hI
  try simp only at hr hD hF hT hd ho
  have next1 := next
  clear next
  show Run _ _ _ _ [(0, .pointer (some ⟨b, 0, none⟩)), (1, .int .i64 R), (2, .int .i64 I), (3, .int .i64 one), (9, vo), (10, .int .i64 r)] _ _
  refine run_seq (x := F11.c10) (y := F11.c15) (by kernel_rfl) ?_
  refine run_seq (x := F11.c11) (y := F11.c12) (by kernel_rfl) ?_
  refine run_plain (id := 3) (ops := F11.o3) [(0, true), (1, true), (2, true)] (by kernel_rfl) (by kernel_rfl) ?_
  refine yS (by kernel_rfl : opAt F11.o3 0 = some (some 14, .move (.tmp 10), none)) rfl rfl (fun w' hS => val_move rfl) ?_
  refine yS (by kernel_rfl : opAt F11.o3 1 = some (some 15, .move (.tmp 1), none)) rfl rfl (fun w' hS => val_move rfl) ?_
  refine yS (by kernel_rfl : opAt F11.o3 2 = some (some 16, .binOp .lss 3 (.tmp 14) (.tmp 15) 3, none)) rfl rfl (fun w' hS => val_lss rfl rfl) ?_
  refine Sch.nil ?_
  refine run_if (x := F11.c13) (y := F11.c14) (o := .tmp 16) (by kernel_rfl) rfl (fun h16 => ?_) (fun h16 => ?_)
  · skip
    have hrR : r < R := by omega
    refine run_skip (by kernel_rfl) ?_
    refine run_seq (x := F11.c16) (y := F11.c61) (by kernel_rfl) ?_
    refine run_block (x := F11.c17) (id := 1) (by kernel_rfl) ?_
    refine run_seq (x := F11.c18) (y := F11.c19) (by kernel_rfl) ?_
    refine run_plain (id := 5) (ops := F11.o5) [(0, true)] (by kernel_rfl) (by kernel_rfl) ?_
    refine yS (by kernel_rfl : opAt F11.o5 0 = some (some 11, .assign (.const (.int .i64 1)), none)) rfl rfl (fun w' hS => val_assign rfl) ?_
    refine Sch.nil ?_
    refine run_block (x := F11.c20) (id := 2) (by kernel_rfl) ?_
    
    refine run_loop (ι := Nat × (List Bond) × Value × (Nat → Nat)) (I := fun x w => 1 ≤ x.1 ∧ x.1 ≤ I + 1 ∧ Dl R I r x.1 0 0 x.2.1 ∧ Lim w x.2.2.2 ∧ Stp [2, 3, 4, 5, 6, 7, 8, 9] w₀ (col2 C i) w x.2.2.2 ∧ DeckIs w x.2.2.2 2 b ∧ OwnL w x.2.2.2 3 50 x.2.2.1 x.2.1) (e := fun x => [(0, .pointer (some ⟨b, 0, none⟩)), (1, .int .i64 R), (2, .int .i64 I), (3, .int .i64 one), (9, x.2.2.1), (10, .int .i64 r), (11, .int .i64 x.1)]) (m := fun x => I + 1 - x.1) (x₀ := (1, l, vo, C1)) (body := F11.c21) (by kernel_rfl) (sub_cons 0 rfl rfl (sub_cons 1 rfl rfl (sub_cons 2 rfl rfl (sub_cons 3 rfl rfl (sub_cons 9 rfl rfl (sub_cons 10 rfl rfl (sub_cons 11 rfl rfl (sub_nil _)))))))) ?_ ?_
    · exact ⟨Nat.le_refl _, (by simp only; omega), hD, hF, hT, hd, ho⟩
    intro ⟨p, l, vo, C1⟩ w2 hI next
    obtain ⟨hp1, hp, hD, hF, hT, hd, ho⟩ := hI
    try simp only at hp1 hp hD hF hT hd ho
    have next2 := next
    clear next
    show Run _ _ _ _ [(0, .pointer (some ⟨b, 0, none⟩)), (1, .int .i64 R), (2, .int .i64 I), (3, .int .i64 one), (9, vo), (10, .int .i64 r), (11, .int .i64 p)] _ _
    refine run_seq (x := F11.c22) (y := F11.c27) (by kernel_rfl) ?_
    refine run_seq (x := F11.c23) (y := F11.c24) (by kernel_rfl) ?_
    refine run_plain (id := 6) (ops := F11.o6) [(0, true), (1, true), (2, true)] (by kernel_rfl) (by kernel_rfl) ?_
    refine yS (by kernel_rfl : opAt F11.o6 0 = some (some 19, .move (.tmp 11), none)) rfl rfl (fun w' hS => val_move rfl) ?_
    refine yS (by kernel_rfl : opAt F11.o6 1 = some (some 20, .move (.tmp 2), none)) rfl rfl (fun w' hS => val_move rfl) ?_
    refine yS (by kernel_rfl : opAt F11.o6 2 = some (some 21, .binOp .leq 3 (.tmp 19) (.tmp 20) 3, none)) rfl rfl (fun w' hS => val_leq rfl rfl) ?_
    refine Sch.nil ?_
    refine run_if (x := F11.c25) (y := F11.c26) (o := .tmp 21) (by kernel_rfl) rfl (fun h21 => ?_) (fun h21 => ?_)
    · skip
      have hpI : p ≤ I := by omega
      refine run_skip (by kernel_rfl) ?_
      refine run_seq (x := F11.c28) (y := F11.c60) (by kernel_rfl) ?_
      refine run_block (x := F11.c29) (id := 3) (by kernel_rfl) ?_
      refine run_seq (x := F11.c30) (y := F11.c31) (by kernel_rfl) ?_
      refine run_plain (id := 8) (ops := F11.o8) [(0, true), (1, true), (2, true)] (by kernel_rfl) (by kernel_rfl) ?_
      refine yS (by kernel_rfl : opAt F11.o8 0 = some (some 24, .move (.tmp 10), none)) rfl rfl (fun w' hS => val_move rfl) ?_
      refine yS (by kernel_rfl : opAt F11.o8 1 = some (some 25, .binOp .add 3 (.tmp 24) (.const (.int .i64 1)) 3, none)) rfl rfl (fun w' hS => val_addi rfl rfl (by omega) (by omega)) ?_
      refine yS (by kernel_rfl : opAt F11.o8 2 = some (some 12, .assign (.tmp 25), none)) rfl rfl (fun w' hS => val_assign rfl) ?_
      refine Sch.nil ?_
      refine run_block (x := F11.c32) (id := 4) (by kernel_rfl) ?_
      
      refine run_loop (ι := Nat × (List Bond) × Value × (Nat → Nat)) (I := fun x w => r < x.1 ∧ x.1 ≤ R ∧ Dl R I r p x.1 1 x.2.1 ∧ Lim w x.2.2.2 ∧ Stp [2, 3, 4, 5, 6, 7, 8, 9] w₀ (col2 C i) w x.2.2.2 ∧ DeckIs w x.2.2.2 2 b ∧ OwnL w x.2.2.2 3 50 x.2.2.1 x.2.1) (e := fun x => [(0, .pointer (some ⟨b, 0, none⟩)), (1, .int .i64 R), (2, .int .i64 I), (3, .int .i64 one), (9, x.2.2.1), (10, .int .i64 r), (11, .int .i64 p), (12, .int .i64 x.1)]) (m := fun x => R - x.1) (x₀ := (r + 1, l, vo, C1)) (body := F11.c33) (by kernel_rfl) (sub_cons 0 rfl rfl (sub_cons 1 rfl rfl (sub_cons 2 rfl rfl (sub_cons 3 rfl rfl (sub_cons 9 rfl rfl (sub_cons 10 rfl rfl (sub_cons 11 rfl rfl (sub_cons 12 rfl (eq_int (by simp)) (sub_nil _))))))))) ?_ ?_
      · exact ⟨Nat.lt_succ_self _, hrR, (hD.to (fun x h1 h2 => by unfold okR at h1; unfold Cur at *; omega)), hF, hT, hd, ho⟩
      intro ⟨s, l, vo, C1⟩ w3 hI next
      obtain ⟨hs1, hsR, hD, hF, hT, hd, ho⟩ := hI
      try simp only at hs1 hsR hD hF hT hd ho
      have next3 := next
      clear next
      show Run _ _ _ _ [(0, .pointer (some ⟨b, 0, none⟩)), (1, .int .i64 R), (2, .int .i64 I), (3, .int .i64 one), (9, vo), (10, .int .i64 r), (11, .int .i64 p), (12, .int .i64 s)] _ _
      refine run_seq (x := F11.c34) (y := F11.c39) (by kernel_rfl) ?_
      refine run_seq (x := F11.c35) (y := F11.c36) (by kernel_rfl) ?_
      refine run_plain (id := 9) (ops := F11.o9) [(0, true), (1, true), (2, true)] (by kernel_rfl) (by kernel_rfl) ?_
      refine yS (by kernel_rfl : opAt F11.o9 0 = some (some 26, .move (.tmp 12), none)) rfl rfl (fun w' hS => val_move rfl) ?_
      refine yS (by kernel_rfl : opAt F11.o9 1 = some (some 27, .move (.tmp 1), none)) rfl rfl (fun w' hS => val_move rfl) ?_
      refine yS (by kernel_rfl : opAt F11.o9 2 = some (some 28, .binOp .lss 3 (.tmp 26) (.tmp 27) 3, none)) rfl rfl (fun w' hS => val_lss rfl rfl) ?_
      refine Sch.nil ?_
      refine run_if (x := F11.c37) (y := F11.c38) (o := .tmp 28) (by kernel_rfl) rfl (fun h28 => ?_) (fun h28 => ?_)
      · skip
        have hsR2 : s < R := by omega
        refine run_skip (by kernel_rfl) ?_
        refine run_seq (x := F11.c40) (y := F11.c59) (by kernel_rfl) ?_
        refine run_block (x := F11.c41) (id := 5) (by kernel_rfl) ?_
        refine run_seq (x := F11.c42) (y := F11.c43) (by kernel_rfl) ?_
        refine run_plain (id := 11) (ops := F11.o11) [(0, true)] (by kernel_rfl) (by kernel_rfl) ?_
        refine yS (by kernel_rfl : opAt F11.o11 0 = some (some 13, .assign (.const (.int .i64 1)), none)) rfl rfl (fun w' hS => val_assign rfl) ?_
        refine Sch.nil ?_
        refine run_block (x := F11.c44) (id := 6) (by kernel_rfl) ?_
        
        refine run_loop (ι := Nat × (List Bond) × Value × (Nat → Nat)) (I := fun x w => 1 ≤ x.1 ∧ x.1 ≤ I + 1 ∧ Dl R I r p s x.1 x.2.1 ∧ Lim w x.2.2.2 ∧ Stp [2, 3, 4, 5, 6, 7, 8, 9] w₀ (col2 C i) w x.2.2.2 ∧ DeckIs w x.2.2.2 2 b ∧ OwnL w x.2.2.2 3 50 x.2.2.1 x.2.1) (e := fun x => [(0, .pointer (some ⟨b, 0, none⟩)), (1, .int .i64 R), (2, .int .i64 I), (3, .int .i64 one), (9, x.2.2.1), (10, .int .i64 r), (11, .int .i64 p), (12, .int .i64 s), (13, .int .i64 x.1)]) (m := fun x => I + 1 - x.1) (x₀ := (1, l, vo, C1)) (body := F11.c45) (by kernel_rfl) (sub_cons 0 rfl rfl (sub_cons 1 rfl rfl (sub_cons 2 rfl rfl (sub_cons 3 rfl rfl (sub_cons 9 rfl rfl (sub_cons 10 rfl rfl (sub_cons 11 rfl rfl (sub_cons 12 rfl rfl (sub_cons 13 rfl rfl (sub_nil _)))))))))) ?_ ?_
        · exact ⟨Nat.le_refl _, (by simp only; omega), hD, hF, hT, hd, ho⟩
        intro ⟨k, l, vo, C1⟩ w4 hI next
        obtain ⟨hk1, hk, hD, hF, hT, hd, ho⟩ := hI
        try simp only at hk1 hk hD hF hT hd ho
        have next4 := next
        clear next
        show Run _ _ _ _ [(0, .pointer (some ⟨b, 0, none⟩)), (1, .int .i64 R), (2, .int .i64 I), (3, .int .i64 one), (9, vo), (10, .int .i64 r), (11, .int .i64 p), (12, .int .i64 s), (13, .int .i64 k)] _ _
        have hln := hD.len hR hI
        refine run_seq (x := F11.c46) (y := F11.c51) (by kernel_rfl) ?_
        refine run_seq (x := F11.c47) (y := F11.c48) (by kernel_rfl) ?_
        refine run_plain (id := 12) (ops := F11.o12) [(0, true), (1, true), (2, true)] (by kernel_rfl) (by kernel_rfl) ?_
        refine yS (by kernel_rfl : opAt F11.o12 0 = some (some 31, .move (.tmp 13), none)) rfl rfl (fun w' hS => val_move rfl) ?_
        refine yS (by kernel_rfl : opAt F11.o12 1 = some (some 32, .move (.tmp 2), none)) rfl rfl (fun w' hS => val_move rfl) ?_
        refine yS (by kernel_rfl : opAt F11.o12 2 = some (some 33, .binOp .leq 3 (.tmp 31) (.tmp 32) 3, none)) rfl rfl (fun w' hS => val_leq rfl rfl) ?_
        refine Sch.nil ?_
        refine run_if (x := F11.c49) (y := F11.c50) (o := .tmp 33) (by kernel_rfl) rfl (fun h33 => ?_) (fun h33 => ?_)
        · skip
          have hkI : k ≤ I := by omega
          refine run_skip (by kernel_rfl) ?_
          refine run_seq (x := F11.c52) (y := F11.c58) (by kernel_rfl) ?_
          refine run_block (x := F11.c53) (id := 7) (by kernel_rfl) ?_
          refine run_seq (x := F11.c54) (y := F11.c55) (by kernel_rfl) ?_
          refine run_plain (id := 14) (ops := F11.o14) [(0, true), (1, true), (2, false)] (by kernel_rfl) (by kernel_rfl) ?_
          refine yS (by kernel_rfl : opAt F11.o14 0 = some (some 36, .move (.tmp 0), none)) rfl rfl (fun w' hS => val_move rfl) ?_
          refine yS (by kernel_rfl : opAt F11.o14 1 = some (some 37, .move (.tmp 3), none)) rfl rfl (fun w' hS => val_move rfl) ?_
          refine cS (by kernel_rfl : opAt F11.o14 2 = some (some 38, .call { callee := .value (.func 28), args := #[(.tmp 36), (.tmp 37)], argTypes := #[29, 3] }, none)) rfl rfl (ent Try.call28 rfl) (one_any hF (by decide) hd h1 h63) ?_
          rintro vw5 w5 ⟨t, rfl, hs, hd⟩
          refine ⟨trivial, ?_⟩
          replace hF := hF.st hs
          replace hT := hT.trans hs (by simp)
          replace ho := ho.st hs (by first | decide | (simp <;> omega)) (by first | decide | (simp <;> omega))
          refine Sch.nil ?_
          refine run_cond (x := F11.c56) (y := F11.c57) (o := .tmp 38) (by kernel_rfl) rfl (fun h38 => ?_) (fun h38 => ?_)
          · skip
            refine run_plain (id := 15) (ops := F11.o15) [(0, true), (1, true), (2, true), (3, true), (4, true), (5, true), (6, true), (7, true), (8, false), (9, true), (10, true), (11, false), (12, false), (13, true)] (by kernel_rfl) (by kernel_rfl) ?_
            refine yS (by kernel_rfl : opAt F11.o15 0 = some (some 39, .move (.tmp 9), none)) rfl rfl (fun w' hS => val_move rfl) ?_
            refine yS (by kernel_rfl : opAt F11.o15 1 = some (some 40, .move (.tmp 10), none)) rfl rfl (fun w' hS => val_move rfl) ?_
            refine yS (by kernel_rfl : opAt F11.o15 2 = some (some 41, .move (.tmp 11), none)) rfl rfl (fun w' hS => val_move rfl) ?_
            refine yS (by kernel_rfl : opAt F11.o15 3 = some (some 42, .build 25 #[(0, (.tmp 40)), (1, (.tmp 41))], none)) rfl rfl (fun w' hS => val_build (zs := [.int .i64 0, .int .i64 0]) (ps := [(0, 1), (1, 1)]) (qs := [(0, [.int .i64 (r : Int)]), (1, [.int .i64 (p : Int)])]) (cs := [.int .i64 (r : Int), .int .i64 (p : Int)]) (by kernel_rfl) (by kernel_rfl) ⟨rfl, ⟨_, rfl, rfl⟩, rfl, ⟨_, rfl, rfl⟩, trivial⟩ rfl) ?_
            refine yS (by kernel_rfl : opAt F11.o15 4 = some (some 43, .move (.tmp 12), none)) rfl rfl (fun w' hS => val_move rfl) ?_
            refine yS (by kernel_rfl : opAt F11.o15 5 = some (some 44, .move (.tmp 13), none)) rfl rfl (fun w' hS => val_move rfl) ?_
            refine yS (by kernel_rfl : opAt F11.o15 6 = some (some 45, .build 25 #[(0, (.tmp 43)), (1, (.tmp 44))], none)) rfl rfl (fun w' hS => val_build (zs := [.int .i64 0, .int .i64 0]) (ps := [(0, 1), (1, 1)]) (qs := [(0, [.int .i64 (s : Int)]), (1, [.int .i64 (k : Int)])]) (cs := [.int .i64 (s : Int), .int .i64 (k : Int)]) (by kernel_rfl) (by kernel_rfl) ⟨rfl, ⟨_, rfl, rfl⟩, rfl, ⟨_, rfl, rfl⟩, trivial⟩ rfl) ?_
            refine yS (by kernel_rfl : opAt F11.o15 7 = some (some 46, .move (.tmp 0), none)) rfl rfl (fun w' hS => val_move rfl) ?_
            refine cS (by kernel_rfl : opAt F11.o15 8 = some (some 47, .call { callee := .value (.func 12), args := #[(.tmp 46), (.const (.int .i64 9))], argTypes := #[29, 3] }, none)) rfl rfl (ent Try.call12 rfl) (next_any (n := 9) hF (by decide) hd (by omega) (by omega)) ?_
            rintro vw6 w6 ⟨q, rfl, hq, hs, hd⟩
            refine ⟨trivial, ?_⟩
            replace hF := hF.st hs
            replace hT := hT.trans hs (by simp)
            replace ho := ho.st hs (by first | decide | (simp <;> omega)) (by first | decide | (simp <;> omega))
            refine yS (by kernel_rfl : opAt F11.o15 9 = some (some 48, .binOp .add 3 (.const (.int .i64 1)) (.tmp 47) 3, none)) rfl rfl (fun w' hS => val_addi rfl rfl (by omega) (by omega)) ?_
            refine yS (by kernel_rfl : opAt F11.o15 10 = some (some 49, .build 50 #[(0, (.tmp 42)), (1, (.tmp 45)), (2, (.tmp 48))], none)) rfl rfl (fun w' hS => val_build (zs := [.int .i64 0, .int .i64 0, .int .i64 0, .int .i64 0, .int .i64 0]) (ps := [(0, 2), (2, 2), (4, 1)]) (qs := [(0, [.int .i64 (r : Int), .int .i64 (p : Int)]), (1, [.int .i64 (s : Int), .int .i64 (k : Int)]), (2, [.int .i64 (1 + (q : Int))])]) (cs := encB (⟨⟨r, p⟩, ⟨s, k⟩, 1 + q⟩ : Bond)) (by kernel_rfl) (by kernel_rfl) ⟨rfl, ⟨_, rfl, rfl⟩, rfl, ⟨_, rfl, rfl⟩, rfl, ⟨_, rfl, rfl⟩, trivial⟩ rfl) ?_
            refine aS (by kernel_rfl : opAt F11.o15 11 = some (some 50, .buildSlice 23 1 #[(0, (.tmp 49))], none)) rfl rfl (a_buildSlice (ys := ([(⟨⟨r, p⟩, ⟨s, k⟩, 1 + q⟩ : Bond)] : List Bond)) (e := 50) (bytes := 40) hF (by kernel_rfl) rfl (by decide) (by decide) ⟨rfl, ⟨_, rfl, rv_bond.2 rfl⟩, trivial⟩) ?_
            rintro v50 w7 ⟨hs, g50, hF⟩
            refine ⟨trivial, ?_⟩
            replace hT := hT.trans hs (by simp)
            replace hd := hd.st hs (by first | decide | (simp <;> omega)) (by first | decide | (simp <;> omega))
            replace ho := ho.st hs (by first | decide | (simp <;> omega)) (by first | decide | (simp <;> omega))
            refine aS (by kernel_rfl : opAt F11.o15 12 = some (some 51, .call { callee := .builtin .append, args := #[(.tmp 39), (.tmp 50)], argTypes := #[23, 23] }, none)) rfl rfl (a_append (e := 50) (bytes := 40) hF (by decide) rfl rfl (by kernel_rfl) (by decide) ho g50 (by simp only [List.length_cons, List.length_nil]; omega) (by simp only [List.length_cons, List.length_nil]; omega)) ?_
            rintro v51 w8 ⟨Cw8, hs, ho, hF⟩
            refine ⟨trivial, ?_⟩
            replace hT := hT.trans hs (by simp)
            replace hd := hd.st hs (by first | decide | (simp <;> omega)) (by first | decide | (simp <;> omega))
            replace g50 := g50.st hs (by first | decide | (simp <;> omega))
            refine yS (by kernel_rfl : opAt F11.o15 13 = some (some 9, .assign (.tmp 51), none)) rfl rfl (fun w' hS => val_assign rfl) ?_
            refine Sch.nil ?_
            refine run_inBlock ?_
            refine run_plain (id := 13) (ops := F11.o13) [(0, true), (1, true), (2, true)] (by kernel_rfl) (by kernel_rfl) ?_
            refine yS (by kernel_rfl : opAt F11.o13 0 = some (some 34, .move (.tmp 13), none)) rfl rfl (fun w' hS => val_move rfl) ?_
            refine yS (by kernel_rfl : opAt F11.o13 1 = some (some 35, .binOp .add 3 (.tmp 34) (.const (.int .i64 1)) 3, none)) rfl rfl (fun w' hS => val_addi rfl rfl (by omega) (by omega)) ?_
            refine yS (by kernel_rfl : opAt F11.o13 2 = some (some 13, .assign (.tmp 35), none)) rfl rfl (fun w' hS => val_assign rfl) ?_
            refine Sch.nil ?_
            refine kp (sub_cons 0 rfl rfl (sub_cons 1 rfl rfl (sub_cons 2 rfl rfl (sub_cons 3 rfl rfl (sub_cons 9 rfl rfl (sub_cons 10 rfl rfl (sub_cons 11 rfl rfl (sub_cons 12 rfl rfl (sub_cons 13 rfl (eq_int (by simp)) (sub_nil _)))))))))) (next4 (k + 1, l ++ [(⟨⟨r, p⟩, ⟨s, k⟩, 1 + q⟩ : Bond)], v51, Cw8) _ ⟨(by first | omega | (simp only; omega)), (by first | omega | (simp only; omega)), (hD.push hs1 hsR2 ⟨hp1, hpI⟩ ⟨hk1, hkI⟩ hq), hF, hT, hd, ho⟩ (by first | omega | (simp only; omega)))
          · skip
            refine run_skip (by kernel_rfl) ?_
            refine run_inBlock ?_
            refine run_plain (id := 13) (ops := F11.o13) [(0, true), (1, true), (2, true)] (by kernel_rfl) (by kernel_rfl) ?_
            refine yS (by kernel_rfl : opAt F11.o13 0 = some (some 34, .move (.tmp 13), none)) rfl rfl (fun w' hS => val_move rfl) ?_
            refine yS (by kernel_rfl : opAt F11.o13 1 = some (some 35, .binOp .add 3 (.tmp 34) (.const (.int .i64 1)) 3, none)) rfl rfl (fun w' hS => val_addi rfl rfl (by omega) (by omega)) ?_
            refine yS (by kernel_rfl : opAt F11.o13 2 = some (some 13, .assign (.tmp 35), none)) rfl rfl (fun w' hS => val_assign rfl) ?_
            refine Sch.nil ?_
            refine kp (sub_cons 0 rfl rfl (sub_cons 1 rfl rfl (sub_cons 2 rfl rfl (sub_cons 3 rfl rfl (sub_cons 9 rfl rfl (sub_cons 10 rfl rfl (sub_cons 11 rfl rfl (sub_cons 12 rfl rfl (sub_cons 13 rfl (eq_int (by simp)) (sub_nil _)))))))))) (next4 (k + 1, l, vo, C1) _ ⟨(by first | omega | (simp only; omega)), (by first | omega | (simp only; omega)), (hD.to (fun x h1 h2 => by unfold okR at h1; unfold Cur at *; omega)), hF, hT, hd, ho⟩ (by first | omega | (simp only; omega)))
        · skip
          have hkI : k = I + 1 := by omega
          refine run_exit (id := 6) (by kernel_rfl) rfl ?_
          refine run_inBlock ?_
          refine run_plain (id := 10) (ops := F11.o10) [(0, true), (1, true), (2, true)] (by kernel_rfl) (by kernel_rfl) ?_
          refine yS (by kernel_rfl : opAt F11.o10 0 = some (some 29, .move (.tmp 12), none)) rfl rfl (fun w' hS => val_move rfl) ?_
          refine yS (by kernel_rfl : opAt F11.o10 1 = some (some 30, .binOp .add 3 (.tmp 29) (.const (.int .i64 1)) 3, none)) rfl rfl (fun w' hS => val_addi rfl rfl (by omega) (by omega)) ?_
          refine yS (by kernel_rfl : opAt F11.o10 2 = some (some 12, .assign (.tmp 30), none)) rfl rfl (fun w' hS => val_assign rfl) ?_
          refine Sch.nil ?_
          refine kp (sub_cons 0 rfl rfl (sub_cons 1 rfl rfl (sub_cons 2 rfl rfl (sub_cons 3 rfl rfl (sub_cons 9 rfl rfl (sub_cons 10 rfl rfl (sub_cons 11 rfl rfl (sub_cons 12 rfl (eq_int (by simp)) (sub_nil _))))))))) (next3 (s + 1, l, vo, C1) _ ⟨(by first | omega | (simp only; omega)), (by first | omega | (simp only; omega)), (hD.to (fun x h1 h2 => by unfold okR at h1; unfold Cur at *; omega)), hF, hT, hd, ho⟩ (by first | omega | (simp only; omega)))
      · skip
        have hsR2 : s = R := by omega
        refine run_exit (id := 4) (by kernel_rfl) rfl ?_
        refine run_inBlock ?_
        refine run_plain (id := 7) (ops := F11.o7) [(0, true), (1, true), (2, true)] (by kernel_rfl) (by kernel_rfl) ?_
        refine yS (by kernel_rfl : opAt F11.o7 0 = some (some 22, .move (.tmp 11), none)) rfl rfl (fun w' hS => val_move rfl) ?_
        refine yS (by kernel_rfl : opAt F11.o7 1 = some (some 23, .binOp .add 3 (.tmp 22) (.const (.int .i64 1)) 3, none)) rfl rfl (fun w' hS => val_addi rfl rfl (by omega) (by omega)) ?_
        refine yS (by kernel_rfl : opAt F11.o7 2 = some (some 11, .assign (.tmp 23), none)) rfl rfl (fun w' hS => val_assign rfl) ?_
        refine Sch.nil ?_
        refine kp (sub_cons 0 rfl rfl (sub_cons 1 rfl rfl (sub_cons 2 rfl rfl (sub_cons 3 rfl rfl (sub_cons 9 rfl rfl (sub_cons 10 rfl rfl (sub_cons 11 rfl (eq_int (by simp)) (sub_nil _)))))))) (next2 (p + 1, l, vo, C1) _ ⟨(by first | omega | (simp only; omega)), (by first | omega | (simp only; omega)), (hD.to (fun x h1 h2 => by unfold okR at h1; unfold Cur at *; omega)), hF, hT, hd, ho⟩ (by first | omega | (simp only; omega)))
    · skip
      have hpI : p = I + 1 := by omega
      refine run_exit (id := 2) (by kernel_rfl) rfl ?_
      refine run_inBlock ?_
      refine run_plain (id := 4) (ops := F11.o4) [(0, true), (1, true), (2, true)] (by kernel_rfl) (by kernel_rfl) ?_
      refine yS (by kernel_rfl : opAt F11.o4 0 = some (some 17, .move (.tmp 10), none)) rfl rfl (fun w' hS => val_move rfl) ?_
      refine yS (by kernel_rfl : opAt F11.o4 1 = some (some 18, .binOp .add 3 (.tmp 17) (.const (.int .i64 1)) 3, none)) rfl rfl (fun w' hS => val_addi rfl rfl (by omega) (by omega)) ?_
      refine yS (by kernel_rfl : opAt F11.o4 2 = some (some 10, .assign (.tmp 18), none)) rfl rfl (fun w' hS => val_assign rfl) ?_
      refine Sch.nil ?_
      refine kp (sub_cons 0 rfl rfl (sub_cons 1 rfl rfl (sub_cons 2 rfl rfl (sub_cons 3 rfl rfl (sub_cons 9 rfl rfl (sub_cons 10 rfl (eq_int (by simp)) (sub_nil _))))))) (next1 (r + 1, l, vo, C1) _ ⟨(by first | omega | (simp only; omega)), (hD.to (fun x h1 h2 => by unfold okR at h1; unfold Cur at *; omega)), hF, hT, hd, ho⟩ (by first | omega | (simp only; omega)))
  · skip
    refine run_exit (id := 0) (by kernel_rfl) rfl ?_
    refine run_seq (x := F11.c63) (y := F11.c64) (by kernel_rfl) ?_
    refine run_plain (id := 16) (ops := F11.o16) [(0, true), (1, true)] (by kernel_rfl) (by kernel_rfl) ?_
    refine yS (by kernel_rfl : opAt F11.o16 0 = some (some 52, .move (.tmp 9), none)) rfl rfl (fun w' hS => val_move rfl) ?_
    refine yS (by kernel_rfl : opAt F11.o16 1 = some (some 8, .assign (.tmp 52), none)) rfl rfl (fun w' hS => val_assign rfl) ?_
    refine Sch.nil ?_
    refine run_ret1 (by kernel_rfl) Try.func11 Try.results11 rfl ?_
    have hln := hD.len hR hI
    refine ⟨l, hD.fin hR hI, ⟨hT.out2 (by decide), ho.out hT hF0 (Mc_col2 C i) (fun b _ => col2_lt C i (by decide) b) (by omega), hd.out hT hF0 hbc⟩, fun j hj => ?_⟩
    obtain ⟨Cg, hcg, hFg, hMg, hog⟩ := ho.give hT hF0 (Mc_col2 C i) (fun b _ => col2_lt C i (by decide) b) (by decide) j hj
    exact ⟨Cg, (hT.out2 (by decide)).give hcg, hFg, hog, hd.give hMg (by rw [hcg b (hF0 b (by rw [hbc]; exact hi)), hbc])⟩
end Go.Proofs.Ytfmdkdfhnkennaa

