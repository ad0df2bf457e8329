/- Steps through functions of the program. -/
import Derived.Test.YthdkcbakiiokiaaJG1
set_option linter.unusedVariables false
set_option linter.unusedSimpArgs false
set_option maxRecDepth 100000
set_option maxHeartbeats 4000000
namespace Go.Proofs.Ythdkcbakiiokiaa
open Go.K Go.K.Rep

theorem dec_no {q : Prop} {P : q → Prop} [Decidable (∃ h, P h)] (h : ¬ q) : false = decide (∃ h, P h) := (decide_eq_false (fun e => h e.1)).symm
theorem dec_yes {q r : Prop} {P : q → Prop} [Decidable r] [Decidable (∃ h, P h)] (hq : q) (h : r ↔ P hq) : decide r = decide (∃ h, P h) := decide_eq_decide.2 ⟨fun e => ⟨hq, h.1 e⟩, fun e => h.2 e.2⟩
theorem u8_eq (b : UInt8) {n : Nat} : ((b.toNat : Nat) : Int) = n ↔ b.toNat = n := by omega
theorem u8_ne (b : UInt8) : ((b.toNat : Nat) : Int) ≠ 32 ↔ b ≠ 32 := by
  constructor
  · intro h e; subst e; exact h rfl
  · intro h e; exact h (UInt8.toNat_inj.1 (by have : b.toNat = 32 := by omega
                                              rw [this]; rfl))
theorem one_sub {s : List UInt8} {i : Nat} (h : i < s.length) : (s.take ((i : Int) + 1).toNat).drop (i : Int).toNat = [s[i]] := by
  have e : ((i : Int) + 1).toNat = i + 1 := by omega
  rw [e, Int.toNat_natCast, List.take_succ_eq_append_getElem h, List.drop_append_of_le_length (by rw [List.length_take]; omega), List.drop_eq_nil_of_le (by rw [List.length_take]; omega), List.nil_append]
namespace F32
noncomputable def c0 : Code := bodyOf Try.f32
noncomputable def c1 : Code := cl c0
noncomputable def o0 : Array Oper := rops c1
noncomputable def c2 : Code := cr c0
noncomputable def c3 : Code := cl c2
noncomputable def o1 : Array Oper := rops c3
noncomputable def c4 : Code := cr c2
noncomputable def c5 : Code := cl c4
noncomputable def o2 : Array Oper := rops c5
noncomputable def c6 : Code := cr c4
noncomputable def c7 : Code := cl c6
noncomputable def c8 : Code := cl c7
noncomputable def o3 : Array Oper := rops c8
noncomputable def c9 : Code := cr c7
noncomputable def c10 : Code := cl c9
noncomputable def c11 : Code := cl c10
noncomputable def c12 : Code := cl c11
noncomputable def c13 : Code := cl c12
noncomputable def o4 : Array Oper := rops c13
noncomputable def c14 : Code := cr c12
noncomputable def c15 : Code := cl c14
noncomputable def c16 : Code := cr c14
noncomputable def c17 : Code := cr c11
noncomputable def c18 : Code := cl c17
noncomputable def c19 : Code := cl c18
noncomputable def c20 : Code := cl c19
noncomputable def c21 : Code := cl c20
noncomputable def o6 : Array Oper := rops c21
noncomputable def c22 : Code := cr c20
noncomputable def c23 : Code := cl c22
noncomputable def c24 : Code := cl c23
noncomputable def o7 : Array Oper := rops c24
noncomputable def c25 : Code := cr c23
noncomputable def c26 : Code := cr c22
noncomputable def c27 : Code := cr c19
noncomputable def c28 : Code := cl c27
noncomputable def c29 : Code := cl c28
noncomputable def o8 : Array Oper := rops c29
noncomputable def c30 : Code := cr c28
noncomputable def c31 : Code := cl c30
noncomputable def o9 : Array Oper := rops c31
noncomputable def c32 : Code := cr c30
noncomputable def c33 : Code := cr c27
noncomputable def o10 : Array Oper := rops c33
noncomputable def c34 : Code := cr c17
noncomputable def o5 : Array Oper := rops c34
noncomputable def c35 : Code := cr c6
noncomputable def c36 : Code := cl c35
noncomputable def o11 : Array Oper := rops c36
noncomputable def c37 : Code := cr c35
end F32
/-- The specification's 'Tokens'. -/
theorem rtokens_ok {w₀ : World} {C : Nat → Nat} {s : List UInt8} (hF : Lim w₀ C) (hb : s.length ≤ 4294967296) : Calls Try.prog 32 #[bs s] w₀ (Ret fun v w' => Stp [] w₀ C w' C ∧ RV w' (Mc C) (tokT s) v) := by
  have hF0 := hF
  have hT := Stp.refl [2, 3, 4, 5, 6, 7, 8, 9] w₀ (col1 C)
  replace hF := hF.col1
  refine calls_start (c := F32.c0) (N := 36) [bs s] Try.func32 (by kernel_rfl) (by kernel_rfl) (by kernel_rfl) ?_
  show Run _ _ _ _ [(0, bs s)] _ _
  refine run_seq (x := F32.c1) (y := F32.c2) (by kernel_rfl) ?_
  refine run_plain (id := 0) (ops := F32.o0) [(0, true)] (by kernel_rfl) (by kernel_rfl) ?_
  refine yS (by kernel_rfl : opAt F32.o0 0 = some (some 2, .assign (.const (.slice none 0 0)), none)) rfl rfl (fun w' hS => val_assign rfl) ?_
  refine Sch.nil ?_
  refine run_seq (x := F32.c3) (y := F32.c4) (by kernel_rfl) ?_
  refine run_plain (id := 1) (ops := F32.o1) [(0, true)] (by kernel_rfl) (by kernel_rfl) ?_
  refine yS (by kernel_rfl : opAt F32.o1 0 = some (some 3, .assign (.const (.slice none 0 0)), none)) rfl rfl (fun w' hS => val_assign rfl) ?_
  refine Sch.nil ?_
  refine run_seq (x := F32.c5) (y := F32.c6) (by kernel_rfl) ?_
  refine run_plain (id := 2) (ops := F32.o2) [(0, true)] (by kernel_rfl) (by kernel_rfl) ?_
  refine yS (by kernel_rfl : opAt F32.o2 0 = some (some 4, .assign (.const (.string ⟨#[]⟩)), none)) rfl rfl (fun w' hS => val_assign rfl) ?_
  refine Sch.nil ?_
  refine run_seq (x := F32.c7) (y := F32.c35) (by kernel_rfl) ?_
  refine run_seq (x := F32.c8) (y := F32.c9) (by kernel_rfl) ?_
  refine run_plain (id := 3) (ops := F32.o3) [(0, true)] (by kernel_rfl) (by kernel_rfl) ?_
  refine yS (by kernel_rfl : opAt F32.o3 0 = some (some 5, .assign (.const (.int .i64 0)), none)) rfl rfl (fun w' hS => val_assign rfl) ?_
  refine Sch.nil ?_
  refine run_block (x := F32.c10) (id := 0) (by kernel_rfl) ?_
  
  refine run_loop (ι := Nat × (List UInt8) × (List Tx) × Value × (Nat → Nat)) (I := fun x w => x.1 ≤ s.length + 1 ∧ x.2.1.length ≤ x.1 ∧ x.2.2.1.length ≤ x.1 ∧ tokT s = x.2.2.1 ++ restT s x.1 x.2.1 ∧ Lim w x.2.2.2.2 ∧ Stp [2, 3, 4, 5, 6, 7, 8, 9] w₀ (col1 C) w x.2.2.2.2 ∧ OwnL w x.2.2.2.2 3 9 x.2.2.2.1 x.2.2.1) (e := fun x => [(0, bs s), (3, x.2.2.2.1), (4, bs x.2.1), (5, .int .i64 x.1)]) (m := fun x => s.length + 1 - x.1) (x₀ := (0, [], [], .slice none 0 0, col1 C)) (body := F32.c11) (by kernel_rfl) (sub_cons 0 rfl rfl (sub_cons 3 rfl rfl (sub_cons 4 rfl rfl (sub_cons 5 rfl rfl (sub_nil _))))) ?_ ?_
  · exact ⟨Nat.zero_le _, Nat.zero_le _, Nat.zero_le _, by show tokT s = [] ++ restT s 0 []; unfold restT; rw [if_pos (Nat.zero_le _)]; rfl, hF, hT, OwnL.nil⟩
  intro ⟨i, part, out, vo, C1⟩ w1 hI next
  obtain ⟨hi, hp, ho1, hv, hF, hT, ho⟩ := hI
  try simp only at hi hp ho1 hv hF hT ho
  have next1 := next
  clear next
  show Run _ _ _ _ [(0, bs s), (3, vo), (4, bs part), (5, .int .i64 i)] _ _
  refine run_seq (x := F32.c12) (y := F32.c17) (by kernel_rfl) ?_
  refine run_seq (x := F32.c13) (y := F32.c14) (by kernel_rfl) ?_
  refine run_plain (id := 4) (ops := F32.o4) [(0, true), (1, true), (2, true), (3, true)] (by kernel_rfl) (by kernel_rfl) ?_
  refine yS (by kernel_rfl : opAt F32.o4 0 = some (some 6, .move (.tmp 5), none)) rfl rfl (fun w' hS => val_move rfl) ?_
  refine yS (by kernel_rfl : opAt F32.o4 1 = some (some 7, .move (.tmp 0), none)) rfl rfl (fun w' hS => val_move rfl) ?_
  refine yS (by kernel_rfl : opAt F32.o4 2 = some (some 8, .call { callee := .builtin .len, args := #[(.tmp 7)], argTypes := #[9] }, none)) rfl rfl (fun w' hS => val_lenT rfl Try.underlying9) ?_
  refine yS (by kernel_rfl : opAt F32.o4 3 = some (some 9, .binOp .leq 3 (.tmp 6) (.tmp 8) 3, none)) rfl rfl (fun w' hS => val_leq rfl rfl) ?_
  refine Sch.nil ?_
  refine run_if (x := F32.c15) (y := F32.c16) (o := .tmp 9) (by kernel_rfl) rfl (fun h9 => ?_) (fun h9 => ?_)
  · skip
    have hil : i ≤ s.length := by omega
    refine run_skip (by kernel_rfl) ?_
    refine run_seq (x := F32.c18) (y := F32.c34) (by kernel_rfl) ?_
    refine run_block (x := F32.c19) (id := 1) (by kernel_rfl) ?_
    refine run_seq (x := F32.c20) (y := F32.c27) (by kernel_rfl) ?_
    refine run_seq (x := F32.c21) (y := F32.c22) (by kernel_rfl) ?_
    refine run_cut 21 (decide (∃ h : i < s.length, s[i] ≠ 32)) (C1) ?_ ?_
    · intro hcut
      by_cases hA : i < s.length
      · skip
        refine run_plain (id := 6) (ops := F32.o6) [(0, true), (1, true), (2, true), (3, true), (4, true), (5, true), (6, true), (7, true), (8, true), (9, true)] (by kernel_rfl) (by kernel_rfl) ?_
        refine yS (by kernel_rfl : opAt F32.o6 0 = some (some 12, .move (.tmp 5), none)) rfl rfl (fun w' hS => val_move rfl) ?_
        refine yS (by kernel_rfl : opAt F32.o6 1 = some (some 13, .move (.tmp 0), none)) rfl rfl (fun w' hS => val_move rfl) ?_
        refine yS (by kernel_rfl : opAt F32.o6 2 = some (some 14, .call { callee := .builtin .len, args := #[(.tmp 13)], argTypes := #[9] }, none)) rfl rfl (fun w' hS => val_lenT rfl Try.underlying9) ?_
        refine yS (by kernel_rfl : opAt F32.o6 3 = some (some 15, .binOp .lss 3 (.tmp 12) (.tmp 14) 3, none)) rfl rfl (fun w' hS => val_T (val_lss rfl rfl) (by omega)) ?_
        refine yS (by kernel_rfl : opAt F32.o6 4 = some (some 16, .move (.tmp 15), none)) rfl rfl (fun w' hS => val_move rfl) ?_
        refine yS (by kernel_rfl : opAt F32.o6 5 = some (some 17, .move (.tmp 0), (some (4, true)))) rfl rfl (fun w' hS => val_move rfl) ?_
        refine yS (by kernel_rfl : opAt F32.o6 6 = some (some 18, .move (.tmp 5), (some (4, true)))) rfl rfl (fun w' hS => val_move rfl) ?_
        refine yS (by kernel_rfl : opAt F32.o6 7 = some (some 19, .index 9 (.tmp 17) (.tmp 18), (some (4, true)))) rfl rfl (fun w' hS => val_idxN rfl rfl Try.underlying9 (by omega)) ?_
        refine yS (by kernel_rfl : opAt F32.o6 8 = some (some 20, .binOp .neq 5 (.tmp 19) (.const (.int .u8 32)) 5, (some (4, true)))) rfl rfl (fun w' hS => val_neq rfl rfl) ?_
        refine yS (by kernel_rfl : opAt F32.o6 9 = some (some 21, .pick (.tmp 16) (.tmp 20) (.const (.bool false)), none)) rfl rfl (fun w' hS => val_pick_t rfl rfl) ?_
        exact Sch.nil (hcut _ _ _ (Stp.refl _ _ _) rfl (eq_bool (dec_yes hA (u8_ne _))) (sub_skip rfl (sub_skip rfl (sub_skip rfl (sub_skip rfl (sub_skip rfl (sub_skip rfl (sub_skip rfl (sub_skip rfl (sub_skip rfl (sub_skip rfl (Sub.refl _))))))))))))
      · skip
        refine run_plain (id := 6) (ops := F32.o6) [(0, true), (1, true), (2, true), (3, true), (4, true), (5, true), (6, true), (7, true), (8, true), (9, true)] (by kernel_rfl) (by kernel_rfl) ?_
        refine yS (by kernel_rfl : opAt F32.o6 0 = some (some 12, .move (.tmp 5), none)) rfl rfl (fun w' hS => val_move rfl) ?_
        refine yS (by kernel_rfl : opAt F32.o6 1 = some (some 13, .move (.tmp 0), none)) rfl rfl (fun w' hS => val_move rfl) ?_
        refine yS (by kernel_rfl : opAt F32.o6 2 = some (some 14, .call { callee := .builtin .len, args := #[(.tmp 13)], argTypes := #[9] }, none)) rfl rfl (fun w' hS => val_lenT rfl Try.underlying9) ?_
        refine yS (by kernel_rfl : opAt F32.o6 3 = some (some 15, .binOp .lss 3 (.tmp 12) (.tmp 14) 3, none)) rfl rfl (fun w' hS => val_F (val_lss rfl rfl) (by omega)) ?_
        refine yS (by kernel_rfl : opAt F32.o6 4 = some (some 16, .move (.tmp 15), none)) rfl rfl (fun w' hS => val_move rfl) ?_
        refine pS (by kernel_rfl : opAt F32.o6 5 = some (some 17, .move (.tmp 0), (some (4, true)))) rfl rfl ?_
        refine pS (by kernel_rfl : opAt F32.o6 6 = some (some 18, .move (.tmp 5), (some (4, true)))) rfl rfl ?_
        refine pS (by kernel_rfl : opAt F32.o6 7 = some (some 19, .index 9 (.tmp 17) (.tmp 18), (some (4, true)))) rfl rfl ?_
        refine pS (by kernel_rfl : opAt F32.o6 8 = some (some 20, .binOp .neq 5 (.tmp 19) (.const (.int .u8 32)) 5, (some (4, true)))) rfl rfl ?_
        refine yS (by kernel_rfl : opAt F32.o6 9 = some (some 21, .pick (.tmp 16) (.tmp 20) (.const (.bool false)), none)) rfl rfl (fun w' hS => val_pick_f rfl rfl) ?_
        exact Sch.nil (hcut _ _ _ (Stp.refl _ _ _) rfl (eq_bool (dec_no hA)) (sub_skip rfl (sub_skip rfl (sub_skip rfl (sub_skip rfl (sub_skip rfl (sub_skip rfl (sub_skip rfl (sub_skip rfl (sub_skip rfl (sub_skip rfl (Sub.refl _))))))))))))
    intro w2 hs
    replace hF := hF.st hs
    replace hT := hT.trans hs (by simp)
    replace ho := ho.st hs (by first | decide | (simp <;> omega)) (by first | decide | (simp <;> omega))
    refine run_if (x := F32.c23) (y := F32.c26) (o := .tmp 21) (by kernel_rfl) rfl (fun h21 => ?_) (fun h21 => ?_)
    · skip
      obtain ⟨hls, hne⟩ := h21
      refine run_seq (x := F32.c24) (y := F32.c25) (by kernel_rfl) ?_
      refine run_plain (id := 7) (ops := F32.o7) [(0, true), (1, true), (2, true), (3, true), (4, true), (5, true), (6, true), (7, true)] (by kernel_rfl) (by kernel_rfl) ?_
      refine yS (by kernel_rfl : opAt F32.o7 0 = some (some 22, .move (.tmp 4), none)) rfl rfl (fun w' hS => val_move rfl) ?_
      refine yS (by kernel_rfl : opAt F32.o7 1 = some (some 23, .move (.tmp 0), none)) rfl rfl (fun w' hS => val_move rfl) ?_
      refine yS (by kernel_rfl : opAt F32.o7 2 = some (some 24, .move (.tmp 5), none)) rfl rfl (fun w' hS => val_move rfl) ?_
      refine yS (by kernel_rfl : opAt F32.o7 3 = some (some 25, .move (.tmp 5), none)) rfl rfl (fun w' hS => val_move rfl) ?_
      refine yS (by kernel_rfl : opAt F32.o7 4 = some (some 26, .binOp .add 3 (.tmp 25) (.const (.int .i64 1)) 3, none)) rfl rfl (fun w' hS => val_addi rfl rfl (by omega) (by omega)) ?_
      refine yS (by kernel_rfl : opAt F32.o7 5 = some (some 27, .slice 9 (.tmp 23) (some (.tmp 24)) (some (.tmp 26)) none, none)) rfl rfl (fun w' hS => val_subE (r := [s[i]]) rfl rfl rfl Try.underlying9 (by omega) (by omega) (by omega) (one_sub hls)) ?_
      refine yS (by kernel_rfl : opAt F32.o7 6 = some (some 28, .binOp .add 9 (.tmp 22) (.tmp 27) 9, none)) rfl rfl (fun w' hS => val_cat rfl rfl (by (try simp only [List.length_append, List.length_cons, List.length_nil]); omega)) ?_
      refine yS (by kernel_rfl : opAt F32.o7 7 = some (some 4, .assign (.tmp 28), none)) rfl rfl (fun w' hS => val_assign rfl) ?_
      refine Sch.nil ?_
      refine run_exit (id := 1) (by kernel_rfl) rfl ?_
      refine run_plain (id := 5) (ops := F32.o5) [(0, true), (1, true), (2, true)] (by kernel_rfl) (by kernel_rfl) ?_
      refine yS (by kernel_rfl : opAt F32.o5 0 = some (some 10, .move (.tmp 5), none)) rfl rfl (fun w' hS => val_move rfl) ?_
      refine yS (by kernel_rfl : opAt F32.o5 1 = some (some 11, .binOp .add 3 (.tmp 10) (.const (.int .i64 1)) 3, none)) rfl rfl (fun w' hS => val_addi rfl rfl (by omega) (by omega)) ?_
      refine yS (by kernel_rfl : opAt F32.o5 2 = some (some 5, .assign (.tmp 11), none)) rfl rfl (fun w' hS => val_assign rfl) ?_
      refine Sch.nil ?_
      refine kp (sub_cons 0 rfl rfl (sub_cons 3 rfl rfl (sub_cons 4 rfl rfl (sub_cons 5 rfl (eq_int (by simp)) (sub_nil _))))) (next1 (i + 1, part ++ [s[i]], out, vo, C1) _ ⟨(by first | omega | (simp only; omega)), (by simp only [List.length_append, List.length_cons, List.length_nil]; omega), (by first | omega | (simp only; omega)), (by rw [hv, restT_go hls hne]), hF, hT, ho⟩ (by first | omega | (simp only; omega)))
    · skip
      have hsp : ∀ h : i < s.length, s[i] = 32 := fun h => Classical.byContradiction fun e => h21 ⟨h, e⟩
      refine run_skip (by kernel_rfl) ?_
      refine run_seq (x := F32.c28) (y := F32.c33) (by kernel_rfl) ?_
      refine run_seq (x := F32.c29) (y := F32.c30) (by kernel_rfl) ?_
      refine run_plain (id := 8) (ops := F32.o8) [(0, true), (1, true)] (by kernel_rfl) (by kernel_rfl) ?_
      refine yS (by kernel_rfl : opAt F32.o8 0 = some (some 29, .move (.tmp 4), none)) rfl rfl (fun w' hS => val_move rfl) ?_
      refine yS (by kernel_rfl : opAt F32.o8 1 = some (some 30, .binOp .neq 9 (.tmp 29) (.const (.string ⟨#[]⟩)) 9, none)) rfl rfl (fun w' hS => val_neT rfl rfl) ?_
      refine Sch.nil ?_
      refine run_if (x := F32.c31) (y := F32.c32) (o := .tmp 30) (by kernel_rfl) rfl (fun h30 => ?_) (fun h30 => ?_)
      · skip
        have hpn : part ≠ [] := h30
        refine run_plain (id := 9) (ops := F32.o9) [(0, true), (1, true), (2, false), (3, false), (4, true)] (by kernel_rfl) (by kernel_rfl) ?_
        refine yS (by kernel_rfl : opAt F32.o9 0 = some (some 31, .move (.tmp 3), none)) rfl rfl (fun w' hS => val_move rfl) ?_
        refine yS (by kernel_rfl : opAt F32.o9 1 = some (some 32, .move (.tmp 4), none)) rfl rfl (fun w' hS => val_move rfl) ?_
        refine aS (by kernel_rfl : opAt F32.o9 2 = some (some 33, .buildSlice 23 1 #[(0, (.tmp 32))], none)) rfl rfl (a_buildSlice (ys := ([⟨part⟩] : List Tx)) (e := 9) (bytes := 16) hF (by kernel_rfl) rfl (by decide) (by decide) ⟨rfl, ⟨_, rfl, rv_tx.2 ⟨rfl, (by first | omega | (simp only; omega))⟩⟩, trivial⟩) ?_
        rintro v33 w3 ⟨hs, hn, hF⟩
        refine ⟨trivial, ?_⟩
        replace hT := hT.trans hs (by simp)
        replace ho := ho.st hs (by first | decide | (simp <;> omega)) (by first | decide | (simp <;> omega))
        refine aS (by kernel_rfl : opAt F32.o9 3 = some (some 34, .call { callee := .builtin .append, args := #[(.tmp 31), (.tmp 33)], argTypes := #[23, 23] }, none)) rfl rfl (a_append (e := 9) (bytes := 16) hF (by decide) rfl rfl (by kernel_rfl) (by decide) ho hn (by simp only [List.length_cons, List.length_nil]; omega) (by simp only [List.length_cons, List.length_nil]; omega)) ?_
        rintro v34 w4 ⟨Cw4, hs, ho, hF⟩
        refine ⟨trivial, ?_⟩
        replace hT := hT.trans hs (by simp)
        replace hn := hn.st hs (by first | decide | (simp <;> omega))
        refine yS (by kernel_rfl : opAt F32.o9 4 = some (some 3, .assign (.tmp 34), none)) rfl rfl (fun w' hS => val_assign rfl) ?_
        refine Sch.nil ?_
        refine run_plain (id := 10) (ops := F32.o10) [(0, true)] (by kernel_rfl) (by kernel_rfl) ?_
        refine yS (by kernel_rfl : opAt F32.o10 0 = some (some 4, .assign (.const (.string ⟨#[]⟩)), none)) rfl rfl (fun w' hS => val_assign rfl) ?_
        refine Sch.nil ?_
        refine run_inBlock ?_
        refine run_plain (id := 5) (ops := F32.o5) [(0, true), (1, true), (2, true)] (by kernel_rfl) (by kernel_rfl) ?_
        refine yS (by kernel_rfl : opAt F32.o5 0 = some (some 10, .move (.tmp 5), none)) rfl rfl (fun w' hS => val_move rfl) ?_
        refine yS (by kernel_rfl : opAt F32.o5 1 = some (some 11, .binOp .add 3 (.tmp 10) (.const (.int .i64 1)) 3, none)) rfl rfl (fun w' hS => val_addi rfl rfl (by omega) (by omega)) ?_
        refine yS (by kernel_rfl : opAt F32.o5 2 = some (some 5, .assign (.tmp 11), none)) rfl rfl (fun w' hS => val_assign rfl) ?_
        refine Sch.nil ?_
        have hrest : restT s i part = fin part ++ restT s (i + 1) [] := by
          by_cases hls : i < s.length
          · exact restT_sp hls (hsp hls)
          · obtain rfl : i = s.length := by omega
            exact restT_end
        refine kp (sub_cons 0 rfl rfl (sub_cons 3 rfl rfl (sub_cons 4 rfl rfl (sub_cons 5 rfl (eq_int (by simp)) (sub_nil _))))) (next1 (i + 1, [], out ++ [⟨part⟩], v34, Cw4) _ ⟨(by first | omega | (simp only; omega)), Nat.zero_le _, (by simp only [List.length_append, List.length_cons, List.length_nil]; omega), (by rw [hv, hrest, fin_some hpn, List.append_assoc]), hF, hT, ho⟩ (by first | omega | (simp only; omega)))
      · skip
        have hpn : part = [] := Classical.not_not.1 h30
        refine run_skip (by kernel_rfl) ?_
        refine run_plain (id := 10) (ops := F32.o10) [(0, true)] (by kernel_rfl) (by kernel_rfl) ?_
        refine yS (by kernel_rfl : opAt F32.o10 0 = some (some 4, .assign (.const (.string ⟨#[]⟩)), none)) rfl rfl (fun w' hS => val_assign rfl) ?_
        refine Sch.nil ?_
        refine run_inBlock ?_
        refine run_plain (id := 5) (ops := F32.o5) [(0, true), (1, true), (2, true)] (by kernel_rfl) (by kernel_rfl) ?_
        refine yS (by kernel_rfl : opAt F32.o5 0 = some (some 10, .move (.tmp 5), none)) rfl rfl (fun w' hS => val_move rfl) ?_
        refine yS (by kernel_rfl : opAt F32.o5 1 = some (some 11, .binOp .add 3 (.tmp 10) (.const (.int .i64 1)) 3, none)) rfl rfl (fun w' hS => val_addi rfl rfl (by omega) (by omega)) ?_
        refine yS (by kernel_rfl : opAt F32.o5 2 = some (some 5, .assign (.tmp 11), none)) rfl rfl (fun w' hS => val_assign rfl) ?_
        refine Sch.nil ?_
        have hrest : restT s i part = fin part ++ restT s (i + 1) [] := by
          by_cases hls : i < s.length
          · exact restT_sp hls (hsp hls)
          · obtain rfl : i = s.length := by omega
            exact restT_end
        refine kp (sub_cons 0 rfl rfl (sub_cons 3 rfl rfl (sub_cons 4 rfl rfl (sub_cons 5 rfl (eq_int (by simp)) (sub_nil _))))) (next1 (i + 1, [], out, vo, C1) _ ⟨(by first | omega | (simp only; omega)), Nat.zero_le _, (by first | omega | (simp only; omega)), (by rw [hv, hrest, hpn, fin_nil, List.nil_append]), hF, hT, ho⟩ (by first | omega | (simp only; omega)))
  · skip
    have hil : i = s.length + 1 := by omega
    refine run_exit (id := 0) (by kernel_rfl) rfl ?_
    refine run_seq (x := F32.c36) (y := F32.c37) (by kernel_rfl) ?_
    refine run_plain (id := 11) (ops := F32.o11) [(0, true), (1, true)] (by kernel_rfl) (by kernel_rfl) ?_
    refine yS (by kernel_rfl : opAt F32.o11 0 = some (some 35, .move (.tmp 3), none)) rfl rfl (fun w' hS => val_move rfl) ?_
    refine yS (by kernel_rfl : opAt F32.o11 1 = some (some 2, .assign (.tmp 35), none)) rfl rfl (fun w' hS => val_assign rfl) ?_
    refine Sch.nil ?_
    refine run_ret1 (by kernel_rfl) Try.func32 Try.results32 rfl ?_
    have hrz : restT s i part = [] := by unfold restT; rw [if_neg (by omega)]
    rw [hrz, List.append_nil] at hv
    rw [hv]
    exact ⟨hT.out1 (by decide), ho.out hT hF0 (Mc_col1 C) (fun b _ => col1_lt C (by decide) b) (by omega)⟩
namespace F14
noncomputable def c0 : Code := bodyOf Try.f14
noncomputable def c1 : Code := cl c0
noncomputable def o0 : Array Oper := rops c1
noncomputable def c2 : Code := cr c0
noncomputable def c3 : Code := cl c2
noncomputable def c4 : Code := cl c3
noncomputable def o1 : Array Oper := rops c4
noncomputable def c5 : Code := cr c3
noncomputable def c6 : Code := cl c5
noncomputable def c7 : Code := cl c6
noncomputable def o2 : Array Oper := rops c7
noncomputable def c8 : Code := cr c6
noncomputable def c9 : Code := cr c5
noncomputable def c10 : Code := cr c2
noncomputable def c11 : Code := cl c10
noncomputable def c12 : Code := cl c11
noncomputable def o3 : Array Oper := rops c12
noncomputable def c13 : Code := cr c11
noncomputable def c14 : Code := cl c13
noncomputable def c15 : Code := cl c14
noncomputable def c16 : Code := cl c15
noncomputable def c17 : Code := cl c16
noncomputable def o4 : Array Oper := rops c17
noncomputable def c18 : Code := cr c16
noncomputable def c19 : Code := cl c18
noncomputable def c20 : Code := cr c18
noncomputable def c21 : Code := cr c15
noncomputable def c22 : Code := cl c21
noncomputable def c23 : Code := cl c22
noncomputable def c24 : Code := cl c23
noncomputable def o6 : Array Oper := rops c24
noncomputable def c25 : Code := cr c23
noncomputable def c26 : Code := cl c25
noncomputable def c27 : Code := cl c26
noncomputable def o7 : Array Oper := rops c27
noncomputable def c28 : Code := cr c26
noncomputable def c29 : Code := cr c25
noncomputable def c30 : Code := cr c21
noncomputable def o5 : Array Oper := rops c30
noncomputable def c31 : Code := cr c10
noncomputable def c32 : Code := cl c31
noncomputable def o8 : Array Oper := rops c32
noncomputable def c33 : Code := cr c31
end F14
/-- 'Same'. -/
theorem same_ok {w₀ : World} {C : Nat → Nat} {a b : List Tx} {va vb : Value} (hF : Lim w₀ C) (ha : RV w₀ (Mc C) a va) (hbb : RV w₀ (Mc C) b vb) : Calls Try.prog 14 #[va, vb] w₀ (Ret fun v w' => v = .bool (decide (a = b)) ∧ Stp [] w₀ C w' C) := by
  have hF0 := hF
  have hT := Stp.refl [2, 3, 4, 5, 6, 7, 8, 9] w₀ (col1 C)
  replace hF := hF.col1
  replace ha : RV w₀ (Mc (col1 C)) a va := by rw [Mc_col1]; exact ha
  replace hbb : RV w₀ (Mc (col1 C)) b vb := by rw [Mc_col1]; exact hbb
  refine calls_start (c := F14.c0) (N := 26) [va, vb] Try.func14 (by kernel_rfl) (by kernel_rfl) (by kernel_rfl) ?_
  show Run _ _ _ _ [(0, va), (1, vb)] _ _
  refine run_seq (x := F14.c1) (y := F14.c2) (by kernel_rfl) ?_
  refine run_plain (id := 0) (ops := F14.o0) [(0, true)] (by kernel_rfl) (by kernel_rfl) ?_
  refine yS (by kernel_rfl : opAt F14.o0 0 = some (some 4, .assign (.const (.bool false)), none)) rfl rfl (fun w' hS => val_assign rfl) ?_
  refine Sch.nil ?_
  refine run_seq (x := F14.c3) (y := F14.c10) (by kernel_rfl) ?_
  refine run_seq (x := F14.c4) (y := F14.c5) (by kernel_rfl) ?_
  refine run_plain (id := 1) (ops := F14.o1) [(0, true), (1, true), (2, true), (3, true), (4, true)] (by kernel_rfl) (by kernel_rfl) ?_
  refine yS (by kernel_rfl : opAt F14.o1 0 = some (some 6, .move (.tmp 0), none)) rfl rfl (fun w' hS => val_move rfl) ?_
  refine yS (by kernel_rfl : opAt F14.o1 1 = some (some 7, .call { callee := .builtin .len, args := #[(.tmp 6)], argTypes := #[23] }, none)) rfl rfl (fun w' hS => ha.lenV rfl Try.underlying23 w' ) ?_
  refine yS (by kernel_rfl : opAt F14.o1 2 = some (some 8, .move (.tmp 1), none)) rfl rfl (fun w' hS => val_move rfl) ?_
  refine yS (by kernel_rfl : opAt F14.o1 3 = some (some 9, .call { callee := .builtin .len, args := #[(.tmp 8)], argTypes := #[23] }, none)) rfl rfl (fun w' hS => hbb.lenV rfl Try.underlying23 w' ) ?_
  refine yS (by kernel_rfl : opAt F14.o1 4 = some (some 10, .binOp .neq 3 (.tmp 7) (.tmp 9) 3, none)) rfl rfl (fun w' hS => val_neq rfl rfl) ?_
  refine Sch.nil ?_
  refine run_if (x := F14.c6) (y := F14.c9) (o := .tmp 10) (by kernel_rfl) rfl (fun h10 => ?_) (fun h10 => ?_)
  · skip
    have hln : ¬ a.length = b.length := by omega
    refine run_seq (x := F14.c7) (y := F14.c8) (by kernel_rfl) ?_
    refine run_plain (id := 2) (ops := F14.o2) [(0, true)] (by kernel_rfl) (by kernel_rfl) ?_
    refine yS (by kernel_rfl : opAt F14.o2 0 = some (some 4, .assign (.const (.bool false)), none)) rfl rfl (fun w' hS => val_assign rfl) ?_
    refine Sch.nil ?_
    refine run_ret1 (by kernel_rfl) Try.func14 Try.results14 rfl ?_
    exact ⟨by rw [decide_eq_false (fun e => hln (by rw [e]))], hT.out1 (by decide)⟩
  · skip
    have hln : a.length = b.length := by omega
    refine run_skip (by kernel_rfl) ?_
    refine run_seq (x := F14.c11) (y := F14.c31) (by kernel_rfl) ?_
    refine run_seq (x := F14.c12) (y := F14.c13) (by kernel_rfl) ?_
    refine run_plain (id := 3) (ops := F14.o3) [(0, true)] (by kernel_rfl) (by kernel_rfl) ?_
    refine yS (by kernel_rfl : opAt F14.o3 0 = some (some 5, .assign (.const (.int .i64 0)), none)) rfl rfl (fun w' hS => val_assign rfl) ?_
    refine Sch.nil ?_
    refine run_block (x := F14.c14) (id := 0) (by kernel_rfl) ?_
    
    refine run_loop (ι := Nat × (Nat → Nat)) (I := fun x w => x.1 ≤ a.length ∧ (∀ q (h1 : q < a.length) (h2 : q < b.length), q < x.1 → a[q] = b[q]) ∧ Lim w x.2 ∧ Stp [2, 3, 4, 5, 6, 7, 8, 9] w₀ (col1 C) w x.2 ∧ RV w (Mc x.2) a va ∧ RV w (Mc x.2) b vb) (e := fun x => [(0, va), (1, vb), (5, .int .i64 x.1)]) (m := fun x => a.length - x.1) (x₀ := (0, col1 C)) (body := F14.c15) (by kernel_rfl) (sub_cons 0 rfl rfl (sub_cons 1 rfl rfl (sub_cons 5 rfl rfl (sub_nil _)))) ?_ ?_
    · exact ⟨Nat.zero_le _, (fun q _ _ hq => by first | omega | (simp only at hq; omega)), hF, hT, ha, hbb⟩
    intro ⟨i, C1⟩ w1 hI next
    obtain ⟨hi, h0, hF, hT, ha, hbb⟩ := hI
    try simp only at hi h0 hF hT ha hbb
    have next1 := next
    clear next
    show Run _ _ _ _ [(0, va), (1, vb), (5, .int .i64 i)] _ _
    have hle := ha.le
    refine run_seq (x := F14.c16) (y := F14.c21) (by kernel_rfl) ?_
    refine run_seq (x := F14.c17) (y := F14.c18) (by kernel_rfl) ?_
    refine run_plain (id := 4) (ops := F14.o4) [(0, true), (1, true), (2, true), (3, true)] (by kernel_rfl) (by kernel_rfl) ?_
    refine yS (by kernel_rfl : opAt F14.o4 0 = some (some 11, .move (.tmp 5), none)) rfl rfl (fun w' hS => val_move rfl) ?_
    refine yS (by kernel_rfl : opAt F14.o4 1 = some (some 12, .move (.tmp 0), none)) rfl rfl (fun w' hS => val_move rfl) ?_
    refine yS (by kernel_rfl : opAt F14.o4 2 = some (some 13, .call { callee := .builtin .len, args := #[(.tmp 12)], argTypes := #[23] }, none)) rfl rfl (fun w' hS => ha.lenV rfl Try.underlying23 w' ) ?_
    refine yS (by kernel_rfl : opAt F14.o4 3 = some (some 14, .binOp .lss 3 (.tmp 11) (.tmp 13) 3, none)) rfl rfl (fun w' hS => val_lss rfl rfl) ?_
    refine Sch.nil ?_
    refine run_if (x := F14.c19) (y := F14.c20) (o := .tmp 14) (by kernel_rfl) rfl (fun h14 => ?_) (fun h14 => ?_)
    · skip
      have hil : i < a.length := by omega
      refine run_skip (by kernel_rfl) ?_
      refine run_seq (x := F14.c22) (y := F14.c30) (by kernel_rfl) ?_
      refine run_block (x := F14.c23) (id := 1) (by kernel_rfl) ?_
      refine run_seq (x := F14.c24) (y := F14.c25) (by kernel_rfl) ?_
      refine run_draw (id := 6) (ops := F14.o6) [] (C1) [(0, true), (1, true), (2, true), (3, true), (4, true), (5, true), (6, true), (7, true), (8, true)] Try_mixed (by kernel_rfl) (by kernel_rfl) (by kernel_rfl) ?_
      intro w2 hs
      replace hF := hF.st hs
      replace hT := hT.trans hs (by simp)
      replace ha := ha.st hs (by first | decide | (simp <;> omega))
      replace hbb := hbb.st hs (by first | decide | (simp <;> omega))
      refine yS (by kernel_rfl : opAt F14.o6 0 = some (some 17, .move (.tmp 0), none)) rfl rfl (fun w' hS => val_move rfl) ?_
      refine yS (by kernel_rfl : opAt F14.o6 1 = some (some 18, .move (.tmp 5), none)) rfl rfl (fun w' hS => val_move rfl) ?_
      refine iS (e := 9) (by kernel_rfl : opAt F14.o6 2 = some (some 19, .indexAddr 23 (.tmp 17) (.tmp 18), none)) rfl rfl ha rfl (by kernel_rfl) rfl (by omega) (by omega) ?_
      intro b19 o19 h19
      try simp only [Int.toNat_natCast] at h19
      refine lS (by kernel_rfl : opAt F14.o6 3 = some (some 20, .load 9 (.tmp 19), none)) rfl rfl (fun w' hS => h19.stay hS (by first | decide | (simp <;> omega))) h19 (by kernel_rfl) rfl rfl ?_
      intro v20 g20
      obtain ⟨rfl, hb20⟩ := rv_tx.1 g20
      refine yS (by kernel_rfl : opAt F14.o6 4 = some (some 21, .move (.tmp 1), none)) rfl rfl (fun w' hS => val_move rfl) ?_
      refine yS (by kernel_rfl : opAt F14.o6 5 = some (some 22, .move (.tmp 5), none)) rfl rfl (fun w' hS => val_move rfl) ?_
      refine iS (e := 9) (by kernel_rfl : opAt F14.o6 6 = some (some 23, .indexAddr 23 (.tmp 21) (.tmp 22), none)) rfl rfl hbb rfl (by kernel_rfl) rfl (by omega) (by omega) ?_
      intro b23 o23 h23
      try simp only [Int.toNat_natCast] at h23
      refine lS (by kernel_rfl : opAt F14.o6 7 = some (some 24, .load 9 (.tmp 23), none)) rfl rfl (fun w' hS => h23.stay hS (by first | decide | (simp <;> omega))) h23 (by kernel_rfl) rfl rfl ?_
      intro v24 g24
      obtain ⟨rfl, hb24⟩ := rv_tx.1 g24
      refine yS (by kernel_rfl : opAt F14.o6 8 = some (some 25, .binOp .neq 9 (.tmp 20) (.tmp 24) 9, none)) rfl rfl (fun w' hS => val_neT rfl rfl) ?_
      refine Sch.nil ?_
      refine run_if (x := F14.c26) (y := F14.c29) (o := .tmp 25) (by kernel_rfl) rfl (fun h25 => ?_) (fun h25 => ?_)
      · skip
        refine run_seq (x := F14.c27) (y := F14.c28) (by kernel_rfl) ?_
        refine run_plain (id := 7) (ops := F14.o7) [(0, true)] (by kernel_rfl) (by kernel_rfl) ?_
        refine yS (by kernel_rfl : opAt F14.o7 0 = some (some 4, .assign (.const (.bool false)), none)) rfl rfl (fun w' hS => val_assign rfl) ?_
        refine Sch.nil ?_
        refine run_ret1 (by kernel_rfl) Try.func14 Try.results14 rfl ?_
        exact ⟨by rw [decide_eq_false (fun e => h25 (by simp only [e]))], hT.out1 (by decide)⟩
      · skip
        refine run_skip (by kernel_rfl) ?_
        refine run_inBlock ?_
        refine run_plain (id := 5) (ops := F14.o5) [(0, true), (1, true), (2, true)] (by kernel_rfl) (by kernel_rfl) ?_
        refine yS (by kernel_rfl : opAt F14.o5 0 = some (some 15, .move (.tmp 5), none)) rfl rfl (fun w' hS => val_move rfl) ?_
        refine yS (by kernel_rfl : opAt F14.o5 1 = some (some 16, .binOp .add 3 (.tmp 15) (.const (.int .i64 1)) 3, none)) rfl rfl (fun w' hS => val_addi rfl rfl (by omega) (by omega)) ?_
        refine yS (by kernel_rfl : opAt F14.o5 2 = some (some 5, .assign (.tmp 16), none)) rfl rfl (fun w' hS => val_assign rfl) ?_
        refine Sch.nil ?_
        refine kp (sub_cons 0 rfl rfl (sub_cons 1 rfl rfl (sub_cons 5 rfl (eq_int (by simp)) (sub_nil _)))) (next1 (i + 1, C1) _ ⟨(by first | omega | (simp only; omega)), (fun q h1 h2 hq => by
            try simp only at hq
            by_cases e : q = i
            · subst e; exact tx_ext (Classical.not_not.1 h25)
            · exact h0 q h1 h2 (by omega)), hF, hT, ha, hbb⟩ (by first | omega | (simp only; omega)))
    · skip
      have hil : i = a.length := by omega
      refine run_exit (id := 0) (by kernel_rfl) rfl ?_
      refine run_seq (x := F14.c32) (y := F14.c33) (by kernel_rfl) ?_
      refine run_plain (id := 8) (ops := F14.o8) [(0, true)] (by kernel_rfl) (by kernel_rfl) ?_
      refine yS (by kernel_rfl : opAt F14.o8 0 = some (some 4, .assign (.const (.bool true)), none)) rfl rfl (fun w' hS => val_assign rfl) ?_
      refine Sch.nil ?_
      refine run_ret1 (by kernel_rfl) Try.func14 Try.results14 rfl ?_
      exact ⟨by rw [decide_eq_true (List.ext_getElem hln (fun q h1 h2 => h0 q h1 h2 (by omega)))], hT.out1 (by decide)⟩
namespace F25
noncomputable def c0 : Code := bodyOf Try.f25
noncomputable def c1 : Code := cl c0
noncomputable def o0 : Array Oper := rops c1
noncomputable def c2 : Code := cr c0
noncomputable def c3 : Code := cl c2
noncomputable def o1 : Array Oper := rops c3
noncomputable def c4 : Code := cr c2
noncomputable def c5 : Code := cl c4
noncomputable def c6 : Code := cl c5
noncomputable def o2 : Array Oper := rops c6
noncomputable def c7 : Code := cr c5
noncomputable def c8 : Code := cl c7
noncomputable def c9 : Code := cl c8
noncomputable def c10 : Code := cl c9
noncomputable def c11 : Code := cl c10
noncomputable def o3 : Array Oper := rops c11
noncomputable def c12 : Code := cr c10
noncomputable def c13 : Code := cl c12
noncomputable def c14 : Code := cr c12
noncomputable def c15 : Code := cr c9
noncomputable def c16 : Code := cl c15
noncomputable def c17 : Code := cl c16
noncomputable def c18 : Code := cl c17
noncomputable def o5 : Array Oper := rops c18
noncomputable def c19 : Code := cr c17
noncomputable def c20 : Code := cl c19
noncomputable def c21 : Code := cl c20
noncomputable def c22 : Code := cl c21
noncomputable def c23 : Code := cl c22
noncomputable def c24 : Code := cl c23
noncomputable def o6 : Array Oper := rops c24
noncomputable def c25 : Code := cr c23
noncomputable def c26 : Code := cl c25
noncomputable def c27 : Code := cr c25
noncomputable def c28 : Code := cr c22
noncomputable def c29 : Code := cl c28
noncomputable def o7 : Array Oper := rops c29
noncomputable def c30 : Code := cr c19
noncomputable def c31 : Code := cl c30
noncomputable def c32 : Code := cl c31
noncomputable def o8 : Array Oper := rops c32
noncomputable def c33 : Code := cr c31
noncomputable def c34 : Code := cl c33
noncomputable def c35 : Code := cr c33
noncomputable def c36 : Code := cr c30
noncomputable def o9 : Array Oper := rops c36
noncomputable def c37 : Code := cr c15
noncomputable def o4 : Array Oper := rops c37
noncomputable def c38 : Code := cr c4
noncomputable def c39 : Code := cl c38
noncomputable def o10 : Array Oper := rops c39
noncomputable def c40 : Code := cr c38
end F25
/-- The specification's 'Set'. -/
theorem rset_ok {w₀ : World} {C : Nat → Nat} {l : List Tx} {vl : Value} (hF : Lim w₀ C) (hl : RV w₀ (Mc C) l vl) (hb : l.length ≤ 1099511627776) : Calls Try.prog 25 #[vl] w₀ (Ret fun v w' => Stp [] w₀ C w' C ∧ RV w' (Mc C) (setT l) v) := by
  have hF0 := hF
  have hT := Stp.refl [2, 3, 4, 5, 6, 7, 8, 9] w₀ (col1 C)
  replace hF := hF.col1
  replace hl : RV w₀ (Mc (col1 C)) l vl := by rw [Mc_col1]; exact hl
  refine calls_start (c := F25.c0) (N := 59) [vl] Try.func25 (by kernel_rfl) (by kernel_rfl) (by kernel_rfl) ?_
  show Run _ _ _ _ [(0, vl)] _ _
  refine run_seq (x := F25.c1) (y := F25.c2) (by kernel_rfl) ?_
  refine run_plain (id := 0) (ops := F25.o0) [(0, true)] (by kernel_rfl) (by kernel_rfl) ?_
  refine yS (by kernel_rfl : opAt F25.o0 0 = some (some 2, .assign (.const (.slice none 0 0)), none)) rfl rfl (fun w' hS => val_assign rfl) ?_
  refine Sch.nil ?_
  refine run_seq (x := F25.c3) (y := F25.c4) (by kernel_rfl) ?_
  refine run_plain (id := 1) (ops := F25.o1) [(0, true)] (by kernel_rfl) (by kernel_rfl) ?_
  refine yS (by kernel_rfl : opAt F25.o1 0 = some (some 3, .assign (.const (.slice none 0 0)), none)) rfl rfl (fun w' hS => val_assign rfl) ?_
  refine Sch.nil ?_
  refine run_seq (x := F25.c5) (y := F25.c38) (by kernel_rfl) ?_
  refine run_seq (x := F25.c6) (y := F25.c7) (by kernel_rfl) ?_
  refine run_plain (id := 2) (ops := F25.o2) [(0, true)] (by kernel_rfl) (by kernel_rfl) ?_
  refine yS (by kernel_rfl : opAt F25.o2 0 = some (some 4, .assign (.const (.int .i64 0)), none)) rfl rfl (fun w' hS => val_assign rfl) ?_
  refine Sch.nil ?_
  refine run_block (x := F25.c8) (id := 0) (by kernel_rfl) ?_
  
  refine run_loop (ι := Nat × Value × (Nat → Nat)) (I := fun x w => x.1 ≤ l.length ∧ Lim w x.2.2 ∧ Stp [2, 3, 4, 5, 6, 7, 8, 9] w₀ (col1 C) w x.2.2 ∧ RV w (Mc x.2.2) l vl ∧ RV w (Mc x.2.2) (setT (l.take x.1)) x.2.1) (e := fun x => [(0, vl), (3, x.2.1), (4, .int .i64 x.1)]) (m := fun x => l.length - x.1) (x₀ := (0, .slice none 0 0, col1 C)) (body := F25.c9) (by kernel_rfl) (sub_cons 0 rfl rfl (sub_cons 3 rfl rfl (sub_cons 4 rfl rfl (sub_nil _)))) ?_ ?_
  · exact ⟨Nat.zero_le _, hF, hT, hl, rv_nil⟩
  intro ⟨i, vo, C1⟩ w1 hI next
  obtain ⟨hi, hF, hT, hl, ho⟩ := hI
  try simp only at hi hF hT hl ho
  have next1 := next
  clear next
  show Run _ _ _ _ [(0, vl), (3, vo), (4, .int .i64 i)] _ _
  have hle := setT_len_le (l.take i)
  have hlt := List.length_take_le i l
  refine run_seq (x := F25.c10) (y := F25.c15) (by kernel_rfl) ?_
  refine run_seq (x := F25.c11) (y := F25.c12) (by kernel_rfl) ?_
  refine run_plain (id := 3) (ops := F25.o3) [(0, true), (1, true), (2, true), (3, true)] (by kernel_rfl) (by kernel_rfl) ?_
  refine yS (by kernel_rfl : opAt F25.o3 0 = some (some 6, .move (.tmp 4), none)) rfl rfl (fun w' hS => val_move rfl) ?_
  refine yS (by kernel_rfl : opAt F25.o3 1 = some (some 7, .move (.tmp 0), none)) rfl rfl (fun w' hS => val_move rfl) ?_
  refine yS (by kernel_rfl : opAt F25.o3 2 = some (some 8, .call { callee := .builtin .len, args := #[(.tmp 7)], argTypes := #[23] }, none)) rfl rfl (fun w' hS => hl.lenV rfl Try.underlying23 w' ) ?_
  refine yS (by kernel_rfl : opAt F25.o3 3 = some (some 9, .binOp .lss 3 (.tmp 6) (.tmp 8) 3, none)) rfl rfl (fun w' hS => val_lss rfl rfl) ?_
  refine Sch.nil ?_
  refine run_if (x := F25.c13) (y := F25.c14) (o := .tmp 9) (by kernel_rfl) rfl (fun h9 => ?_) (fun h9 => ?_)
  · skip
    have hil : i < l.length := by omega
    refine run_skip (by kernel_rfl) ?_
    refine run_seq (x := F25.c16) (y := F25.c37) (by kernel_rfl) ?_
    refine run_block (x := F25.c17) (id := 1) (by kernel_rfl) ?_
    refine run_seq (x := F25.c18) (y := F25.c19) (by kernel_rfl) ?_
    refine run_plain (id := 5) (ops := F25.o5) [(0, true)] (by kernel_rfl) (by kernel_rfl) ?_
    refine yS (by kernel_rfl : opAt F25.o5 0 = some (some 5, .assign (.const (.int .i64 0)), none)) rfl rfl (fun w' hS => val_assign rfl) ?_
    refine Sch.nil ?_
    refine run_seq (x := F25.c20) (y := F25.c30) (by kernel_rfl) ?_
    refine run_block (x := F25.c21) (id := 2) (by kernel_rfl) ?_
    
    refine run_loop (ι := Nat × (Nat → Nat)) (I := fun x w => x.1 ≤ (setT (l.take i)).length ∧ (∀ q (h1 : q < (setT (l.take i)).length), q < x.1 → ((setT (l.take i))[q]).l < (l[i]).l) ∧ Lim w x.2 ∧ Stp [2, 3, 4, 5, 6, 7, 8, 9] w₀ (col1 C) w x.2 ∧ RV w (Mc x.2) l vl ∧ RV w (Mc x.2) (setT (l.take i)) vo) (e := fun x => [(0, vl), (3, vo), (4, .int .i64 i), (5, .int .i64 x.1)]) (m := fun x => (setT (l.take i)).length - x.1) (x₀ := (0, C1)) (body := F25.c22) (by kernel_rfl) (sub_cons 0 rfl rfl (sub_cons 3 rfl rfl (sub_cons 4 rfl rfl (sub_cons 5 rfl rfl (sub_nil _))))) ?_ ?_
    · exact ⟨Nat.zero_le _, (fun q _ hq => by first | omega | (simp only at hq; omega)), hF, hT, hl, ho⟩
    intro ⟨k, C2⟩ w2 hI next
    obtain ⟨hk, h0, hF, hT, hl, ho⟩ := hI
    try simp only at hk h0 hF hT hl ho
    have next2 := next
    clear next
    show Run _ _ _ _ [(0, vl), (3, vo), (4, .int .i64 i), (5, .int .i64 k)] _ _
    refine run_seq (x := F25.c23) (y := F25.c28) (by kernel_rfl) ?_
    refine run_seq (x := F25.c24) (y := F25.c25) (by kernel_rfl) ?_
    refine run_cut 26 (decide (∃ h : k < (setT (l.take i)).length, ((setT (l.take i))[k]).l < (l[i]).l)) (C2) ?_ ?_
    · intro hcut
      by_cases hA : k < (setT (l.take i)).length
      · skip
        refine run_draw (id := 6) (ops := F25.o6) [] (C2) [(0, true), (1, true), (2, true), (3, true), (4, true), (5, true), (6, true), (7, true), (8, true), (9, true), (10, true), (11, true), (12, true), (13, true), (14, true)] Try_mixed (by kernel_rfl) (by kernel_rfl) (by kernel_rfl) ?_
        intro w3 hs
        replace hF := hF.st hs
        replace hT := hT.trans hs (by simp)
        replace hl := hl.st hs (by first | decide | (simp <;> omega))
        replace ho := ho.st hs (by first | decide | (simp <;> omega))
        have hcs := hs
        refine yS (by kernel_rfl : opAt F25.o6 0 = some (some 12, .move (.tmp 5), none)) rfl rfl (fun w' hS => val_move rfl) ?_
        refine yS (by kernel_rfl : opAt F25.o6 1 = some (some 13, .move (.tmp 3), none)) rfl rfl (fun w' hS => val_move rfl) ?_
        refine yS (by kernel_rfl : opAt F25.o6 2 = some (some 14, .call { callee := .builtin .len, args := #[(.tmp 13)], argTypes := #[23] }, none)) rfl rfl (fun w' hS => ho.lenV rfl Try.underlying23 w' ) ?_
        refine yS (by kernel_rfl : opAt F25.o6 3 = some (some 15, .binOp .lss 3 (.tmp 12) (.tmp 14) 3, none)) rfl rfl (fun w' hS => val_T (val_lss rfl rfl) (by omega)) ?_
        refine yS (by kernel_rfl : opAt F25.o6 4 = some (some 16, .move (.tmp 15), none)) rfl rfl (fun w' hS => val_move rfl) ?_
        refine yS (by kernel_rfl : opAt F25.o6 5 = some (some 17, .move (.tmp 3), (some (4, true)))) rfl rfl (fun w' hS => val_move rfl) ?_
        refine yS (by kernel_rfl : opAt F25.o6 6 = some (some 18, .move (.tmp 5), (some (4, true)))) rfl rfl (fun w' hS => val_move rfl) ?_
        refine iS (e := 9) (by kernel_rfl : opAt F25.o6 7 = some (some 19, .indexAddr 23 (.tmp 17) (.tmp 18), (some (4, true)))) rfl rfl ho rfl (by kernel_rfl) rfl (by omega) (by omega) ?_
        intro b19 o19 h19
        try simp only [Int.toNat_natCast] at h19
        refine lS (by kernel_rfl : opAt F25.o6 8 = some (some 20, .load 9 (.tmp 19), (some (4, true)))) rfl rfl (fun w' hS => h19.stay hS (by first | decide | (simp <;> omega))) h19 (by kernel_rfl) rfl rfl ?_
        intro v20 g20
        obtain ⟨rfl, hb20⟩ := rv_tx.1 g20
        refine yS (by kernel_rfl : opAt F25.o6 9 = some (some 21, .move (.tmp 0), (some (4, true)))) rfl rfl (fun w' hS => val_move rfl) ?_
        refine yS (by kernel_rfl : opAt F25.o6 10 = some (some 22, .move (.tmp 4), (some (4, true)))) rfl rfl (fun w' hS => val_move rfl) ?_
        refine iS (e := 9) (by kernel_rfl : opAt F25.o6 11 = some (some 23, .indexAddr 23 (.tmp 21) (.tmp 22), (some (4, true)))) rfl rfl hl rfl (by kernel_rfl) rfl (by omega) (by omega) ?_
        intro b23 o23 h23
        try simp only [Int.toNat_natCast] at h23
        refine lS (by kernel_rfl : opAt F25.o6 12 = some (some 24, .load 9 (.tmp 23), (some (4, true)))) rfl rfl (fun w' hS => h23.stay hS (by first | decide | (simp <;> omega))) h23 (by kernel_rfl) rfl rfl ?_
        intro v24 g24
        obtain ⟨rfl, hb24⟩ := rv_tx.1 g24
        refine yS (by kernel_rfl : opAt F25.o6 13 = some (some 25, .binOp .lss 9 (.tmp 20) (.tmp 24) 9, (some (4, true)))) rfl rfl (fun w' hS => val_ltT rfl rfl) ?_
        refine yS (by kernel_rfl : opAt F25.o6 14 = some (some 26, .pick (.tmp 16) (.tmp 25) (.const (.bool false)), none)) rfl rfl (fun w' hS => val_pick_t rfl rfl) ?_
        exact Sch.nil (hcut _ _ _ hcs rfl (eq_bool (dec_yes hA ⟨fun e => e, fun e => e⟩)) (sub_skip rfl (sub_skip rfl (sub_skip rfl (sub_skip rfl (sub_skip rfl (sub_skip rfl (sub_skip rfl (sub_skip rfl (sub_skip rfl (sub_skip rfl (sub_skip rfl (sub_skip rfl (sub_skip rfl (sub_skip rfl (sub_skip rfl (Sub.refl _)))))))))))))))))
      · skip
        refine run_draw (id := 6) (ops := F25.o6) [] (C2) [(0, true), (1, true), (2, true), (3, true), (4, true), (5, true), (6, true), (7, true), (8, true), (9, true), (10, true), (11, true), (12, true), (13, true), (14, true)] Try_mixed (by kernel_rfl) (by kernel_rfl) (by kernel_rfl) ?_
        intro w4 hs
        replace hF := hF.st hs
        replace hT := hT.trans hs (by simp)
        replace hl := hl.st hs (by first | decide | (simp <;> omega))
        replace ho := ho.st hs (by first | decide | (simp <;> omega))
        have hcs := hs
        refine yS (by kernel_rfl : opAt F25.o6 0 = some (some 12, .move (.tmp 5), none)) rfl rfl (fun w' hS => val_move rfl) ?_
        refine yS (by kernel_rfl : opAt F25.o6 1 = some (some 13, .move (.tmp 3), none)) rfl rfl (fun w' hS => val_move rfl) ?_
        refine yS (by kernel_rfl : opAt F25.o6 2 = some (some 14, .call { callee := .builtin .len, args := #[(.tmp 13)], argTypes := #[23] }, none)) rfl rfl (fun w' hS => ho.lenV rfl Try.underlying23 w' ) ?_
        refine yS (by kernel_rfl : opAt F25.o6 3 = some (some 15, .binOp .lss 3 (.tmp 12) (.tmp 14) 3, none)) rfl rfl (fun w' hS => val_F (val_lss rfl rfl) (by omega)) ?_
        refine yS (by kernel_rfl : opAt F25.o6 4 = some (some 16, .move (.tmp 15), none)) rfl rfl (fun w' hS => val_move rfl) ?_
        refine pS (by kernel_rfl : opAt F25.o6 5 = some (some 17, .move (.tmp 3), (some (4, true)))) rfl rfl ?_
        refine pS (by kernel_rfl : opAt F25.o6 6 = some (some 18, .move (.tmp 5), (some (4, true)))) rfl rfl ?_
        refine pS (by kernel_rfl : opAt F25.o6 7 = some (some 19, .indexAddr 23 (.tmp 17) (.tmp 18), (some (4, true)))) rfl rfl ?_
        refine pS (by kernel_rfl : opAt F25.o6 8 = some (some 20, .load 9 (.tmp 19), (some (4, true)))) rfl rfl ?_
        refine pS (by kernel_rfl : opAt F25.o6 9 = some (some 21, .move (.tmp 0), (some (4, true)))) rfl rfl ?_
        refine pS (by kernel_rfl : opAt F25.o6 10 = some (some 22, .move (.tmp 4), (some (4, true)))) rfl rfl ?_
        refine pS (by kernel_rfl : opAt F25.o6 11 = some (some 23, .indexAddr 23 (.tmp 21) (.tmp 22), (some (4, true)))) rfl rfl ?_
        refine pS (by kernel_rfl : opAt F25.o6 12 = some (some 24, .load 9 (.tmp 23), (some (4, true)))) rfl rfl ?_
        refine pS (by kernel_rfl : opAt F25.o6 13 = some (some 25, .binOp .lss 9 (.tmp 20) (.tmp 24) 9, (some (4, true)))) rfl rfl ?_
        refine yS (by kernel_rfl : opAt F25.o6 14 = some (some 26, .pick (.tmp 16) (.tmp 25) (.const (.bool false)), none)) rfl rfl (fun w' hS => val_pick_f rfl rfl) ?_
        exact Sch.nil (hcut _ _ _ hcs rfl (eq_bool (dec_no hA)) (sub_skip rfl (sub_skip rfl (sub_skip rfl (sub_skip rfl (sub_skip rfl (sub_skip rfl (sub_skip rfl (sub_skip rfl (sub_skip rfl (sub_skip rfl (sub_skip rfl (sub_skip rfl (sub_skip rfl (sub_skip rfl (sub_skip rfl (Sub.refl _)))))))))))))))))
    intro w5 hs
    replace hF := hF.st hs
    replace hT := hT.trans hs (by simp)
    replace hl := hl.st hs (by first | decide | (simp <;> omega))
    replace ho := ho.st hs (by first | decide | (simp <;> omega))
    refine run_if (x := F25.c26) (y := F25.c27) (o := .tmp 26) (by kernel_rfl) rfl (fun h26 => ?_) (fun h26 => ?_)
    · skip
      obtain ⟨hks, hlx⟩ := h26
      refine run_skip (by kernel_rfl) ?_
      refine run_block (x := F25.c29) (id := 3) (by kernel_rfl) ?_
      refine run_plain (id := 7) (ops := F25.o7) [(0, true), (1, true), (2, true)] (by kernel_rfl) (by kernel_rfl) ?_
      refine yS (by kernel_rfl : opAt F25.o7 0 = some (some 27, .move (.tmp 5), none)) rfl rfl (fun w' hS => val_move rfl) ?_
      refine yS (by kernel_rfl : opAt F25.o7 1 = some (some 28, .binOp .add 3 (.tmp 27) (.const (.int .i64 1)) 3, none)) rfl rfl (fun w' hS => val_addi rfl rfl (by omega) (by omega)) ?_
      refine yS (by kernel_rfl : opAt F25.o7 2 = some (some 5, .assign (.tmp 28), none)) rfl rfl (fun w' hS => val_assign rfl) ?_
      refine Sch.nil ?_
      refine run_inBlock ?_
      refine kp (sub_cons 0 rfl rfl (sub_cons 3 rfl rfl (sub_cons 4 rfl rfl (sub_cons 5 rfl (eq_int (by simp)) (sub_nil _))))) (next2 (k + 1, C2) _ ⟨(by first | omega | (simp only; omega)), (fun q h1 hq => by
          try simp only at hq
          by_cases e : q = k
          · subst e; exact hlx
          · exact h0 q h1 (by omega)), hF, hT, hl, ho⟩ (by first | omega | (simp only; omega)))
    · skip
      have hno : ∀ h : k < (setT (l.take i)).length, ¬ ((setT (l.take i))[k]).l < (l[i]).l := fun h e => h26 ⟨h, e⟩
      have hins := insT_at (x := l[i]) hk (fun q h1 h2 => h0 q h1 h2) hno
      refine run_exit (id := 2) (by kernel_rfl) rfl ?_
      refine run_seq (x := F25.c31) (y := F25.c36) (by kernel_rfl) ?_
      refine run_seq (x := F25.c32) (y := F25.c33) (by kernel_rfl) ?_
      refine run_cut 43 (decide (∃ h : k < (setT (l.take i)).length, (setT (l.take i))[k] = l[i])) (C2) ?_ ?_
      · intro hcut
        by_cases hA : k < (setT (l.take i)).length
        · skip
          refine run_draw (id := 8) (ops := F25.o8) [] (C2) [(0, true), (1, true), (2, true), (3, true), (4, true), (5, true), (6, true), (7, true), (8, true), (9, true), (10, true), (11, true), (12, true), (13, true), (14, true)] Try_mixed (by kernel_rfl) (by kernel_rfl) (by kernel_rfl) ?_
          intro w6 hs
          replace hF := hF.st hs
          replace hT := hT.trans hs (by simp)
          replace hl := hl.st hs (by first | decide | (simp <;> omega))
          replace ho := ho.st hs (by first | decide | (simp <;> omega))
          have hcs := hs
          refine yS (by kernel_rfl : opAt F25.o8 0 = some (some 29, .move (.tmp 5), none)) rfl rfl (fun w' hS => val_move rfl) ?_
          refine yS (by kernel_rfl : opAt F25.o8 1 = some (some 30, .move (.tmp 3), none)) rfl rfl (fun w' hS => val_move rfl) ?_
          refine yS (by kernel_rfl : opAt F25.o8 2 = some (some 31, .call { callee := .builtin .len, args := #[(.tmp 30)], argTypes := #[23] }, none)) rfl rfl (fun w' hS => ho.lenV rfl Try.underlying23 w' ) ?_
          refine yS (by kernel_rfl : opAt F25.o8 3 = some (some 32, .binOp .lss 3 (.tmp 29) (.tmp 31) 3, none)) rfl rfl (fun w' hS => val_T (val_lss rfl rfl) (by omega)) ?_
          refine yS (by kernel_rfl : opAt F25.o8 4 = some (some 33, .move (.tmp 32), none)) rfl rfl (fun w' hS => val_move rfl) ?_
          refine yS (by kernel_rfl : opAt F25.o8 5 = some (some 34, .move (.tmp 3), (some (4, true)))) rfl rfl (fun w' hS => val_move rfl) ?_
          refine yS (by kernel_rfl : opAt F25.o8 6 = some (some 35, .move (.tmp 5), (some (4, true)))) rfl rfl (fun w' hS => val_move rfl) ?_
          refine iS (e := 9) (by kernel_rfl : opAt F25.o8 7 = some (some 36, .indexAddr 23 (.tmp 34) (.tmp 35), (some (4, true)))) rfl rfl ho rfl (by kernel_rfl) rfl (by omega) (by omega) ?_
          intro b36 o36 h36
          try simp only [Int.toNat_natCast] at h36
          refine lS (by kernel_rfl : opAt F25.o8 8 = some (some 37, .load 9 (.tmp 36), (some (4, true)))) rfl rfl (fun w' hS => h36.stay hS (by first | decide | (simp <;> omega))) h36 (by kernel_rfl) rfl rfl ?_
          intro v37 g37
          obtain ⟨rfl, hb37⟩ := rv_tx.1 g37
          refine yS (by kernel_rfl : opAt F25.o8 9 = some (some 38, .move (.tmp 0), (some (4, true)))) rfl rfl (fun w' hS => val_move rfl) ?_
          refine yS (by kernel_rfl : opAt F25.o8 10 = some (some 39, .move (.tmp 4), (some (4, true)))) rfl rfl (fun w' hS => val_move rfl) ?_
          refine iS (e := 9) (by kernel_rfl : opAt F25.o8 11 = some (some 40, .indexAddr 23 (.tmp 38) (.tmp 39), (some (4, true)))) rfl rfl hl rfl (by kernel_rfl) rfl (by omega) (by omega) ?_
          intro b40 o40 h40
          try simp only [Int.toNat_natCast] at h40
          refine lS (by kernel_rfl : opAt F25.o8 12 = some (some 41, .load 9 (.tmp 40), (some (4, true)))) rfl rfl (fun w' hS => h40.stay hS (by first | decide | (simp <;> omega))) h40 (by kernel_rfl) rfl rfl ?_
          intro v41 g41
          obtain ⟨rfl, hb41⟩ := rv_tx.1 g41
          refine yS (by kernel_rfl : opAt F25.o8 13 = some (some 42, .binOp .eql 9 (.tmp 37) (.tmp 41) 9, (some (4, true)))) rfl rfl (fun w' hS => val_eqT rfl rfl) ?_
          refine yS (by kernel_rfl : opAt F25.o8 14 = some (some 43, .pick (.tmp 33) (.tmp 42) (.const (.bool false)), none)) rfl rfl (fun w' hS => val_pick_t rfl rfl) ?_
          exact Sch.nil (hcut _ _ _ hcs rfl (eq_bool (dec_yes hA ⟨fun e => tx_ext e, fun e => by rw [e]⟩)) (sub_skip rfl (sub_skip rfl (sub_skip rfl (sub_skip rfl (sub_skip rfl (sub_skip rfl (sub_skip rfl (sub_skip rfl (sub_skip rfl (sub_skip rfl (sub_skip rfl (sub_skip rfl (sub_skip rfl (sub_skip rfl (sub_skip rfl (Sub.refl _)))))))))))))))))
        · skip
          refine run_draw (id := 8) (ops := F25.o8) [] (C2) [(0, true), (1, true), (2, true), (3, true), (4, true), (5, true), (6, true), (7, true), (8, true), (9, true), (10, true), (11, true), (12, true), (13, true), (14, true)] Try_mixed (by kernel_rfl) (by kernel_rfl) (by kernel_rfl) ?_
          intro w7 hs
          replace hF := hF.st hs
          replace hT := hT.trans hs (by simp)
          replace hl := hl.st hs (by first | decide | (simp <;> omega))
          replace ho := ho.st hs (by first | decide | (simp <;> omega))
          have hcs := hs
          refine yS (by kernel_rfl : opAt F25.o8 0 = some (some 29, .move (.tmp 5), none)) rfl rfl (fun w' hS => val_move rfl) ?_
          refine yS (by kernel_rfl : opAt F25.o8 1 = some (some 30, .move (.tmp 3), none)) rfl rfl (fun w' hS => val_move rfl) ?_
          refine yS (by kernel_rfl : opAt F25.o8 2 = some (some 31, .call { callee := .builtin .len, args := #[(.tmp 30)], argTypes := #[23] }, none)) rfl rfl (fun w' hS => ho.lenV rfl Try.underlying23 w' ) ?_
          refine yS (by kernel_rfl : opAt F25.o8 3 = some (some 32, .binOp .lss 3 (.tmp 29) (.tmp 31) 3, none)) rfl rfl (fun w' hS => val_F (val_lss rfl rfl) (by omega)) ?_
          refine yS (by kernel_rfl : opAt F25.o8 4 = some (some 33, .move (.tmp 32), none)) rfl rfl (fun w' hS => val_move rfl) ?_
          refine pS (by kernel_rfl : opAt F25.o8 5 = some (some 34, .move (.tmp 3), (some (4, true)))) rfl rfl ?_
          refine pS (by kernel_rfl : opAt F25.o8 6 = some (some 35, .move (.tmp 5), (some (4, true)))) rfl rfl ?_
          refine pS (by kernel_rfl : opAt F25.o8 7 = some (some 36, .indexAddr 23 (.tmp 34) (.tmp 35), (some (4, true)))) rfl rfl ?_
          refine pS (by kernel_rfl : opAt F25.o8 8 = some (some 37, .load 9 (.tmp 36), (some (4, true)))) rfl rfl ?_
          refine pS (by kernel_rfl : opAt F25.o8 9 = some (some 38, .move (.tmp 0), (some (4, true)))) rfl rfl ?_
          refine pS (by kernel_rfl : opAt F25.o8 10 = some (some 39, .move (.tmp 4), (some (4, true)))) rfl rfl ?_
          refine pS (by kernel_rfl : opAt F25.o8 11 = some (some 40, .indexAddr 23 (.tmp 38) (.tmp 39), (some (4, true)))) rfl rfl ?_
          refine pS (by kernel_rfl : opAt F25.o8 12 = some (some 41, .load 9 (.tmp 40), (some (4, true)))) rfl rfl ?_
          refine pS (by kernel_rfl : opAt F25.o8 13 = some (some 42, .binOp .eql 9 (.tmp 37) (.tmp 41) 9, (some (4, true)))) rfl rfl ?_
          refine yS (by kernel_rfl : opAt F25.o8 14 = some (some 43, .pick (.tmp 33) (.tmp 42) (.const (.bool false)), none)) rfl rfl (fun w' hS => val_pick_f rfl rfl) ?_
          exact Sch.nil (hcut _ _ _ hcs rfl (eq_bool (dec_no hA)) (sub_skip rfl (sub_skip rfl (sub_skip rfl (sub_skip rfl (sub_skip rfl (sub_skip rfl (sub_skip rfl (sub_skip rfl (sub_skip rfl (sub_skip rfl (sub_skip rfl (sub_skip rfl (sub_skip rfl (sub_skip rfl (sub_skip rfl (Sub.refl _)))))))))))))))))
      intro w8 hs
      replace hF := hF.st hs
      replace hT := hT.trans hs (by simp)
      replace hl := hl.st hs (by first | decide | (simp <;> omega))
      replace ho := ho.st hs (by first | decide | (simp <;> omega))
      refine run_if (x := F25.c34) (y := F25.c35) (o := .tmp 43) (by kernel_rfl) rfl (fun h43 => ?_) (fun h43 => ?_)
      · skip
        have hgd : ∀ h : k < (setT (l.take i)).length, (setT (l.take i)).getD k default = (setT (l.take i))[k] := fun h => by simp [List.getD, h]
        obtain ⟨hks, hex⟩ := h43
        rw [dif_pos ⟨hks, by rw [hgd hks]; exact hex⟩] at hins
        refine run_exit (id := 1) (by kernel_rfl) rfl ?_
        refine run_plain (id := 4) (ops := F25.o4) [(0, true), (1, true), (2, true)] (by kernel_rfl) (by kernel_rfl) ?_
        refine yS (by kernel_rfl : opAt F25.o4 0 = some (some 10, .move (.tmp 4), none)) rfl rfl (fun w' hS => val_move rfl) ?_
        refine yS (by kernel_rfl : opAt F25.o4 1 = some (some 11, .binOp .add 3 (.tmp 10) (.const (.int .i64 1)) 3, none)) rfl rfl (fun w' hS => val_addi rfl rfl (by omega) (by omega)) ?_
        refine yS (by kernel_rfl : opAt F25.o4 2 = some (some 4, .assign (.tmp 11), none)) rfl rfl (fun w' hS => val_assign rfl) ?_
        refine Sch.nil ?_
        refine kp (sub_cons 0 rfl rfl (sub_cons 3 rfl rfl (sub_cons 4 rfl (eq_int (by simp)) (sub_nil _)))) (next1 (i + 1, vo, C2) _ ⟨(by first | omega | (simp only; omega)), hF, hT, hl, (by rw [setT_take hil, hins]; exact ho)⟩ (by first | omega | (simp only; omega)))
      · skip
        have hgd : ∀ h : k < (setT (l.take i)).length, (setT (l.take i)).getD k default = (setT (l.take i))[k] := fun h => by simp [List.getD, h]
        rw [dif_neg (fun e => h43 ⟨e.1, by rw [← hgd e.1]; exact e.2⟩)] at hins
        refine run_skip (by kernel_rfl) ?_
        refine run_draw2 (id := 9) (ops := F25.o9) [3] (C2) [0, 1, 2, 4, 5, 6, 7, 10, 11, 12] 3 [(8, false), (9, false), (13, false), (14, true)] 8 [(3, false), (9, false), (13, false), (14, true)] Try_mixed (by kernel_rfl) (by kernel_rfl) (by kernel_rfl) ?_ ?_
        · skip
          intro w9 hs
          replace hF := hF.st hs
          replace hT := hT.trans hs (by simp)
          replace hl := hl.st hs (by first | decide | (simp <;> omega))
          replace ho := ho.st hs (by first | decide | (simp <;> omega))
          show Sch _ _ _ _ _ _ _ [(0, true), (1, true), (2, true), (4, true), (5, true), (6, true), (7, true), (10, true), (11, true), (12, true), (3, false), (8, false), (9, false), (13, false), (14, true)] _ _
          have hR := Stp.refl [3] w9 (C2)
          refine yS (by kernel_rfl : opAt F25.o9 0 = some (some 44, .move (.tmp 3), none)) rfl rfl (fun w' hS => val_move rfl) ?_
          refine yS (by kernel_rfl : opAt F25.o9 1 = some (some 45, .move (.tmp 5), none)) rfl rfl (fun w' hS => val_move rfl) ?_
          refine sTR (e' := 9) (by kernel_rfl : opAt F25.o9 2 = some (some 46, .slice 23 (.tmp 44) none (some (.tmp 45)) none, none)) rfl rfl ho rfl (by kernel_rfl) rfl (by omega) (by omega) ?_
          intro v46 h46
          try simp only [Int.toNat_natCast] at h46
          refine yS (by kernel_rfl : opAt F25.o9 4 = some (some 48, .move (.tmp 0), none)) rfl rfl (fun w' hS => val_move rfl) ?_
          refine yS (by kernel_rfl : opAt F25.o9 5 = some (some 49, .move (.tmp 4), none)) rfl rfl (fun w' hS => val_move rfl) ?_
          refine iS (e := 9) (by kernel_rfl : opAt F25.o9 6 = some (some 50, .indexAddr 23 (.tmp 48) (.tmp 49), none)) rfl rfl hl rfl (by kernel_rfl) rfl (by omega) (by omega) ?_
          intro b50 o50 h50
          try simp only [Int.toNat_natCast] at h50
          refine lS (by kernel_rfl : opAt F25.o9 7 = some (some 51, .load 9 (.tmp 50), none)) rfl rfl (fun w' hS => h50.stay hS (by first | decide | (simp <;> omega))) h50 (by kernel_rfl) rfl rfl ?_
          intro v51 g51
          obtain ⟨rfl, hb51⟩ := rv_tx.1 g51
          refine yS (by kernel_rfl : opAt F25.o9 10 = some (some 54, .move (.tmp 3), none)) rfl rfl (fun w' hS => val_move rfl) ?_
          refine yS (by kernel_rfl : opAt F25.o9 11 = some (some 55, .move (.tmp 5), none)) rfl rfl (fun w' hS => val_move rfl) ?_
          refine sFR (e' := 9) (by kernel_rfl : opAt F25.o9 12 = some (some 56, .slice 23 (.tmp 54) (some (.tmp 55)) none none, none)) rfl rfl ho rfl (by kernel_rfl) rfl (by omega) (by omega) ?_
          intro v56 h56
          try simp only [Int.toNat_natCast] at h56
          refine aS (by kernel_rfl : opAt F25.o9 3 = some (some 47, .call { callee := .builtin .append, args := #[(.const (.slice none 0 0)), (.tmp 46)], argTypes := #[23, 23] }, none)) rfl rfl (a_append (e := 9) (bytes := 16) hF (by decide) rfl rfl (by kernel_rfl) (by decide) (OwnL.nil (α := Tx) (j := 3)) h46 (by simp only [List.length_nil, List.length_take]; omega) (by simp only [List.length_nil, List.length_take]; omega)) ?_
          rintro v47 w10 ⟨Cw10, hs, hn, hF⟩
          refine ⟨(hR.trans hs (by simp)).ext, ?_⟩
          replace hT := hT.trans hs (by simp)
          replace hl := hl.st hs (by first | decide | (simp <;> omega))
          replace ho := ho.st hs (by first | decide | (simp <;> omega))
          replace hR := hR.trans hs (by simp)
          replace h46 := h46.st hs (by first | decide | (simp <;> omega))
          replace h50 := h50.st hs (by first | decide | (simp <;> omega))
          replace h56 := h56.st hs (by first | decide | (simp <;> omega))
          refine aS (by kernel_rfl : opAt F25.o9 8 = some (some 52, .buildSlice 23 1 #[(0, (.tmp 51))], none)) rfl rfl (a_buildSlice (ys := ([l[i]] : List Tx)) (e := 9) (bytes := 16) hF (by kernel_rfl) rfl (by decide) (by decide) ⟨rfl, ⟨_, rfl, rv_tx.2 ⟨rfl, (by first | omega | (simp only; omega))⟩⟩, trivial⟩) ?_
          rintro v52 w11 ⟨hs, hx1, hF⟩
          refine ⟨(hR.trans hs (by simp)).ext, ?_⟩
          replace hT := hT.trans hs (by simp)
          replace hl := hl.st hs (by first | decide | (simp <;> omega))
          replace ho := ho.st hs (by first | decide | (simp <;> omega))
          replace hR := hR.trans hs (by simp)
          replace h46 := h46.st hs (by first | decide | (simp <;> omega))
          replace h50 := h50.st hs (by first | decide | (simp <;> omega))
          replace h56 := h56.st hs (by first | decide | (simp <;> omega))
          replace hn := hn.st hs (by first | decide | (simp <;> omega)) (by first | decide | (simp <;> omega))
          refine aS (by kernel_rfl : opAt F25.o9 9 = some (some 53, .call { callee := .builtin .append, args := #[(.tmp 47), (.tmp 52)], argTypes := #[23, 23] }, none)) rfl rfl (a_append (e := 9) (bytes := 16) hF (by decide) rfl rfl (by kernel_rfl) (by decide) hn hx1 (by simp only [List.length_nil, List.length_append, List.length_cons, List.length_take, List.length_drop]; omega) (by simp only [List.length_nil, List.length_append, List.length_cons, List.length_take, List.length_drop]; omega)) ?_
          rintro v53 w12 ⟨Cw12, hs, hn, hF⟩
          refine ⟨(hR.trans hs (by simp)).ext, ?_⟩
          replace hT := hT.trans hs (by simp)
          replace hl := hl.st hs (by first | decide | (simp <;> omega))
          replace ho := ho.st hs (by first | decide | (simp <;> omega))
          replace hR := hR.trans hs (by simp)
          replace h46 := h46.st hs (by first | decide | (simp <;> omega))
          replace h50 := h50.st hs (by first | decide | (simp <;> omega))
          replace h56 := h56.st hs (by first | decide | (simp <;> omega))
          replace hx1 := hx1.st hs (by first | decide | (simp <;> omega))
          refine aS (by kernel_rfl : opAt F25.o9 13 = some (some 57, .call { callee := .builtin .append, args := #[(.tmp 53), (.tmp 56)], argTypes := #[23, 23] }, none)) rfl rfl (a_append (e := 9) (bytes := 16) hF (by decide) rfl rfl (by kernel_rfl) (by decide) hn h56 (by simp only [List.length_nil, List.length_append, List.length_cons, List.length_take, List.length_drop]; omega) (by simp only [List.length_nil, List.length_append, List.length_cons, List.length_take, List.length_drop]; omega)) ?_
          rintro v57 w13 ⟨Cw13, hs, hn, hF⟩
          refine ⟨(hR.trans hs (by simp)).ext, ?_⟩
          replace hT := hT.trans hs (by simp)
          replace hl := hl.st hs (by first | decide | (simp <;> omega))
          replace ho := ho.st hs (by first | decide | (simp <;> omega))
          replace hR := hR.trans hs (by simp)
          replace h46 := h46.st hs (by first | decide | (simp <;> omega))
          replace h50 := h50.st hs (by first | decide | (simp <;> omega))
          replace h56 := h56.st hs (by first | decide | (simp <;> omega))
          replace hx1 := hx1.st hs (by first | decide | (simp <;> omega))
          refine yS (by kernel_rfl : opAt F25.o9 14 = some (some 3, .assign (.tmp 57), none)) rfl rfl (fun w' hS => val_assign rfl) ?_
          refine Sch.nil ?_
          refine run_inBlock ?_
          refine run_plain (id := 4) (ops := F25.o4) [(0, true), (1, true), (2, true)] (by kernel_rfl) (by kernel_rfl) ?_
          refine yS (by kernel_rfl : opAt F25.o4 0 = some (some 10, .move (.tmp 4), none)) rfl rfl (fun w' hS => val_move rfl) ?_
          refine yS (by kernel_rfl : opAt F25.o4 1 = some (some 11, .binOp .add 3 (.tmp 10) (.const (.int .i64 1)) 3, none)) rfl rfl (fun w' hS => val_addi rfl rfl (by omega) (by omega)) ?_
          refine yS (by kernel_rfl : opAt F25.o4 2 = some (some 4, .assign (.tmp 11), none)) rfl rfl (fun w' hS => val_assign rfl) ?_
          refine Sch.nil ?_
          clear hx1
          clear h46
          clear h56
          have hnl : (([] ++ (setT (l.take i)).take k) ++ [l[i]] ++ (setT (l.take i)).drop k).length ≤ l.length := by have h1 := setT_len_le (l.take (i + 1)); rw [setT_take hil, hins] at h1; simp only [List.nil_append] at h1 ⊢; have h2 := List.length_take_le (i + 1) l; omega
          replace hF := hF.frz 3
          replace hT := hT.frz (n := 3) (fun b => Nat.lt_of_lt_of_le (col1_lt2 C b) (by decide))
          replace hl := hl.frz 3
          clear ho
          replace h50 := h50.frz 3
          have hn2_ := hn.frz (n := 3) (by decide) (by omega)
          clear hn
          have hn2 := hn2_
          clear hn2_
          refine kp (sub_cons 0 rfl rfl (sub_cons 3 rfl rfl (sub_cons 4 rfl (eq_int (by simp)) (sub_nil _)))) (next1 (i + 1, v57, K.frz 3 Cw13) _ ⟨(by first | omega | (simp only; omega)), hF, hT, hl, (by rw [setT_take hil, hins]; simpa using hn2)⟩ (by first | omega | (simp only; omega)))
        · skip
          intro w14 hs
          replace hF := hF.st hs
          replace hT := hT.trans hs (by simp)
          replace hl := hl.st hs (by first | decide | (simp <;> omega))
          replace ho := ho.st hs (by first | decide | (simp <;> omega))
          show Sch _ _ _ _ _ _ _ [(0, true), (1, true), (2, true), (4, true), (5, true), (6, true), (7, true), (10, true), (11, true), (12, true), (8, false), (3, false), (9, false), (13, false), (14, true)] _ _
          have hR := Stp.refl [3] w14 (C2)
          refine yS (by kernel_rfl : opAt F25.o9 0 = some (some 44, .move (.tmp 3), none)) rfl rfl (fun w' hS => val_move rfl) ?_
          refine yS (by kernel_rfl : opAt F25.o9 1 = some (some 45, .move (.tmp 5), none)) rfl rfl (fun w' hS => val_move rfl) ?_
          refine sTR (e' := 9) (by kernel_rfl : opAt F25.o9 2 = some (some 46, .slice 23 (.tmp 44) none (some (.tmp 45)) none, none)) rfl rfl ho rfl (by kernel_rfl) rfl (by omega) (by omega) ?_
          intro v46 h46
          try simp only [Int.toNat_natCast] at h46
          refine yS (by kernel_rfl : opAt F25.o9 4 = some (some 48, .move (.tmp 0), none)) rfl rfl (fun w' hS => val_move rfl) ?_
          refine yS (by kernel_rfl : opAt F25.o9 5 = some (some 49, .move (.tmp 4), none)) rfl rfl (fun w' hS => val_move rfl) ?_
          refine iS (e := 9) (by kernel_rfl : opAt F25.o9 6 = some (some 50, .indexAddr 23 (.tmp 48) (.tmp 49), none)) rfl rfl hl rfl (by kernel_rfl) rfl (by omega) (by omega) ?_
          intro b50 o50 h50
          try simp only [Int.toNat_natCast] at h50
          refine lS (by kernel_rfl : opAt F25.o9 7 = some (some 51, .load 9 (.tmp 50), none)) rfl rfl (fun w' hS => h50.stay hS (by first | decide | (simp <;> omega))) h50 (by kernel_rfl) rfl rfl ?_
          intro v51 g51
          obtain ⟨rfl, hb51⟩ := rv_tx.1 g51
          refine yS (by kernel_rfl : opAt F25.o9 10 = some (some 54, .move (.tmp 3), none)) rfl rfl (fun w' hS => val_move rfl) ?_
          refine yS (by kernel_rfl : opAt F25.o9 11 = some (some 55, .move (.tmp 5), none)) rfl rfl (fun w' hS => val_move rfl) ?_
          refine sFR (e' := 9) (by kernel_rfl : opAt F25.o9 12 = some (some 56, .slice 23 (.tmp 54) (some (.tmp 55)) none none, none)) rfl rfl ho rfl (by kernel_rfl) rfl (by omega) (by omega) ?_
          intro v56 h56
          try simp only [Int.toNat_natCast] at h56
          refine aS (by kernel_rfl : opAt F25.o9 8 = some (some 52, .buildSlice 23 1 #[(0, (.tmp 51))], none)) rfl rfl (a_buildSlice (ys := ([l[i]] : List Tx)) (e := 9) (bytes := 16) hF (by kernel_rfl) rfl (by decide) (by decide) ⟨rfl, ⟨_, rfl, rv_tx.2 ⟨rfl, (by first | omega | (simp only; omega))⟩⟩, trivial⟩) ?_
          rintro v52 w15 ⟨hs, hx1, hF⟩
          refine ⟨(hR.trans hs (by simp)).ext, ?_⟩
          replace hT := hT.trans hs (by simp)
          replace hl := hl.st hs (by first | decide | (simp <;> omega))
          replace ho := ho.st hs (by first | decide | (simp <;> omega))
          replace hR := hR.trans hs (by simp)
          replace h46 := h46.st hs (by first | decide | (simp <;> omega))
          replace h50 := h50.st hs (by first | decide | (simp <;> omega))
          replace h56 := h56.st hs (by first | decide | (simp <;> omega))
          refine aS (by kernel_rfl : opAt F25.o9 3 = some (some 47, .call { callee := .builtin .append, args := #[(.const (.slice none 0 0)), (.tmp 46)], argTypes := #[23, 23] }, none)) rfl rfl (a_append (e := 9) (bytes := 16) hF (by decide) rfl rfl (by kernel_rfl) (by decide) (OwnL.nil (α := Tx) (j := 3)) h46 (by simp only [List.length_nil, List.length_take]; omega) (by simp only [List.length_nil, List.length_take]; omega)) ?_
          rintro v47 w16 ⟨Cw16, hs, hn, hF⟩
          refine ⟨(hR.trans hs (by simp)).ext, ?_⟩
          replace hT := hT.trans hs (by simp)
          replace hl := hl.st hs (by first | decide | (simp <;> omega))
          replace ho := ho.st hs (by first | decide | (simp <;> omega))
          replace hR := hR.trans hs (by simp)
          replace h46 := h46.st hs (by first | decide | (simp <;> omega))
          replace h50 := h50.st hs (by first | decide | (simp <;> omega))
          replace h56 := h56.st hs (by first | decide | (simp <;> omega))
          replace hx1 := hx1.st hs (by first | decide | (simp <;> omega))
          refine aS (by kernel_rfl : opAt F25.o9 9 = some (some 53, .call { callee := .builtin .append, args := #[(.tmp 47), (.tmp 52)], argTypes := #[23, 23] }, none)) rfl rfl (a_append (e := 9) (bytes := 16) hF (by decide) rfl rfl (by kernel_rfl) (by decide) hn hx1 (by simp only [List.length_nil, List.length_append, List.length_cons, List.length_take, List.length_drop]; omega) (by simp only [List.length_nil, List.length_append, List.length_cons, List.length_take, List.length_drop]; omega)) ?_
          rintro v53 w17 ⟨Cw17, hs, hn, hF⟩
          refine ⟨(hR.trans hs (by simp)).ext, ?_⟩
          replace hT := hT.trans hs (by simp)
          replace hl := hl.st hs (by first | decide | (simp <;> omega))
          replace ho := ho.st hs (by first | decide | (simp <;> omega))
          replace hR := hR.trans hs (by simp)
          replace h46 := h46.st hs (by first | decide | (simp <;> omega))
          replace h50 := h50.st hs (by first | decide | (simp <;> omega))
          replace h56 := h56.st hs (by first | decide | (simp <;> omega))
          replace hx1 := hx1.st hs (by first | decide | (simp <;> omega))
          refine aS (by kernel_rfl : opAt F25.o9 13 = some (some 57, .call { callee := .builtin .append, args := #[(.tmp 53), (.tmp 56)], argTypes := #[23, 23] }, none)) rfl rfl (a_append (e := 9) (bytes := 16) hF (by decide) rfl rfl (by kernel_rfl) (by decide) hn h56 (by simp only [List.length_nil, List.length_append, List.length_cons, List.length_take, List.length_drop]; omega) (by simp only [List.length_nil, List.length_append, List.length_cons, List.length_take, List.length_drop]; omega)) ?_
          rintro v57 w18 ⟨Cw18, hs, hn, hF⟩
          refine ⟨(hR.trans hs (by simp)).ext, ?_⟩
          replace hT := hT.trans hs (by simp)
          replace hl := hl.st hs (by first | decide | (simp <;> omega))
          replace ho := ho.st hs (by first | decide | (simp <;> omega))
          replace hR := hR.trans hs (by simp)
          replace h46 := h46.st hs (by first | decide | (simp <;> omega))
          replace h50 := h50.st hs (by first | decide | (simp <;> omega))
          replace h56 := h56.st hs (by first | decide | (simp <;> omega))
          replace hx1 := hx1.st hs (by first | decide | (simp <;> omega))
          refine yS (by kernel_rfl : opAt F25.o9 14 = some (some 3, .assign (.tmp 57), none)) rfl rfl (fun w' hS => val_assign rfl) ?_
          refine Sch.nil ?_
          refine run_inBlock ?_
          refine run_plain (id := 4) (ops := F25.o4) [(0, true), (1, true), (2, true)] (by kernel_rfl) (by kernel_rfl) ?_
          refine yS (by kernel_rfl : opAt F25.o4 0 = some (some 10, .move (.tmp 4), none)) rfl rfl (fun w' hS => val_move rfl) ?_
          refine yS (by kernel_rfl : opAt F25.o4 1 = some (some 11, .binOp .add 3 (.tmp 10) (.const (.int .i64 1)) 3, none)) rfl rfl (fun w' hS => val_addi rfl rfl (by omega) (by omega)) ?_
          refine yS (by kernel_rfl : opAt F25.o4 2 = some (some 4, .assign (.tmp 11), none)) rfl rfl (fun w' hS => val_assign rfl) ?_
          refine Sch.nil ?_
          clear hx1
          clear h46
          clear h56
          have hnl : (([] ++ (setT (l.take i)).take k) ++ [l[i]] ++ (setT (l.take i)).drop k).length ≤ l.length := by have h1 := setT_len_le (l.take (i + 1)); rw [setT_take hil, hins] at h1; simp only [List.nil_append] at h1 ⊢; have h2 := List.length_take_le (i + 1) l; omega
          replace hF := hF.frz 3
          replace hT := hT.frz (n := 3) (fun b => Nat.lt_of_lt_of_le (col1_lt2 C b) (by decide))
          replace hl := hl.frz 3
          clear ho
          replace h50 := h50.frz 3
          have hn2_ := hn.frz (n := 3) (by decide) (by omega)
          clear hn
          have hn2 := hn2_
          clear hn2_
          refine kp (sub_cons 0 rfl rfl (sub_cons 3 rfl rfl (sub_cons 4 rfl (eq_int (by simp)) (sub_nil _)))) (next1 (i + 1, v57, K.frz 3 Cw18) _ ⟨(by first | omega | (simp only; omega)), hF, hT, hl, (by rw [setT_take hil, hins]; simpa using hn2)⟩ (by first | omega | (simp only; omega)))
  · skip
    have hil : i = l.length := by omega
    refine run_exit (id := 0) (by kernel_rfl) rfl ?_
    refine run_seq (x := F25.c39) (y := F25.c40) (by kernel_rfl) ?_
    refine run_plain (id := 10) (ops := F25.o10) [(0, true), (1, true)] (by kernel_rfl) (by kernel_rfl) ?_
    refine yS (by kernel_rfl : opAt F25.o10 0 = some (some 58, .move (.tmp 3), none)) rfl rfl (fun w' hS => val_move rfl) ?_
    refine yS (by kernel_rfl : opAt F25.o10 1 = some (some 2, .assign (.tmp 58), none)) rfl rfl (fun w' hS => val_assign rfl) ?_
    refine Sch.nil ?_
    refine run_ret1 (by kernel_rfl) Try.func25 Try.results25 rfl ?_
    subst hil
    rw [List.take_length] at ho
    exact ⟨hT.out1 (by decide), ho.out hT hF0 (Mc_col1 C)⟩
end Go.Proofs.Ythdkcbakiiokiaa
