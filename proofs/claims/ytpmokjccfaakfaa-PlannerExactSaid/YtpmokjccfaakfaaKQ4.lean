/- Steps through functions of the program. -/
import Derived.Test.YtpmokjccfaakfaaKQ3
set_option linter.unusedVariables false
set_option linter.unusedSimpArgs false
set_option maxRecDepth 100000
set_option maxHeartbeats 400000
namespace Go.Proofs.Ytpmokjccfaakfaa
open Go.K Go.K.Rep

namespace F14
noncomputable def c0 : Code := bodyOf Try.f14
noncomputable def c1 : Code := cl c0
noncomputable def o0 : Array Oper := rops c1
noncomputable def c2 : Code := cr c0
noncomputable def c3 : Code := cl c2
noncomputable def o1 : Array Oper := rops c3
noncomputable def c4 : Code := cr c2
noncomputable def c5 : Code := cl c4
noncomputable def c6 : Code := cl c5
noncomputable def o2 : Array Oper := rops c6
noncomputable def c7 : Code := cr c5
noncomputable def c8 : Code := cl c7
noncomputable def c9 : Code := cl c8
noncomputable def c10 : Code := cl c9
noncomputable def o3 : Array Oper := rops c10
noncomputable def c11 : Code := cr c9
noncomputable def c12 : Code := cl c11
noncomputable def c13 : Code := cl c12
noncomputable def c14 : Code := cr c12
noncomputable def c15 : Code := cr c11
noncomputable def c16 : Code := cl c15
noncomputable def c17 : Code := cl c16
noncomputable def c18 : Code := cl c17
noncomputable def o4 : Array Oper := rops c18
noncomputable def c19 : Code := cr c17
noncomputable def o5 : Array Oper := rops c19
noncomputable def c20 : Code := cr c15
noncomputable def o6 : Array Oper := rops c20
noncomputable def c21 : Code := cr c4
noncomputable def c22 : Code := cl c21
noncomputable def o7 : Array Oper := rops c22
noncomputable def c23 : Code := cr c21
noncomputable def c24 : Code := cl c23
noncomputable def o8 : Array Oper := rops c24
noncomputable def c25 : Code := cr c23
end F14
/-- 'Atoms'. -/
theorem atoms_ok {w₀ : World} {C : Nat → Nat} {ks : List Key} {vk : Value} (hF : Lim w₀ C) (hk : RV w₀ (Mc C) ks vk) (hs0 : KeysSm ks) : Calls Try.prog 14 #[vk] w₀ (Ret fun v w' => Stp [] w₀ C w' C ∧ RV w' (Mc C) (atomsS ks) v) := by
  have hF0 := hF
  have hT := Stp.refl [2, 3, 4, 5, 6, 7, 8, 9] w₀ (col1 C)
  replace hF := hF.col1
  replace hk : RV w₀ (Mc (col1 C)) ks vk := by rw [Mc_col1]; exact hk
  refine calls_start (c := F14.c0) (N := 21) [vk] Try.func14 (by kernel_rfl) (by kernel_rfl) (by kernel_rfl) ?_
  show Run _ _ _ _ [(0, vk)] _ _
  refine run_seq (x := F14.c1) (y := F14.c2) (by kernel_rfl) ?_
  refine run_plain (id := 0) (ops := F14.o0) [(0, true)] (by kernel_rfl) (by kernel_rfl) ?_
  refine yS (by kernel_rfl : opAt F14.o0 0 = some (some 2, .assign (.const (.slice none 0 0)), none)) rfl rfl (fun w' hS => val_assign rfl) ?_
  refine Sch.nil ?_
  refine run_seq (x := F14.c3) (y := F14.c4) (by kernel_rfl) ?_
  refine run_plain (id := 1) (ops := F14.o1) [(0, true)] (by kernel_rfl) (by kernel_rfl) ?_
  refine yS (by kernel_rfl : opAt F14.o1 0 = some (some 3, .assign (.const (.slice none 0 0)), none)) rfl rfl (fun w' hS => val_assign rfl) ?_
  refine Sch.nil ?_
  refine run_seq (x := F14.c5) (y := F14.c21) (by kernel_rfl) ?_
  refine run_seq (x := F14.c6) (y := F14.c7) (by kernel_rfl) ?_
  refine run_plain (id := 2) (ops := F14.o2) [(0, true), (1, true), (2, true)] (by kernel_rfl) (by kernel_rfl) ?_
  refine yS (by kernel_rfl : opAt F14.o2 0 = some (some 6, .move (.tmp 0), none)) rfl rfl (fun w' hS => val_move rfl) ?_
  refine yS (by kernel_rfl : opAt F14.o2 1 = some (some 7, .call { callee := .builtin .len, args := #[(.tmp 6)], argTypes := #[23] }, none)) rfl rfl (fun w' hS => hk.lenV rfl Try.underlying23 w' ) ?_
  refine yS (by kernel_rfl : opAt F14.o2 2 = some (some 8, .move (.const (.int .i64 0)), none)) rfl rfl (fun w' hS => val_move rfl) ?_
  refine Sch.nil ?_
  refine run_block (x := F14.c8) (id := 0) (by kernel_rfl) ?_
  
  refine run_loop (ι := Nat × Value × (Nat → Nat)) (I := fun x w => x.1 ≤ ks.length ∧ Lim w x.2.2 ∧ Stp [2, 3, 4, 5, 6, 7, 8, 9] w₀ (col1 C) w x.2.2 ∧ RV w (Mc x.2.2) ks vk ∧ OwnL w x.2.2 3 50 x.2.1 (compsS (ks.take x.1))) (e := fun x => [(3, x.2.1), (6, vk), (7, .int .i64 ks.length), (8, .int .i64 x.1)]) (m := fun x => ks.length - x.1) (x₀ := (0, .slice none 0 0, col1 C)) (body := F14.c9) (by kernel_rfl) (sub_cons 3 rfl rfl (sub_cons 6 rfl rfl (sub_cons 7 rfl rfl (sub_cons 8 rfl rfl (sub_nil _))))) ?_ ?_
  · exact ⟨Nat.zero_le _, hF, hT, hk, OwnL.nil⟩
  intro ⟨i, vo, C1⟩ w1 hI next
  obtain ⟨hi, hF, hT, hk, ho⟩ := hI
  try simp only at hi hF hT hk ho
  have next1 := next
  clear next
  show Run _ _ _ _ [(3, vo), (6, vk), (7, .int .i64 ks.length), (8, .int .i64 i)] _ _
  have hle := hk.le
  have hcl := hs0.len i
  have hcl1 := hs0.len (i + 1)
  refine run_seq (x := F14.c10) (y := F14.c11) (by kernel_rfl) ?_
  refine run_plain (id := 3) (ops := F14.o3) [(0, true)] (by kernel_rfl) (by kernel_rfl) ?_
  refine yS (by kernel_rfl : opAt F14.o3 0 = some (some 9, .binOp .lss 3 (.tmp 8) (.tmp 7) 3, none)) rfl rfl (fun w' hS => val_lss rfl rfl) ?_
  refine Sch.nil ?_
  refine run_seq (x := F14.c12) (y := F14.c15) (by kernel_rfl) ?_
  refine run_if (x := F14.c13) (y := F14.c14) (o := .tmp 9) (by kernel_rfl) rfl (fun h9 => ?_) (fun h9 => ?_)
  · skip
    have hil : i < ks.length := by omega
    rw [compsS_take hil, List.length_append] at hcl1
    refine run_skip (by kernel_rfl) ?_
    refine run_seq (x := F14.c16) (y := F14.c20) (by kernel_rfl) ?_
    refine run_block (x := F14.c17) (id := 1) (by kernel_rfl) ?_
    refine run_seq (x := F14.c18) (y := F14.c19) (by kernel_rfl) ?_
    refine run_plain (id := 4) (ops := F14.o4) [(0, true), (1, false), (2, false), (3, false)] (by kernel_rfl) (by kernel_rfl) ?_
    refine iS (e := 28) (by kernel_rfl : opAt F14.o4 0 = some (some 10, .indexAddr 23 (.tmp 6) (.tmp 8), none)) rfl rfl hk rfl (by kernel_rfl) rfl (by omega) (by omega) ?_
    intro b10 o10 h10
    try simp only [Int.toNat_natCast] at h10
    refine lNA (by kernel_rfl : opAt F14.o4 1 = some (some 11, .load 28 (.tmp 10), none)) rfl rfl trivial h10 (by kernel_rfl) (by kernel_rfl) rfl rfl ?_
    intro v11 g11
    obtain ⟨u11, rfl, gu11⟩ := rv_key' g11
    refine aS (by kernel_rfl : opAt F14.o4 2 = some (some 5, .alloc 28, none)) rfl rfl (a_alloc (cs := [.slice none 0 0]) hF 4 (by kernel_rfl)) ?_
    rintro _ w2 ⟨Cw2, bw2, rfl, hs, hx, hF⟩
    refine ⟨trivial, ?_⟩
    replace hT := hT.trans hs (by simp)
    replace hk := hk.st hs (by first | decide | (simp <;> omega))
    replace ho := ho.st hs (by first | decide | (simp <;> omega)) (by first | decide | (simp <;> omega))
    replace h10 := h10.st hs (by first | decide | (simp <;> omega))
    replace gu11 := gu11.st hs (by first | decide | (simp <;> omega))
    refine aN (by kernel_rfl : opAt F14.o4 3 = some (none, .store 28 (.tmp 5) (.tmp 11), none)) rfl (a_storeAll (vs := [u11]) (n := 1) rfl rfl (by kernel_rfl) rfl rfl (by intro u hu; simp only [List.mem_cons, List.not_mem_nil, or_false] at hu; subst hu; exact (gu11.one rfl).2) hx rfl) ?_
    rintro _ w3 ⟨rfl, hs, hx⟩
    refine ⟨trivial, ?_⟩
    replace hF := hF.st hs
    replace hT := hT.trans hs (by simp)
    replace hk := hk.st hs (by first | decide | (simp <;> omega))
    replace ho := ho.st hs (by first | decide | (simp <;> omega)) (by first | decide | (simp <;> omega))
    replace h10 := h10.st hs (by first | decide | (simp <;> omega))
    replace gu11 := gu11.st hs (by first | decide | (simp <;> omega))
    refine Sch.nil ?_
    refine run_plain (id := 5) (ops := F14.o5) [(0, true), (1, true), (2, false), (3, false), (4, true)] (by kernel_rfl) (by kernel_rfl) ?_
    refine yS (by kernel_rfl : opAt F14.o5 0 = some (some 12, .move (.tmp 3), none)) rfl rfl (fun w' hS => val_move rfl) ?_
    refine yS (by kernel_rfl : opAt F14.o5 1 = some (some 13, .fieldAddr 28 (.tmp 5) 0, none)) rfl rfl (fun w' hS => val_fieldAddr (off := 0) (by kernel_rfl) rfl) ?_
    refine nS (by kernel_rfl : opAt F14.o5 2 = some (some 14, .load 26 (.tmp 13), none)) rfl rfl trivial (val_loadOwn hx.at_ (by kernel_rfl) rfl rfl) ?_
    refine aS (by kernel_rfl : opAt F14.o5 3 = some (some 15, .call { callee := .builtin .append, args := #[(.tmp 12), (.tmp 14)], argTypes := #[26, 26] }, none)) rfl rfl (a_append (e := 50) (bytes := 16) hF (by decide) rfl rfl (by kernel_rfl) (by decide) ho gu11 (by omega) (by omega)) ?_
    rintro v15 w4 ⟨Cw4, hs, ho, hF⟩
    refine ⟨trivial, ?_⟩
    replace hT := hT.trans hs (by simp)
    replace hk := hk.st hs (by first | decide | (simp <;> omega))
    replace h10 := h10.st hs (by first | decide | (simp <;> omega))
    replace gu11 := gu11.st hs (by first | decide | (simp <;> omega))
    replace hx := hx.st hs (by first | decide | (simp <;> omega))
    refine yS (by kernel_rfl : opAt F14.o5 4 = some (some 3, .assign (.tmp 15), none)) rfl rfl (fun w' hS => val_assign rfl) ?_
    refine Sch.nil ?_
    refine run_inBlock ?_
    refine run_plain (id := 6) (ops := F14.o6) [(0, true), (1, true)] (by kernel_rfl) (by kernel_rfl) ?_
    refine yS (by kernel_rfl : opAt F14.o6 0 = some (some 16, .binOp .add 3 (.tmp 8) (.const (.int .i64 1)) 3, none)) rfl rfl (fun w' hS => val_addi rfl rfl (by omega) (by omega)) ?_
    refine yS (by kernel_rfl : opAt F14.o6 1 = some (some 8, .move (.tmp 16), none)) rfl rfl (fun w' hS => val_move rfl) ?_
    refine Sch.nil ?_
    refine kp (sub_cons 3 rfl rfl (sub_cons 6 rfl rfl (sub_cons 7 rfl rfl (sub_cons 8 rfl (eq_int (by simp)) (sub_nil _))))) (next1 (i + 1, v15, Cw4) _ ⟨(by first | omega | (simp only; omega)), hF, hT, hk, (by simp only; rw [compsS_take hil]; exact ho)⟩ (by first | omega | (simp only; omega)))
  · skip
    have hil : i = ks.length := by omega
    subst hil
    rw [List.take_length] at ho hcl
    refine run_exit (id := 0) (by kernel_rfl) rfl ?_
    refine run_seq (x := F14.c22) (y := F14.c23) (by kernel_rfl) ?_
    refine run_plain (id := 7) (ops := F14.o7) [(0, true), (1, false)] (by kernel_rfl) (by kernel_rfl) ?_
    refine yS (by kernel_rfl : opAt F14.o7 0 = some (some 17, .move (.tmp 3), none)) rfl rfl (fun w' hS => val_move rfl) ?_
    refine cS (by kernel_rfl : opAt F14.o7 1 = some (some 18, .call { callee := .value (.func 27), args := #[(.tmp 17), (.func 28)], argTypes := #[26, 58] }, none)) rfl rfl (ent Try.call27 rfl) (sort_ok hF ho (by omega)) ?_
    rintro vw5 w5 ⟨rfl, hs, ho, _⟩
    refine ⟨trivial, ?_⟩
    replace hF := hF.st hs
    replace hT := hT.trans hs (by simp)
    replace hk := hk.st hs (by first | decide | (simp <;> omega))
    refine Sch.nil ?_
    refine run_seq (x := F14.c24) (y := F14.c25) (by kernel_rfl) ?_
    refine run_plain (id := 8) (ops := F14.o8) [(0, true), (1, false), (2, true)] (by kernel_rfl) (by kernel_rfl) ?_
    refine yS (by kernel_rfl : opAt F14.o8 0 = some (some 19, .move (.tmp 3), none)) rfl rfl (fun w' hS => val_move rfl) ?_
    refine cS (by kernel_rfl : opAt F14.o8 1 = some (some 20, .call { callee := .value (.func 31), args := #[(.tmp 19)], argTypes := #[26] }, none)) rfl rfl (ent Try.call31 rfl) (compact_ok hF (by decide) ho (by rw [(sortC_perm _).length_eq]; omega)) ?_
    rintro vw6 w6 ⟨hs, ho, _⟩
    refine ⟨trivial, ?_⟩
    replace hF := hF.st hs
    replace hT := hT.trans hs (by simp)
    replace hk := hk.st hs (by first | decide | (simp <;> omega))
    refine yS (by kernel_rfl : opAt F14.o8 2 = some (some 2, .assign (.tmp 20), none)) rfl rfl (fun w' hS => val_assign rfl) ?_
    refine Sch.nil ?_
    refine run_ret1 (by kernel_rfl) Try.func14 Try.results14 rfl ?_
    exact ⟨hT.out1 (by decide), ho.out hT hF0 (Mc_col1 C) (fun b _ => col1_lt C (by decide) b) (by have := atomsS_len hs0; unfold atomsS at this; omega)⟩
namespace F17
noncomputable def c0 : Code := bodyOf Try.f17
noncomputable def c1 : Code := cl c0
noncomputable def o0 : Array Oper := rops c1
noncomputable def c2 : Code := cr c0
noncomputable def c3 : Code := cl c2
noncomputable def o1 : Array Oper := rops c3
noncomputable def c4 : Code := cr c2
noncomputable def c5 : Code := cl c4
noncomputable def c6 : Code := cl c5
noncomputable def c7 : Code := cl c6
noncomputable def o2 : Array Oper := rops c7
noncomputable def c8 : Code := cr c6
noncomputable def c9 : Code := cl c8
noncomputable def c10 : Code := cl c9
noncomputable def o3 : Array Oper := rops c10
noncomputable def c11 : Code := cr c9
noncomputable def c12 : Code := cr c8
noncomputable def c13 : Code := cl c12
noncomputable def o4 : Array Oper := rops c13
noncomputable def c14 : Code := cr c12
noncomputable def c15 : Code := cl c14
noncomputable def c16 : Code := cl c15
noncomputable def o5 : Array Oper := rops c16
noncomputable def c17 : Code := cr c15
noncomputable def c18 : Code := cr c14
noncomputable def c19 : Code := cl c18
noncomputable def o6 : Array Oper := rops c19
noncomputable def c20 : Code := cr c18
noncomputable def c21 : Code := cl c20
noncomputable def c22 : Code := cl c21
noncomputable def o7 : Array Oper := rops c22
noncomputable def c23 : Code := cr c21
noncomputable def c24 : Code := cr c20
noncomputable def c25 : Code := cr c4
noncomputable def c26 : Code := cl c25
noncomputable def o8 : Array Oper := rops c26
noncomputable def c27 : Code := cr c25
end F17
/-- 'Check'. -/
theorem check_ok {w₀ : World} {C : Nat → Nat} {ks : List Key} {rs : List Int} {vk vr : Value} (hF : Lim w₀ C) (hk : RV w₀ (Mc C) ks vk) (hr : RV w₀ (Mc C) rs vr) (hs0 : KeysSm ks) : Calls Try.prog 17 #[vk, vr] w₀ (Ret fun v w' => v = .int .i64 (checkP ks rs) ∧ Stp [] w₀ C w' C) := by
  have hF0 := hF
  have hT := Stp.refl [2, 3, 4, 5, 6, 7, 8, 9] w₀ (col1 C)
  replace hF := hF.col1
  replace hk : RV w₀ (Mc (col1 C)) ks vk := by rw [Mc_col1]; exact hk
  replace hr : RV w₀ (Mc (col1 C)) rs vr := by rw [Mc_col1]; exact hr
  refine calls_start (c := F17.c0) (N := 26) [vk, vr] Try.func17 (by kernel_rfl) (by kernel_rfl) (by kernel_rfl) ?_
  show Run _ _ _ _ [(0, vk), (1, vr)] _ _
  refine run_seq (x := F17.c1) (y := F17.c2) (by kernel_rfl) ?_
  refine run_plain (id := 0) (ops := F17.o0) [(0, true)] (by kernel_rfl) (by kernel_rfl) ?_
  refine yS (by kernel_rfl : opAt F17.o0 0 = some (some 4, .assign (.const (.int .i64 0)), none)) rfl rfl (fun w' hS => val_assign rfl) ?_
  refine Sch.nil ?_
  refine run_seq (x := F17.c3) (y := F17.c4) (by kernel_rfl) ?_
  refine run_plain (id := 1) (ops := F17.o1) [(0, true), (1, false), (2, true)] (by kernel_rfl) (by kernel_rfl) ?_
  refine yS (by kernel_rfl : opAt F17.o1 0 = some (some 6, .move (.tmp 0), none)) rfl rfl (fun w' hS => val_move rfl) ?_
  refine cS (by kernel_rfl : opAt F17.o1 1 = some (some 7, .call { callee := .value (.func 14), args := #[(.tmp 6)], argTypes := #[23] }, none)) rfl rfl (ent Try.call14 rfl) (atoms_ok hF hk hs0) ?_
  rintro vw1 w1 ⟨hs, ha⟩
  refine ⟨trivial, ?_⟩
  replace hF := hF.st hs
  replace hT := hT.trans hs (by simp)
  replace hk := hk.st hs (by first | decide | (simp <;> omega))
  replace hr := hr.st hs (by first | decide | (simp <;> omega))
  have hal := atomsS_len hs0
  have hkl := hk.le
  have hrl := hr.le
  refine yS (by kernel_rfl : opAt F17.o1 2 = some (some 5, .assign (.tmp 7), none)) rfl rfl (fun w' hS => val_assign rfl) ?_
  refine Sch.nil ?_
  refine run_seq (x := F17.c5) (y := F17.c25) (by kernel_rfl) ?_
  refine run_block (x := F17.c6) (id := 0) (by kernel_rfl) ?_
  refine run_seq (x := F17.c7) (y := F17.c8) (by kernel_rfl) ?_
  refine run_cut 8 (decide (8 < ks.length ∨ 10 < (atomsS ks).length)) (col1 C) ?_ ?_
  · intro hcut
    by_cases hA : (8 : Int) < ks.length
    · skip
      refine run_plain (id := 2) (ops := F17.o2) [(0, true), (1, true), (2, true), (3, true), (4, true), (5, true), (6, true), (7, true), (8, true)] (by kernel_rfl) (by kernel_rfl) ?_
      refine yS (by kernel_rfl : opAt F17.o2 0 = some (some 9, .move (.tmp 0), none)) rfl rfl (fun w' hS => val_move rfl) ?_
      refine yS (by kernel_rfl : opAt F17.o2 1 = some (some 10, .call { callee := .builtin .len, args := #[(.tmp 9)], argTypes := #[23] }, none)) rfl rfl (fun w' hS => hk.lenV rfl Try.underlying23 w' ) ?_
      refine yS (by kernel_rfl : opAt F17.o2 2 = some (some 11, .binOp .gtr 3 (.tmp 10) (.const (.int .i64 8)) 3, none)) rfl rfl (fun w' hS => val_T (val_gtr rfl rfl) hA) ?_
      refine yS (by kernel_rfl : opAt F17.o2 3 = some (some 12, .move (.tmp 11), none)) rfl rfl (fun w' hS => val_move rfl) ?_
      refine pS (by kernel_rfl : opAt F17.o2 4 = some (some 13, .move (.tmp 5), (some (3, false)))) rfl rfl ?_
      refine pS (by kernel_rfl : opAt F17.o2 5 = some (some 14, .call { callee := .builtin .len, args := #[(.tmp 13)], argTypes := #[26] }, (some (3, false)))) rfl rfl ?_
      refine pS (by kernel_rfl : opAt F17.o2 6 = some (some 15, .binOp .gtr 3 (.tmp 14) (.const (.int .i64 10)) 3, (some (3, false)))) rfl rfl ?_
      refine yS (by kernel_rfl : opAt F17.o2 7 = some (some 16, .pick (.tmp 12) (.const (.bool true)) (.tmp 15), none)) rfl rfl (fun w' hS => val_pick_t rfl rfl) ?_
      refine yS (by kernel_rfl : opAt F17.o2 8 = some (some 8, .assign (.tmp 16), none)) rfl rfl (fun w' hS => val_assign rfl) ?_
      exact Sch.nil (hcut _ _ _ (Stp.refl _ _ _) rfl (by rw [decide_eq_true (by omega)]) (sub_skip rfl (sub_skip rfl (sub_skip rfl (sub_skip rfl (sub_skip rfl (sub_skip rfl (sub_skip rfl (sub_skip rfl (sub_skip rfl (Sub.refl _)))))))))))
    · skip
      refine run_plain (id := 2) (ops := F17.o2) [(0, true), (1, true), (2, true), (3, true), (4, true), (5, true), (6, true), (7, true), (8, true)] (by kernel_rfl) (by kernel_rfl) ?_
      refine yS (by kernel_rfl : opAt F17.o2 0 = some (some 9, .move (.tmp 0), none)) rfl rfl (fun w' hS => val_move rfl) ?_
      refine yS (by kernel_rfl : opAt F17.o2 1 = some (some 10, .call { callee := .builtin .len, args := #[(.tmp 9)], argTypes := #[23] }, none)) rfl rfl (fun w' hS => hk.lenV rfl Try.underlying23 w' ) ?_
      refine yS (by kernel_rfl : opAt F17.o2 2 = some (some 11, .binOp .gtr 3 (.tmp 10) (.const (.int .i64 8)) 3, none)) rfl rfl (fun w' hS => val_F (val_gtr rfl rfl) hA) ?_
      refine yS (by kernel_rfl : opAt F17.o2 3 = some (some 12, .move (.tmp 11), none)) rfl rfl (fun w' hS => val_move rfl) ?_
      refine yS (by kernel_rfl : opAt F17.o2 4 = some (some 13, .move (.tmp 5), (some (3, false)))) rfl rfl (fun w' hS => val_move rfl) ?_
      refine yS (by kernel_rfl : opAt F17.o2 5 = some (some 14, .call { callee := .builtin .len, args := #[(.tmp 13)], argTypes := #[26] }, (some (3, false)))) rfl rfl (fun w' hS => ha.lenV rfl Try.underlying26 w' ) ?_
      refine yS (by kernel_rfl : opAt F17.o2 6 = some (some 15, .binOp .gtr 3 (.tmp 14) (.const (.int .i64 10)) 3, (some (3, false)))) rfl rfl (fun w' hS => val_gtr rfl rfl) ?_
      refine yS (by kernel_rfl : opAt F17.o2 7 = some (some 16, .pick (.tmp 12) (.const (.bool true)) (.tmp 15), none)) rfl rfl (fun w' hS => val_pick_f rfl rfl) ?_
      refine yS (by kernel_rfl : opAt F17.o2 8 = some (some 8, .assign (.tmp 16), none)) rfl rfl (fun w' hS => val_assign rfl) ?_
      exact Sch.nil (hcut _ _ _ (Stp.refl _ _ _) rfl (by congr 1; apply decide_eq_decide.2; omega) (sub_skip rfl (sub_skip rfl (sub_skip rfl (sub_skip rfl (sub_skip rfl (sub_skip rfl (sub_skip rfl (sub_skip rfl (sub_skip rfl (Sub.refl _)))))))))))
  intro w2 hs
  replace hF := hF.st hs
  replace hT := hT.trans hs (by simp)
  replace hk := hk.st hs (by first | decide | (simp <;> omega))
  replace hr := hr.st hs (by first | decide | (simp <;> omega))
  replace ha := ha.st hs (by first | decide | (simp <;> omega))
  refine run_if (x := F17.c9) (y := F17.c12) (o := .tmp 8) (by kernel_rfl) rfl (fun h8 => ?_) (fun h8 => ?_)
  · skip
    refine run_seq (x := F17.c10) (y := F17.c11) (by kernel_rfl) ?_
    refine run_plain (id := 3) (ops := F17.o3) [(0, true)] (by kernel_rfl) (by kernel_rfl) ?_
    refine yS (by kernel_rfl : opAt F17.o3 0 = some (some 4, .assign (.const (.int .i64 1)), none)) rfl rfl (fun w' hS => val_assign rfl) ?_
    refine Sch.nil ?_
    refine run_ret1 (by kernel_rfl) Try.func17 Try.results17 rfl ?_
    refine ⟨?_, hT.out1 (by decide)⟩
    unfold checkP
    rw [if_pos h8]
  · skip
    refine run_seq (x := F17.c13) (y := F17.c14) (by kernel_rfl) ?_
    refine run_plain (id := 4) (ops := F17.o4) [(0, true), (1, true), (2, true), (3, true), (4, true), (5, true)] (by kernel_rfl) (by kernel_rfl) ?_
    refine yS (by kernel_rfl : opAt F17.o4 0 = some (some 18, .move (.tmp 1), none)) rfl rfl (fun w' hS => val_move rfl) ?_
    refine yS (by kernel_rfl : opAt F17.o4 1 = some (some 19, .call { callee := .builtin .len, args := #[(.tmp 18)], argTypes := #[22] }, none)) rfl rfl (fun w' hS => hr.lenV rfl Try.underlying22 w' ) ?_
    refine yS (by kernel_rfl : opAt F17.o4 2 = some (some 20, .move (.tmp 5), none)) rfl rfl (fun w' hS => val_move rfl) ?_
    refine yS (by kernel_rfl : opAt F17.o4 3 = some (some 21, .call { callee := .builtin .len, args := #[(.tmp 20)], argTypes := #[26] }, none)) rfl rfl (fun w' hS => ha.lenV rfl Try.underlying26 w' ) ?_
    refine yS (by kernel_rfl : opAt F17.o4 4 = some (some 22, .binOp .neq 3 (.tmp 19) (.tmp 21) 3, none)) rfl rfl (fun w' hS => val_neq rfl rfl) ?_
    refine yS (by kernel_rfl : opAt F17.o4 5 = some (some 17, .assign (.tmp 22), none)) rfl rfl (fun w' hS => val_assign rfl) ?_
    refine Sch.nil ?_
    refine run_if (x := F17.c15) (y := F17.c18) (o := .tmp 17) (by kernel_rfl) rfl (fun h17 => ?_) (fun h17 => ?_)
    · skip
      refine run_seq (x := F17.c16) (y := F17.c17) (by kernel_rfl) ?_
      refine run_plain (id := 5) (ops := F17.o5) [(0, true)] (by kernel_rfl) (by kernel_rfl) ?_
      refine yS (by kernel_rfl : opAt F17.o5 0 = some (some 4, .assign (.const (.int .i64 8)), none)) rfl rfl (fun w' hS => val_assign rfl) ?_
      refine Sch.nil ?_
      refine run_ret1 (by kernel_rfl) Try.func17 Try.results17 rfl ?_
      refine ⟨?_, hT.out1 (by decide)⟩
      unfold checkP
      rw [if_neg h8, if_pos (by omega)]
    · skip
      refine run_seq (x := F17.c19) (y := F17.c20) (by kernel_rfl) ?_
      refine run_plain (id := 6) (ops := F17.o6) [(0, true), (1, false), (2, true)] (by kernel_rfl) (by kernel_rfl) ?_
      refine yS (by kernel_rfl : opAt F17.o6 0 = some (some 24, .move (.tmp 1), none)) rfl rfl (fun w' hS => val_move rfl) ?_
      refine cS (by kernel_rfl : opAt F17.o6 1 = some (some 25, .call { callee := .value (.func 33), args := #[(.tmp 24), (.func 34)], argTypes := #[22, 54] }, none)) rfl rfl (ent Try.call33 rfl) (containsFunc_ok (fun args w => Try.call34 args w) badR_ok hr) ?_
      rintro vw3 w3 ⟨rfl, rfl⟩
      refine ⟨trivial, ?_⟩
      refine yS (by kernel_rfl : opAt F17.o6 2 = some (some 23, .assign (.tmp 25), none)) rfl rfl (fun w' hS => val_assign rfl) ?_
      refine Sch.nil ?_
      refine run_cond (x := F17.c21) (y := F17.c24) (o := .tmp 23) (by kernel_rfl) rfl (fun h23 => ?_) (fun h23 => ?_)
      · skip
        refine run_seq (x := F17.c22) (y := F17.c23) (by kernel_rfl) ?_
        refine run_plain (id := 7) (ops := F17.o7) [(0, true)] (by kernel_rfl) (by kernel_rfl) ?_
        refine yS (by kernel_rfl : opAt F17.o7 0 = some (some 4, .assign (.const (.int .i64 2)), none)) rfl rfl (fun w' hS => val_assign rfl) ?_
        refine Sch.nil ?_
        refine run_ret1 (by kernel_rfl) Try.func17 Try.results17 rfl ?_
        refine ⟨?_, hT.out1 (by decide)⟩
        unfold checkP
        rw [if_neg h8, if_neg (by omega), if_pos h23]
      · skip
        refine run_skip (by kernel_rfl) ?_
        refine run_inBlock ?_
        refine run_seq (x := F17.c26) (y := F17.c27) (by kernel_rfl) ?_
        refine run_plain (id := 8) (ops := F17.o8) [(0, true)] (by kernel_rfl) (by kernel_rfl) ?_
        refine yS (by kernel_rfl : opAt F17.o8 0 = some (some 4, .assign (.const (.int .i64 0)), none)) rfl rfl (fun w' hS => val_assign rfl) ?_
        refine Sch.nil ?_
        refine run_ret1 (by kernel_rfl) Try.func17 Try.results17 rfl ?_
        refine ⟨?_, hT.out1 (by decide)⟩
        unfold checkP
        rw [if_neg h8, if_neg (by omega), if_neg (by rw [h23]; decide)]
end Go.Proofs.Ytpmokjccfaakfaa

