/- Steps through functions of the program. -/
import Derived.Test.YtbdlkdiadplmcaaJXB
set_option linter.unusedVariables false
set_option linter.unusedSimpArgs false
set_option maxRecDepth 100000
set_option maxHeartbeats 4000000
namespace Go.Proofs.Ytbdlkdiadplmcaa
open Go.K Go.K.Rep

namespace F6
noncomputable def c0 : Code := bodyOf Try.f6
noncomputable def c1 : Code := cl c0
noncomputable def o0 : Array Oper := rops c1
noncomputable def c2 : Code := cr c0
noncomputable def c3 : Code := cl c2
noncomputable def c4 : Code := cl c3
noncomputable def o1 : Array Oper := rops c4
noncomputable def c5 : Code := cr c3
noncomputable def c6 : Code := cl c5
noncomputable def c7 : Code := cl c6
noncomputable def o2 : Array Oper := rops c7
noncomputable def c8 : Code := cr c6
noncomputable def c9 : Code := cr c5
noncomputable def c10 : Code := cr c2
noncomputable def c11 : Code := cl c10
noncomputable def o3 : Array Oper := rops c11
noncomputable def c12 : Code := cr c10
noncomputable def c13 : Code := cl c12
noncomputable def o4 : Array Oper := rops c13
noncomputable def c14 : Code := cr c12
noncomputable def c15 : Code := cl c14
noncomputable def c16 : Code := cl c15
noncomputable def o5 : Array Oper := rops c16
noncomputable def c17 : Code := cr c15
noncomputable def c18 : Code := cl c17
noncomputable def c19 : Code := cl c18
noncomputable def c20 : Code := cl c19
noncomputable def c21 : Code := cl c20
noncomputable def o6 : Array Oper := rops c21
noncomputable def c22 : Code := cr c20
noncomputable def c23 : Code := cl c22
noncomputable def c24 : Code := cr c22
noncomputable def c25 : Code := cr c19
noncomputable def c26 : Code := cl c25
noncomputable def c27 : Code := cl c26
noncomputable def o8 : Array Oper := rops c27
noncomputable def c28 : Code := cr c25
noncomputable def o7 : Array Oper := rops c28
noncomputable def c29 : Code := cr c14
noncomputable def c30 : Code := cl c29
noncomputable def o9 : Array Oper := rops c30
noncomputable def c31 : Code := cr c29
noncomputable def c32 : Code := cl c31
noncomputable def o10 : Array Oper := rops c32
noncomputable def c33 : Code := cr c31
noncomputable def c34 : Code := cl c33
noncomputable def o11 : Array Oper := rops c34
noncomputable def c35 : Code := cr c33
noncomputable def c36 : Code := cl c35
noncomputable def o12 : Array Oper := rops c36
noncomputable def c37 : Code := cr c35
end F6
/-- The statement's function answers true. -/
theorem alwaysLaw_ok {w₀ : World} {C : Nat → Nat} {l : List Int} {vl : Value} (hF : Lim w₀ C) (hl : RV w₀ (Mc C) l vl) : Calls Try.prog 6 #[vl] w₀ (Ret fun v w' => v = .bool true ∧ Stp [] w₀ C w' C) := by
  have hF0 := hF
  have hT := Stp.refl [2, 3, 4, 5, 6, 7, 8, 9] w₀ (col1 C)
  replace hF := hF.col1
  replace hl : RV w₀ (Mc (col1 C)) l vl := by rw [Mc_col1]; exact hl
  refine calls_start (c := F6.c0) (N := 86) [vl] Try.func6 (by kernel_rfl) (by kernel_rfl) (by kernel_rfl) ?_
  show Run _ _ _ _ [(0, vl)] _ _
  refine run_seq (x := F6.c1) (y := F6.c2) (by kernel_rfl) ?_
  refine run_plain (id := 0) (ops := F6.o0) [(0, true)] (by kernel_rfl) (by kernel_rfl) ?_
  refine yS (by kernel_rfl : opAt F6.o0 0 = some (some 2, .assign (.const (.bool false)), none)) rfl rfl (fun w' hS => val_assign rfl) ?_
  refine Sch.nil ?_
  refine run_seq (x := F6.c3) (y := F6.c10) (by kernel_rfl) ?_
  refine run_seq (x := F6.c4) (y := F6.c5) (by kernel_rfl) ?_
  refine run_plain (id := 1) (ops := F6.o1) [(0, false), (1, true), (2, true), (3, true), (4, false), (5, true), (6, true)] (by kernel_rfl) (by kernel_rfl) ?_
  refine cS (by kernel_rfl : opAt F6.o1 0 = some (some 9, .call { callee := .value (.func 7), args := #[], argTypes := #[] }, none)) rfl rfl (ent Try.call7 rfl) (awake_ok hF) ?_
  rintro vw1 w1 ⟨rfl, hs⟩
  refine ⟨trivial, ?_⟩
  replace hF := hF.st hs
  replace hT := hT.trans hs (by simp)
  replace hl := hl.st hs (by first | decide | (simp <;> omega))
  refine yS (by kernel_rfl : opAt F6.o1 1 = some (some 10, .unOp .not 4 (.tmp 9), none)) rfl rfl (fun w' hS => val_not rfl) ?_
  refine yS (by kernel_rfl : opAt F6.o1 2 = some (some 11, .move (.tmp 10), none)) rfl rfl (fun w' hS => val_move rfl) ?_
  refine yS (by kernel_rfl : opAt F6.o1 3 = some (some 12, .move (.tmp 0), (some (2, false)))) rfl rfl (fun w' hS => val_move rfl) ?_
  refine cS (by kernel_rfl : opAt F6.o1 4 = some (some 13, .call { callee := .value (.func 8), args := #[(.tmp 12)], argTypes := #[22] }, (some (2, false)))) rfl rfl (ent Try.call8 rfl) (few_any hl) ?_
  rintro vw2 w2 ⟨rfl, rfl⟩
  refine ⟨trivial, ?_⟩
  refine yS (by kernel_rfl : opAt F6.o1 5 = some (some 14, .unOp .not 4 (.tmp 13), (some (2, false)))) rfl rfl (fun w' hS => val_notd rfl) ?_
  refine yS (by kernel_rfl : opAt F6.o1 6 = some (some 15, .pick (.tmp 11) (.const (.bool true)) (.tmp 14), none)) rfl rfl (fun w' hS => val_pick_f rfl rfl) ?_
  refine Sch.nil ?_
  refine run_if (x := F6.c6) (y := F6.c9) (o := .tmp 15) (by kernel_rfl) rfl (fun h15 => ?_) (fun h15 => ?_)
  · skip
    refine run_seq (x := F6.c7) (y := F6.c8) (by kernel_rfl) ?_
    refine run_plain (id := 2) (ops := F6.o2) [(0, false), (1, true)] (by kernel_rfl) (by kernel_rfl) ?_
    refine cS (by kernel_rfl : opAt F6.o2 0 = some (some 16, .call { callee := .value (.func 7), args := #[], argTypes := #[] }, none)) rfl rfl (ent Try.call7 rfl) (awake_ok hF) ?_
    rintro vw3 w3 ⟨rfl, hs⟩
    refine ⟨trivial, ?_⟩
    replace hF := hF.st hs
    replace hT := hT.trans hs (by simp)
    replace hl := hl.st hs (by first | decide | (simp <;> omega))
    refine yS (by kernel_rfl : opAt F6.o2 1 = some (some 2, .assign (.tmp 16), none)) rfl rfl (fun w' hS => val_assign rfl) ?_
    refine Sch.nil ?_
    refine run_ret1 (by kernel_rfl) Try.func6 Try.results6 rfl ?_
    exact ⟨rfl, hT.out1 (by decide)⟩
  · skip
    refine run_skip (by kernel_rfl) ?_
    refine run_seq (x := F6.c11) (y := F6.c12) (by kernel_rfl) ?_
    refine run_plain (id := 3) (ops := F6.o3) [(0, true), (1, false), (2, true)] (by kernel_rfl) (by kernel_rfl) ?_
    refine yS (by kernel_rfl : opAt F6.o3 0 = some (some 17, .move (.tmp 0), none)) rfl rfl (fun w' hS => val_move rfl) ?_
    refine cS (by kernel_rfl : opAt F6.o3 1 = some (some 18, .call { callee := .value (.func 9), args := #[(.tmp 17)], argTypes := #[22] }, none)) rfl rfl (ent Try.call9 rfl) (new_any hF hl) ?_
    rintro vw4 w4 ⟨Cd, bd, rfl, hs, hF, hd⟩
    refine ⟨trivial, ?_⟩
    replace hT := hT.trans hs (by simp)
    replace hl := hl.st hs (by first | decide | (simp <;> omega))
    refine yS (by kernel_rfl : opAt F6.o3 2 = some (some 3, .assign (.tmp 18), none)) rfl rfl (fun w' hS => val_assign rfl) ?_
    refine Sch.nil ?_
    refine run_seq (x := F6.c13) (y := F6.c14) (by kernel_rfl) ?_
    refine run_plain (id := 4) (ops := F6.o4) [(0, true)] (by kernel_rfl) (by kernel_rfl) ?_
    refine yS (by kernel_rfl : opAt F6.o4 0 = some (some 4, .assign (.const (.slice none 0 0)), none)) rfl rfl (fun w' hS => val_assign rfl) ?_
    refine Sch.nil ?_
    refine run_seq (x := F6.c15) (y := F6.c29) (by kernel_rfl) ?_
    refine run_seq (x := F6.c16) (y := F6.c17) (by kernel_rfl) ?_
    refine run_plain (id := 5) (ops := F6.o5) [(0, true), (1, false), (2, true), (3, true)] (by kernel_rfl) (by kernel_rfl) ?_
    refine yS (by kernel_rfl : opAt F6.o5 0 = some (some 19, .move (.tmp 3), none)) rfl rfl (fun w' hS => val_move rfl) ?_
    refine cS (by kernel_rfl : opAt F6.o5 1 = some (some 20, .call { callee := .value (.func 15), args := #[(.tmp 19), (.const (.int .i64 5))], argTypes := #[25, 3] }, none)) rfl rfl (ent Try.call15 rfl) (next_any (n := 5) hF (by decide) hd (by omega) (by omega)) ?_
    rintro vw5 w5 ⟨k0, rfl, hk0, hs, hd⟩
    refine ⟨trivial, ?_⟩
    replace hF := hF.st hs
    replace hT := hT.trans hs (by simp)
    replace hl := hl.st hs (by first | decide | (simp <;> omega))
    refine yS (by kernel_rfl : opAt F6.o5 2 = some (some 21, .binOp .add 3 (.const (.int .i64 1)) (.tmp 20) 3, none)) rfl rfl (fun w' hS => val_addi rfl rfl (by omega) (by omega)) ?_
    refine yS (by kernel_rfl : opAt F6.o5 3 = some (some 5, .assign (.tmp 21), none)) rfl rfl (fun w' hS => val_assign rfl) ?_
    refine Sch.nil ?_
    refine run_block (x := F6.c18) (id := 0) (by kernel_rfl) ?_
    
    refine run_loop (ι := Nat × (List Bits) × Value × (Nat → Nat)) (I := fun x w => x.2.1.length + x.1 ≤ 5 ∧ 1 ≤ x.2.1.length + x.1 ∧ (∀ y ∈ x.2.1, BitsN 128 y) ∧ Lim w x.2.2.2 ∧ Stp [2, 3, 4, 5, 6, 7, 8, 9] w₀ (col1 C) w x.2.2.2 ∧ DeckIs w x.2.2.2 3 bd ∧ OwnL w x.2.2.2 4 33 x.2.2.1 x.2.1) (e := fun x => [(3, .pointer (some ⟨bd, 0, none⟩)), (4, x.2.2.1), (5, .int .i64 x.1)]) (m := fun x => x.1) (x₀ := (k0 + 1, [], .slice none 0 0, Cd)) (body := F6.c19) (by kernel_rfl) (sub_cons 3 rfl rfl (sub_cons 4 rfl rfl (sub_cons 5 rfl (eq_int (by simp only; omega)) (sub_nil _)))) ?_ ?_
    · exact ⟨(by simp only [List.length_nil]; omega), (by simp only [List.length_nil]; omega), (fun x hx => by cases hx), hF, hT, hd, OwnL.nil⟩
    intro ⟨m, cl, vc, C1⟩ w6 hI next
    obtain ⟨hm, hm1, hcl, hF, hT, hd, hc⟩ := hI
    try simp only at hm hm1 hcl hF hT hd hc
    have next1 := next
    clear next
    show Run _ _ _ _ [(3, .pointer (some ⟨bd, 0, none⟩)), (4, vc), (5, .int .i64 m)] _ _
    refine run_seq (x := F6.c20) (y := F6.c25) (by kernel_rfl) ?_
    refine run_seq (x := F6.c21) (y := F6.c22) (by kernel_rfl) ?_
    refine run_plain (id := 6) (ops := F6.o6) [(0, true), (1, true)] (by kernel_rfl) (by kernel_rfl) ?_
    refine yS (by kernel_rfl : opAt F6.o6 0 = some (some 22, .move (.tmp 5), none)) rfl rfl (fun w' hS => val_move rfl) ?_
    refine yS (by kernel_rfl : opAt F6.o6 1 = some (some 23, .binOp .gtr 3 (.tmp 22) (.const (.int .i64 0)) 3, none)) rfl rfl (fun w' hS => val_gtr rfl rfl) ?_
    refine Sch.nil ?_
    refine run_if (x := F6.c23) (y := F6.c24) (o := .tmp 23) (by kernel_rfl) rfl (fun h23 => ?_) (fun h23 => ?_)
    · skip
      refine run_skip (by kernel_rfl) ?_
      refine run_seq (x := F6.c26) (y := F6.c28) (by kernel_rfl) ?_
      refine run_block (x := F6.c27) (id := 1) (by kernel_rfl) ?_
      refine run_plain (id := 8) (ops := F6.o8) [(0, true), (1, true), (2, false), (3, false), (4, false), (5, true)] (by kernel_rfl) (by kernel_rfl) ?_
      refine yS (by kernel_rfl : opAt F6.o8 0 = some (some 26, .move (.tmp 4), none)) rfl rfl (fun w' hS => val_move rfl) ?_
      refine yS (by kernel_rfl : opAt F6.o8 1 = some (some 27, .move (.tmp 3), none)) rfl rfl (fun w' hS => val_move rfl) ?_
      refine cS (by kernel_rfl : opAt F6.o8 2 = some (some 28, .call { callee := .value (.func 14), args := #[(.tmp 27), (.const (.int .i64 128))], argTypes := #[25, 3] }, none)) rfl rfl (ent Try.call14 rfl) (bits_any (n := 128) hF (by decide) hd (.inr rfl)) ?_
      rintro vw7 w7 ⟨x, u, rfl, hx, hs, hd, hw⟩
      refine ⟨trivial, ?_⟩
      replace hF := hF.st hs
      replace hT := hT.trans hs (by simp)
      replace hc := hc.st hs (by first | decide | (simp <;> omega)) (by first | decide | (simp <;> omega))
      refine aS (by kernel_rfl : opAt F6.o8 3 = some (some 29, .buildSlice 27 1 #[(0, (.tmp 28))], none)) rfl rfl (a_buildSlice (ys := ([x] : List Bits)) (e := 33) (bytes := 32) hF (by kernel_rfl) rfl (by decide) (by decide) ⟨rfl, ⟨_, rfl, rv_bits.2 ⟨u, rfl, hw⟩⟩, trivial⟩) ?_
      rintro v29 w8 ⟨hs, g29, hF⟩
      refine ⟨trivial, ?_⟩
      replace hT := hT.trans hs (by simp)
      replace hd := hd.st hs (by first | decide | (simp <;> omega)) (by first | decide | (simp <;> omega))
      replace hc := hc.st hs (by first | decide | (simp <;> omega)) (by first | decide | (simp <;> omega))
      replace hw := hw.st hs (by first | decide | (simp <;> omega))
      refine aS (by kernel_rfl : opAt F6.o8 4 = some (some 30, .call { callee := .builtin .append, args := #[(.tmp 26), (.tmp 29)], argTypes := #[27, 27] }, none)) rfl rfl (a_append (e := 33) (bytes := 32) hF (by decide) rfl rfl (by kernel_rfl) (by decide) hc g29 (by simp only [List.length_cons, List.length_nil, List.length_append]; omega) (by simp only [List.length_cons, List.length_nil, List.length_append]; omega)) ?_
      rintro v30 w9 ⟨Cw9, hs, hc, hF⟩
      refine ⟨trivial, ?_⟩
      replace hT := hT.trans hs (by simp)
      replace hd := hd.st hs (by first | decide | (simp <;> omega)) (by first | decide | (simp <;> omega))
      replace hw := hw.st hs (by first | decide | (simp <;> omega))
      replace g29 := g29.st hs (by first | decide | (simp <;> omega))
      refine yS (by kernel_rfl : opAt F6.o8 5 = some (some 4, .assign (.tmp 30), none)) rfl rfl (fun w' hS => val_assign rfl) ?_
      refine Sch.nil ?_
      refine run_inBlock ?_
      refine run_plain (id := 7) (ops := F6.o7) [(0, true), (1, true), (2, true)] (by kernel_rfl) (by kernel_rfl) ?_
      refine yS (by kernel_rfl : opAt F6.o7 0 = some (some 24, .move (.tmp 5), none)) rfl rfl (fun w' hS => val_move rfl) ?_
      refine yS (by kernel_rfl : opAt F6.o7 1 = some (some 25, .binOp .sub 3 (.tmp 24) (.const (.int .i64 1)) 3, none)) rfl rfl (fun w' hS => val_subi rfl rfl (by omega) (by omega)) ?_
      refine yS (by kernel_rfl : opAt F6.o7 2 = some (some 5, .assign (.tmp 25), none)) rfl rfl (fun w' hS => val_assign rfl) ?_
      refine Sch.nil ?_
      refine kp (sub_cons 3 rfl rfl (sub_cons 4 rfl rfl (sub_cons 5 rfl (eq_int (by omega)) (sub_nil _)))) (next1 (m - 1, cl ++ [x], v30, Cw9) _ ⟨(by simp only [List.length_append, List.length_cons, List.length_nil]; omega), (by simp only [List.length_append, List.length_cons, List.length_nil]; omega), (snoc_all hcl hx), hF, hT, hd, hc⟩ (by first | omega | (simp only; omega)))
    · skip
      have hcl5 : cl.length ≤ 5 := by omega
      replace hF := hF.frz 4
      replace hT := hT.frz (n := 4) (fun b => Nat.lt_of_lt_of_le (col1_lt2 C b) (by decide))
      replace hd := hd.frz (n := 4) (by decide)
      have hr_ := hc.frz (n := 4) (by decide) (by omega)
      clear hc
      have hr := hr_
      clear hr_
      obtain ⟨a, l, rfl⟩ : ∃ a l, cl = a :: l := by
          cases cl with
          | nil => simp only [List.length_nil] at hm1; omega
          | cons a l => exact ⟨a, l, rfl⟩
      have hpos : (a :: l).length = l.length + 1 := rfl
      have ha := hcl a (by simp)
      have hl2 : ∀ x ∈ l, BitsN 128 x := fun x hx => hcl x (by simp [hx])
      have hva := ha.valid (.inr rfl)
      refine run_exit (id := 0) (by kernel_rfl) rfl ?_
      refine run_seq (x := F6.c30) (y := F6.c31) (by kernel_rfl) ?_
      refine run_plain (id := 9) (ops := F6.o9) [(0, true), (1, false), (2, true)] (by kernel_rfl) (by kernel_rfl) ?_
      refine yS (by kernel_rfl : opAt F6.o9 0 = some (some 31, .move (.tmp 4), none)) rfl rfl (fun w' hS => val_move rfl) ?_
      refine cS (by kernel_rfl : opAt F6.o9 1 = some (some 32, .call { callee := .value (.func 25), args := #[(.tmp 31)], argTypes := #[27] }, none)) rfl rfl (ent Try.call25 rfl) (always_ok hF hr (by simp) (by omega)) ?_
      rintro vw10 w10 ⟨rfl, hs⟩
      refine ⟨trivial, ?_⟩
      replace hF := hF.st hs
      replace hT := hT.trans hs (by simp)
      replace hd := hd.st hs (by first | decide | (simp <;> omega)) (by first | decide | (simp <;> omega))
      replace hr := hr.st hs (by first | decide | (simp <;> omega))
      refine yS (by kernel_rfl : opAt F6.o9 2 = some (some 6, .assign (.tmp 32), none)) rfl rfl (fun w' hS => val_assign rfl) ?_
      refine Sch.nil ?_
      refine run_seq (x := F6.c32) (y := F6.c33) (by kernel_rfl) ?_
      refine run_plain (id := 10) (ops := F6.o10) [(0, true), (1, false), (2, true), (3, false), (4, true), (5, false), (6, false), (7, false), (8, true)] (by kernel_rfl) (by kernel_rfl) ?_
      refine yS (by kernel_rfl : opAt F6.o10 0 = some (some 33, .move (.tmp 4), none)) rfl rfl (fun w' hS => val_move rfl) ?_
      refine aS (by kernel_rfl : opAt F6.o10 1 = some (some 34, .call { callee := .builtin .append, args := #[(.const (.slice none 0 0)), (.tmp 33)], argTypes := #[27, 27] }, none)) rfl rfl (a_append (e := 33) (bytes := 32) hF (by decide) rfl rfl (by kernel_rfl) (by decide) (OwnL.nil (α := Bits) (j := 5)) hr (by simp only [List.length_cons, List.length_nil, List.length_append]; omega) (by simp only [List.length_cons, List.length_nil, List.length_append]; omega)) ?_
      rintro v34 w11 ⟨Cw11, hs, hq, hF⟩
      refine ⟨trivial, ?_⟩
      replace hT := hT.trans hs (by simp)
      replace hd := hd.st hs (by first | decide | (simp <;> omega)) (by first | decide | (simp <;> omega))
      replace hr := hr.st hs (by first | decide | (simp <;> omega))
      simp only [List.nil_append] at hq
      refine yS (by kernel_rfl : opAt F6.o10 2 = some (some 35, .move (.tmp 3), none)) rfl rfl (fun w' hS => val_move rfl) ?_
      refine cS (by kernel_rfl : opAt F6.o10 3 = some (some 36, .call { callee := .value (.func 14), args := #[(.tmp 35), (.const (.int .i64 128))], argTypes := #[25, 3] }, none)) rfl rfl (ent Try.call14 rfl) (bits_any (n := 128) hF (by decide) hd (.inr rfl)) ?_
      rintro vw12 w12 ⟨x, ux, rfl, hx, hs, hd, hwx⟩
      refine ⟨trivial, ?_⟩
      replace hF := hF.st hs
      replace hT := hT.trans hs (by simp)
      replace hr := hr.st hs (by first | decide | (simp <;> omega))
      replace hq := hq.st hs (by first | decide | (simp <;> omega)) (by first | decide | (simp <;> omega))
      refine yS (by kernel_rfl : opAt F6.o10 4 = some (some 37, .build 33 #[], none)) rfl rfl (fun w' hS => val_build (zs := [.int .i64 0, .slice none 0 0]) (ps := [(0, 1), (1, 1)]) (qs := []) (cs := [.int .i64 0, .slice none 0 0]) (by kernel_rfl) (by kernel_rfl) (by exact trivial) rfl) ?_
      refine aS (by kernel_rfl : opAt F6.o10 5 = some (some 38, .buildSlice 27 2 #[(0, (.tmp 36)), (1, (.tmp 37))], none)) rfl rfl (a_buildSlice (ys := ([x, ⟨0, []⟩] : List Bits)) (e := 33) (bytes := 32) hF (by kernel_rfl) rfl (by decide) (by decide) ⟨rfl, ⟨_, rfl, rv_bits.2 ⟨ux, rfl, hwx⟩⟩, rfl, ⟨_, rfl, rv_bits.2 ⟨_, rfl, rv_nil⟩⟩, trivial⟩) ?_
      rintro v38 w13 ⟨hs, g38, hF⟩
      refine ⟨trivial, ?_⟩
      replace hT := hT.trans hs (by simp)
      replace hd := hd.st hs (by first | decide | (simp <;> omega)) (by first | decide | (simp <;> omega))
      replace hr := hr.st hs (by first | decide | (simp <;> omega))
      replace hq := hq.st hs (by first | decide | (simp <;> omega)) (by first | decide | (simp <;> omega))
      replace hwx := hwx.st hs (by first | decide | (simp <;> omega))
      refine aS (by kernel_rfl : opAt F6.o10 6 = some (some 39, .call { callee := .builtin .append, args := #[(.tmp 34), (.tmp 38)], argTypes := #[27, 27] }, none)) rfl rfl (a_append (e := 33) (bytes := 32) hF (by decide) rfl rfl (by kernel_rfl) (by decide) hq g38 (by simp only [List.length_cons, List.length_nil, List.length_append]; omega) (by simp only [List.length_cons, List.length_nil, List.length_append]; omega)) ?_
      rintro v39 w14 ⟨Cw14, hs, hq, hF⟩
      refine ⟨trivial, ?_⟩
      replace hT := hT.trans hs (by simp)
      replace hd := hd.st hs (by first | decide | (simp <;> omega)) (by first | decide | (simp <;> omega))
      replace hr := hr.st hs (by first | decide | (simp <;> omega))
      replace hwx := hwx.st hs (by first | decide | (simp <;> omega))
      replace g38 := g38.st hs (by first | decide | (simp <;> omega))
      refine cS (by kernel_rfl : opAt F6.o10 7 = some (some 40, .call { callee := .value (.func 25), args := #[(.tmp 39)], argTypes := #[27] }, none)) rfl rfl (ent Try.call25 rfl) (always_ok (C := fun _ => 0) (fun b hb => absurd rfl hb) (hq.own.read (fun b _ hb => absurd rfl hb) (by simp only [List.length_append, List.length_cons, List.length_nil]; omega)) (by simp) (by simp only [List.length_append, List.length_cons, List.length_nil]; omega)) ?_
      rintro vw15 w15 ⟨rfl, hs0⟩
      have hs := hs0.unfrz (Cw14)
      refine ⟨trivial, ?_⟩
      replace hF := hF.st hs
      replace hT := hT.trans hs (by simp)
      replace hd := hd.st hs (by first | decide | (simp <;> omega)) (by first | decide | (simp <;> omega))
      replace hr := hr.st hs (by first | decide | (simp <;> omega))
      replace hq := hq.st hs (by first | decide | (simp <;> omega)) (by first | decide | (simp <;> omega))
      replace hwx := hwx.st hs (by first | decide | (simp <;> omega))
      replace g38 := g38.st hs (by first | decide | (simp <;> omega))
      refine yS (by kernel_rfl : opAt F6.o10 8 = some (some 7, .assign (.tmp 40), none)) rfl rfl (fun w' hS => val_assign rfl) ?_
      refine Sch.nil ?_
      refine run_seq (x := F6.c34) (y := F6.c35) (by kernel_rfl) ?_
      refine run_plain (id := 11) (ops := F6.o11) [(0, true), (1, false), (2, true), (3, false), (4, false), (5, false), (6, false), (7, true)] (by kernel_rfl) (by kernel_rfl) ?_
      refine yS (by kernel_rfl : opAt F6.o11 0 = some (some 41, .move (.tmp 4), none)) rfl rfl (fun w' hS => val_move rfl) ?_
      refine aS (by kernel_rfl : opAt F6.o11 1 = some (some 42, .call { callee := .builtin .append, args := #[(.const (.slice none 0 0)), (.tmp 41)], argTypes := #[27, 27] }, none)) rfl rfl (a_append (e := 33) (bytes := 32) hF (by decide) rfl rfl (by kernel_rfl) (by decide) (OwnL.nil (α := Bits) (j := 6)) hr (by simp only [List.length_cons, List.length_nil, List.length_append]; omega) (by simp only [List.length_cons, List.length_nil, List.length_append]; omega)) ?_
      rintro v42 w16 ⟨Cw16, hs, hq2, hF⟩
      refine ⟨trivial, ?_⟩
      replace hT := hT.trans hs (by simp)
      replace hd := hd.st hs (by first | decide | (simp <;> omega)) (by first | decide | (simp <;> omega))
      replace hr := hr.st hs (by first | decide | (simp <;> omega))
      replace hq := hq.st hs (by first | decide | (simp <;> omega)) (by first | decide | (simp <;> omega))
      replace hwx := hwx.st hs (by first | decide | (simp <;> omega))
      replace g38 := g38.st hs (by first | decide | (simp <;> omega))
      simp only [List.nil_append] at hq2
      refine yS (by kernel_rfl : opAt F6.o11 2 = some (some 43, .move (.tmp 3), none)) rfl rfl (fun w' hS => val_move rfl) ?_
      refine cS (by kernel_rfl : opAt F6.o11 3 = some (some 44, .call { callee := .value (.func 14), args := #[(.tmp 43), (.const (.int .i64 64))], argTypes := #[25, 3] }, none)) rfl rfl (ent Try.call14 rfl) (bits_any (n := 64) hF (by decide) hd (.inl rfl)) ?_
      rintro vw17 w17 ⟨c, uc, rfl, hcb, hs, hd, hwc⟩
      refine ⟨trivial, ?_⟩
      replace hF := hF.st hs
      replace hT := hT.trans hs (by simp)
      replace hr := hr.st hs (by first | decide | (simp <;> omega))
      replace hq := hq.st hs (by first | decide | (simp <;> omega)) (by first | decide | (simp <;> omega))
      replace hwx := hwx.st hs (by first | decide | (simp <;> omega))
      replace g38 := g38.st hs (by first | decide | (simp <;> omega))
      replace hq2 := hq2.st hs (by first | decide | (simp <;> omega)) (by first | decide | (simp <;> omega))
      refine aS (by kernel_rfl : opAt F6.o11 4 = some (some 45, .buildSlice 27 1 #[(0, (.tmp 44))], none)) rfl rfl (a_buildSlice (ys := ([c] : List Bits)) (e := 33) (bytes := 32) hF (by kernel_rfl) rfl (by decide) (by decide) ⟨rfl, ⟨_, rfl, rv_bits.2 ⟨uc, rfl, hwc⟩⟩, trivial⟩) ?_
      rintro v45 w18 ⟨hs, g45, hF⟩
      refine ⟨trivial, ?_⟩
      replace hT := hT.trans hs (by simp)
      replace hd := hd.st hs (by first | decide | (simp <;> omega)) (by first | decide | (simp <;> omega))
      replace hr := hr.st hs (by first | decide | (simp <;> omega))
      replace hq := hq.st hs (by first | decide | (simp <;> omega)) (by first | decide | (simp <;> omega))
      replace hwx := hwx.st hs (by first | decide | (simp <;> omega))
      replace g38 := g38.st hs (by first | decide | (simp <;> omega))
      replace hq2 := hq2.st hs (by first | decide | (simp <;> omega)) (by first | decide | (simp <;> omega))
      replace hwc := hwc.st hs (by first | decide | (simp <;> omega))
      refine aS (by kernel_rfl : opAt F6.o11 5 = some (some 46, .call { callee := .builtin .append, args := #[(.tmp 42), (.tmp 45)], argTypes := #[27, 27] }, none)) rfl rfl (a_append (e := 33) (bytes := 32) hF (by decide) rfl rfl (by kernel_rfl) (by decide) hq2 g45 (by simp only [List.length_cons, List.length_nil, List.length_append]; omega) (by simp only [List.length_cons, List.length_nil, List.length_append]; omega)) ?_
      rintro v46 w19 ⟨Cw19, hs, hq2, hF⟩
      refine ⟨trivial, ?_⟩
      replace hT := hT.trans hs (by simp)
      replace hd := hd.st hs (by first | decide | (simp <;> omega)) (by first | decide | (simp <;> omega))
      replace hr := hr.st hs (by first | decide | (simp <;> omega))
      replace hq := hq.st hs (by first | decide | (simp <;> omega)) (by first | decide | (simp <;> omega))
      replace hwx := hwx.st hs (by first | decide | (simp <;> omega))
      replace g38 := g38.st hs (by first | decide | (simp <;> omega))
      replace hwc := hwc.st hs (by first | decide | (simp <;> omega))
      replace g45 := g45.st hs (by first | decide | (simp <;> omega))
      refine cS (by kernel_rfl : opAt F6.o11 6 = some (some 47, .call { callee := .value (.func 25), args := #[(.tmp 46)], argTypes := #[27] }, none)) rfl rfl (ent Try.call25 rfl) (always_ok (C := fun _ => 0) (fun b hb => absurd rfl hb) (hq2.own.read (fun b _ hb => absurd rfl hb) (by simp only [List.length_append, List.length_cons, List.length_nil]; omega)) (by simp) (by simp only [List.length_append, List.length_cons, List.length_nil]; omega)) ?_
      rintro vw20 w20 ⟨rfl, hs0⟩
      have hs := hs0.unfrz (Cw19)
      refine ⟨trivial, ?_⟩
      replace hF := hF.st hs
      replace hT := hT.trans hs (by simp)
      replace hd := hd.st hs (by first | decide | (simp <;> omega)) (by first | decide | (simp <;> omega))
      replace hr := hr.st hs (by first | decide | (simp <;> omega))
      replace hq := hq.st hs (by first | decide | (simp <;> omega)) (by first | decide | (simp <;> omega))
      replace hwx := hwx.st hs (by first | decide | (simp <;> omega))
      replace g38 := g38.st hs (by first | decide | (simp <;> omega))
      replace hq2 := hq2.st hs (by first | decide | (simp <;> omega)) (by first | decide | (simp <;> omega))
      replace hwc := hwc.st hs (by first | decide | (simp <;> omega))
      replace g45 := g45.st hs (by first | decide | (simp <;> omega))
      refine yS (by kernel_rfl : opAt F6.o11 7 = some (some 8, .assign (.tmp 47), none)) rfl rfl (fun w' hS => val_assign rfl) ?_
      refine Sch.nil ?_
      refine run_seq (x := F6.c36) (y := F6.c37) (by kernel_rfl) ?_
      refine run_draw (id := 12) (ops := F6.o12) [] (Cw19) [(0, true), (1, true), (2, true), (3, true), (4, true), (5, true), (6, true), (7, true), (8, false), (9, true), (10, true), (11, true), (12, true), (13, true), (15, true), (16, true), (17, true), (14, false), (18, false), (19, true), (20, true), (21, true), (22, true), (23, true), (24, true), (25, true), (26, true), (27, true), (28, true), (29, true), (32, true), (33, true), (34, true), (30, false), (31, false), (35, false), (36, true), (37, true), (38, true)] Try_mixed (by kernel_rfl) (by kernel_rfl) (by kernel_rfl) ?_
      intro w21 hs
      replace hF := hF.st hs
      replace hT := hT.trans hs (by simp)
      replace hd := hd.st hs (by first | decide | (simp <;> omega)) (by first | decide | (simp <;> omega))
      replace hr := hr.st hs (by first | decide | (simp <;> omega))
      replace hq := hq.st hs (by first | decide | (simp <;> omega)) (by first | decide | (simp <;> omega))
      replace hwx := hwx.st hs (by first | decide | (simp <;> omega))
      replace g38 := g38.st hs (by first | decide | (simp <;> omega))
      replace hq2 := hq2.st hs (by first | decide | (simp <;> omega)) (by first | decide | (simp <;> omega))
      replace hwc := hwc.st hs (by first | decide | (simp <;> omega))
      replace g45 := g45.st hs (by first | decide | (simp <;> omega))
      have hR := Stp.refl [] w21 (Cw19)
      have hca := cnt_all hva ha.2.2
      have hle : alwaysS (a :: l) ≤ cntS a a.len.toNat := by rw [hca]; exact alw_le ha hl2
      have hone : alwaysS [a] = cntS a a.len.toNat := by rw [hca]; exact alw_one ha
      have htwo : alwaysS [⟨0, []⟩, a] = cntS a a.len.toNat := by rw [hca]; exact alw_two ha
      have hrB := hr
      refine yS (by kernel_rfl : opAt F6.o12 0 = some (some 48, .move (.tmp 7), none)) rfl rfl (fun w' hS => val_move rfl) ?_
      refine yS (by kernel_rfl : opAt F6.o12 1 = some (some 49, .move (.tmp 6), none)) rfl rfl (fun w' hS => val_move rfl) ?_
      refine yS (by kernel_rfl : opAt F6.o12 2 = some (some 50, .binOp .leq 3 (.tmp 48) (.tmp 49) 3, none)) rfl rfl (fun w' hS => val_T (val_leq rfl rfl) (alw_more ha hl2 hx)) ?_
      refine yS (by kernel_rfl : opAt F6.o12 3 = some (some 51, .move (.tmp 50), none)) rfl rfl (fun w' hS => val_move rfl) ?_
      refine yS (by kernel_rfl : opAt F6.o12 4 = some (some 52, .move (.tmp 6), (some (3, true)))) rfl rfl (fun w' hS => val_move rfl) ?_
      refine yS (by kernel_rfl : opAt F6.o12 5 = some (some 53, .move (.tmp 4), (some (3, true)))) rfl rfl (fun w' hS => val_move rfl) ?_
      refine iS (e := 33) (by kernel_rfl : opAt F6.o12 6 = some (some 54, .indexAddr 27 (.tmp 53) (.const (.int .i64 0)), (some (3, true)))) rfl rfl hrB rfl (by kernel_rfl) rfl (by omega) (by omega) ?_
      intro b54 o54 h54
      try simp only [Int.toNat_natCast] at h54
      refine lSA (by kernel_rfl : opAt F6.o12 7 = some (some 55, .load 33 (.tmp 54), (some (3, true)))) rfl rfl (fun w' hS => h54.stay hS (by first | decide | (simp <;> omega))) h54 (by kernel_rfl) (by kernel_rfl) rfl rfl ?_
      intro v55 g55
      have gb55 := g55
      replace g55 := g55.st hR (by first | decide | (simp <;> omega))
      obtain ⟨u55, rfl, hw55⟩ := (rv_bits (x := a)).1 g55
      clear g55
      refine cS (by kernel_rfl : opAt F6.o12 8 = some (some 56, .call { callee := .value (.func 26), args := #[(.tmp 55)], argTypes := #[33] }, (some (3, true)))) rfl rfl (ent Try.call26 rfl) (refCount_ok hF hw55 hva) ?_
      rintro vw22 w22 ⟨rfl, hs⟩
      refine ⟨(hR.trans hs (by simp)).ext, ?_⟩
      replace hF := hF.st hs
      replace hT := hT.trans hs (by simp)
      replace hd := hd.st hs (by first | decide | (simp <;> omega)) (by first | decide | (simp <;> omega))
      replace hr := hr.st hs (by first | decide | (simp <;> omega))
      replace hq := hq.st hs (by first | decide | (simp <;> omega)) (by first | decide | (simp <;> omega))
      replace hwx := hwx.st hs (by first | decide | (simp <;> omega))
      replace g38 := g38.st hs (by first | decide | (simp <;> omega))
      replace hq2 := hq2.st hs (by first | decide | (simp <;> omega)) (by first | decide | (simp <;> omega))
      replace hwc := hwc.st hs (by first | decide | (simp <;> omega))
      replace g45 := g45.st hs (by first | decide | (simp <;> omega))
      replace hR := hR.trans hs (by simp)
      replace hw55 := hw55.st hs (by first | decide | (simp <;> omega))
      refine yS (by kernel_rfl : opAt F6.o12 9 = some (some 57, .binOp .leq 3 (.tmp 52) (.tmp 56) 3, (some (3, true)))) rfl rfl (fun w' hS => val_T (val_leq rfl rfl) hle) ?_
      refine yS (by kernel_rfl : opAt F6.o12 10 = some (some 58, .pick (.tmp 51) (.tmp 57) (.const (.bool false)), none)) rfl rfl (fun w' hS => val_pick_t rfl rfl) ?_
      refine yS (by kernel_rfl : opAt F6.o12 11 = some (some 59, .move (.tmp 58), none)) rfl rfl (fun w' hS => val_move rfl) ?_
      refine yS (by kernel_rfl : opAt F6.o12 12 = some (some 60, .move (.tmp 4), (some (11, true)))) rfl rfl (fun w' hS => val_move rfl) ?_
      refine sTR (e' := 33) (by kernel_rfl : opAt F6.o12 13 = some (some 61, .slice 27 (.tmp 60) none (some (.const (.int .i64 1))) none, (some (11, true)))) rfl rfl hr rfl (by kernel_rfl) rfl (by omega) (by omega) ?_
      intro v61 h61
      try simp only [Int.toNat_natCast] at h61
      have ht1 : RV _ (Mc (Cw19)) [a] v61 := h61
      clear h61
      refine yS (by kernel_rfl : opAt F6.o12 15 = some (some 63, .move (.tmp 4), (some (11, true)))) rfl rfl (fun w' hS => val_move rfl) ?_
      refine iS (e := 33) (by kernel_rfl : opAt F6.o12 16 = some (some 64, .indexAddr 27 (.tmp 63) (.const (.int .i64 0)), (some (11, true)))) rfl rfl hrB rfl (by kernel_rfl) rfl (by omega) (by omega) ?_
      intro b64 o64 h64
      try simp only [Int.toNat_natCast] at h64
      refine lSA (by kernel_rfl : opAt F6.o12 17 = some (some 65, .load 33 (.tmp 64), (some (11, true)))) rfl rfl (fun w' hS => h64.stay hS (by first | decide | (simp <;> omega))) h64 (by kernel_rfl) (by kernel_rfl) rfl rfl ?_
      intro v65 g65
      have gb65 := g65
      replace g65 := g65.st hR (by first | decide | (simp <;> omega))
      obtain ⟨u65, rfl, hw65⟩ := (rv_bits (x := a)).1 g65
      clear g65
      refine cS (by kernel_rfl : opAt F6.o12 14 = some (some 62, .call { callee := .value (.func 25), args := #[(.tmp 61)], argTypes := #[27] }, (some (11, true)))) rfl rfl (ent Try.call25 rfl) (always_ok hF ht1 (by simp) (by simp)) ?_
      rintro vw23 w23 ⟨rfl, hs⟩
      refine ⟨(hR.trans hs (by simp)).ext, ?_⟩
      replace hF := hF.st hs
      replace hT := hT.trans hs (by simp)
      replace hd := hd.st hs (by first | decide | (simp <;> omega)) (by first | decide | (simp <;> omega))
      replace hr := hr.st hs (by first | decide | (simp <;> omega))
      replace hq := hq.st hs (by first | decide | (simp <;> omega)) (by first | decide | (simp <;> omega))
      replace hwx := hwx.st hs (by first | decide | (simp <;> omega))
      replace g38 := g38.st hs (by first | decide | (simp <;> omega))
      replace hq2 := hq2.st hs (by first | decide | (simp <;> omega)) (by first | decide | (simp <;> omega))
      replace hwc := hwc.st hs (by first | decide | (simp <;> omega))
      replace g45 := g45.st hs (by first | decide | (simp <;> omega))
      replace hR := hR.trans hs (by simp)
      replace hw55 := hw55.st hs (by first | decide | (simp <;> omega))
      replace ht1 := ht1.st hs (by first | decide | (simp <;> omega))
      replace hw65 := hw65.st hs (by first | decide | (simp <;> omega))
      refine cS (by kernel_rfl : opAt F6.o12 18 = some (some 66, .call { callee := .value (.func 26), args := #[(.tmp 65)], argTypes := #[33] }, (some (11, true)))) rfl rfl (ent Try.call26 rfl) (refCount_ok hF hw65 hva) ?_
      rintro vw24 w24 ⟨rfl, hs⟩
      refine ⟨(hR.trans hs (by simp)).ext, ?_⟩
      replace hF := hF.st hs
      replace hT := hT.trans hs (by simp)
      replace hd := hd.st hs (by first | decide | (simp <;> omega)) (by first | decide | (simp <;> omega))
      replace hr := hr.st hs (by first | decide | (simp <;> omega))
      replace hq := hq.st hs (by first | decide | (simp <;> omega)) (by first | decide | (simp <;> omega))
      replace hwx := hwx.st hs (by first | decide | (simp <;> omega))
      replace g38 := g38.st hs (by first | decide | (simp <;> omega))
      replace hq2 := hq2.st hs (by first | decide | (simp <;> omega)) (by first | decide | (simp <;> omega))
      replace hwc := hwc.st hs (by first | decide | (simp <;> omega))
      replace g45 := g45.st hs (by first | decide | (simp <;> omega))
      replace hR := hR.trans hs (by simp)
      replace hw55 := hw55.st hs (by first | decide | (simp <;> omega))
      replace ht1 := ht1.st hs (by first | decide | (simp <;> omega))
      replace hw65 := hw65.st hs (by first | decide | (simp <;> omega))
      refine yS (by kernel_rfl : opAt F6.o12 19 = some (some 67, .binOp .eql 3 (.tmp 62) (.tmp 66) 3, (some (11, true)))) rfl rfl (fun w' hS => val_T (val_eql rfl rfl) hone) ?_
      refine yS (by kernel_rfl : opAt F6.o12 20 = some (some 68, .pick (.tmp 59) (.tmp 67) (.const (.bool false)), none)) rfl rfl (fun w' hS => val_pick_t rfl rfl) ?_
      refine yS (by kernel_rfl : opAt F6.o12 21 = some (some 69, .move (.tmp 68), none)) rfl rfl (fun w' hS => val_move rfl) ?_
      refine yS (by kernel_rfl : opAt F6.o12 22 = some (some 70, .move (.tmp 8), (some (21, true)))) rfl rfl (fun w' hS => val_move rfl) ?_
      refine yS (by kernel_rfl : opAt F6.o12 23 = some (some 71, .binOp .eql 3 (.tmp 70) (.const (.int .i64 0)) 3, (some (21, true)))) rfl rfl (fun w' hS => val_T (val_eql rfl rfl) (alw_other ha hl2 hcb)) ?_
      refine yS (by kernel_rfl : opAt F6.o12 24 = some (some 72, .pick (.tmp 69) (.tmp 71) (.const (.bool false)), none)) rfl rfl (fun w' hS => val_pick_t rfl rfl) ?_
      refine yS (by kernel_rfl : opAt F6.o12 25 = some (some 73, .move (.tmp 72), none)) rfl rfl (fun w' hS => val_move rfl) ?_
      refine yS (by kernel_rfl : opAt F6.o12 26 = some (some 74, .build 33 #[], (some (25, true)))) rfl rfl (fun w' hS => val_build (zs := [.int .i64 0, .slice none 0 0]) (ps := [(0, 1), (1, 1)]) (qs := []) (cs := [.int .i64 0, .slice none 0 0]) (by kernel_rfl) (by kernel_rfl) (by exact trivial) rfl) ?_
      refine yS (by kernel_rfl : opAt F6.o12 27 = some (some 75, .move (.tmp 4), (some (25, true)))) rfl rfl (fun w' hS => val_move rfl) ?_
      refine iS (e := 33) (by kernel_rfl : opAt F6.o12 28 = some (some 76, .indexAddr 27 (.tmp 75) (.const (.int .i64 0)), (some (25, true)))) rfl rfl hrB rfl (by kernel_rfl) rfl (by omega) (by omega) ?_
      intro b76 o76 h76
      try simp only [Int.toNat_natCast] at h76
      refine lSA (by kernel_rfl : opAt F6.o12 29 = some (some 77, .load 33 (.tmp 76), (some (25, true)))) rfl rfl (fun w' hS => h76.stay hS (by first | decide | (simp <;> omega))) h76 (by kernel_rfl) (by kernel_rfl) rfl rfl ?_
      intro v77 g77
      have gb77 := g77
      replace g77 := g77.st hR (by first | decide | (simp <;> omega))
      obtain ⟨u77, rfl, hw77⟩ := (rv_bits (x := a)).1 g77
      clear g77
      refine yS (by kernel_rfl : opAt F6.o12 32 = some (some 80, .move (.tmp 4), (some (25, true)))) rfl rfl (fun w' hS => val_move rfl) ?_
      refine iS (e := 33) (by kernel_rfl : opAt F6.o12 33 = some (some 81, .indexAddr 27 (.tmp 80) (.const (.int .i64 0)), (some (25, true)))) rfl rfl hrB rfl (by kernel_rfl) rfl (by omega) (by omega) ?_
      intro b81 o81 h81
      try simp only [Int.toNat_natCast] at h81
      refine lSA (by kernel_rfl : opAt F6.o12 34 = some (some 82, .load 33 (.tmp 81), (some (25, true)))) rfl rfl (fun w' hS => h81.stay hS (by first | decide | (simp <;> omega))) h81 (by kernel_rfl) (by kernel_rfl) rfl rfl ?_
      intro v82 g82
      have gb82 := g82
      replace g82 := g82.st hR (by first | decide | (simp <;> omega))
      obtain ⟨u82, rfl, hw82⟩ := (rv_bits (x := a)).1 g82
      clear g82
      refine aS (by kernel_rfl : opAt F6.o12 30 = some (some 78, .buildSlice 27 2 #[(0, (.tmp 74)), (1, (.tmp 77))], (some (25, true)))) rfl rfl (a_buildSlice (ys := ([⟨0, []⟩, a] : List Bits)) (e := 33) (bytes := 32) hF (by kernel_rfl) rfl (by decide) (by decide) ⟨rfl, ⟨_, rfl, rv_bits.2 ⟨_, rfl, rv_nil⟩⟩, rfl, ⟨_, rfl, rv_bits.2 ⟨u77, rfl, hw77⟩⟩, trivial⟩) ?_
      rintro v78 w25 ⟨hs, g78, hF⟩
      refine ⟨(hR.trans hs (by simp)).ext, ?_⟩
      replace hT := hT.trans hs (by simp)
      replace hd := hd.st hs (by first | decide | (simp <;> omega)) (by first | decide | (simp <;> omega))
      replace hr := hr.st hs (by first | decide | (simp <;> omega))
      replace hq := hq.st hs (by first | decide | (simp <;> omega)) (by first | decide | (simp <;> omega))
      replace hwx := hwx.st hs (by first | decide | (simp <;> omega))
      replace g38 := g38.st hs (by first | decide | (simp <;> omega))
      replace hq2 := hq2.st hs (by first | decide | (simp <;> omega)) (by first | decide | (simp <;> omega))
      replace hwc := hwc.st hs (by first | decide | (simp <;> omega))
      replace g45 := g45.st hs (by first | decide | (simp <;> omega))
      replace hR := hR.trans hs (by simp)
      replace hw55 := hw55.st hs (by first | decide | (simp <;> omega))
      replace ht1 := ht1.st hs (by first | decide | (simp <;> omega))
      replace hw65 := hw65.st hs (by first | decide | (simp <;> omega))
      replace hw77 := hw77.st hs (by first | decide | (simp <;> omega))
      replace hw82 := hw82.st hs (by first | decide | (simp <;> omega))
      refine cS (by kernel_rfl : opAt F6.o12 31 = some (some 79, .call { callee := .value (.func 25), args := #[(.tmp 78)], argTypes := #[27] }, (some (25, true)))) rfl rfl (ent Try.call25 rfl) (always_ok hF g78 (by simp) (by simp)) ?_
      rintro vw26 w26 ⟨rfl, hs⟩
      refine ⟨(hR.trans hs (by simp)).ext, ?_⟩
      replace hF := hF.st hs
      replace hT := hT.trans hs (by simp)
      replace hd := hd.st hs (by first | decide | (simp <;> omega)) (by first | decide | (simp <;> omega))
      replace hr := hr.st hs (by first | decide | (simp <;> omega))
      replace hq := hq.st hs (by first | decide | (simp <;> omega)) (by first | decide | (simp <;> omega))
      replace hwx := hwx.st hs (by first | decide | (simp <;> omega))
      replace g38 := g38.st hs (by first | decide | (simp <;> omega))
      replace hq2 := hq2.st hs (by first | decide | (simp <;> omega)) (by first | decide | (simp <;> omega))
      replace hwc := hwc.st hs (by first | decide | (simp <;> omega))
      replace g45 := g45.st hs (by first | decide | (simp <;> omega))
      replace hR := hR.trans hs (by simp)
      replace hw55 := hw55.st hs (by first | decide | (simp <;> omega))
      replace ht1 := ht1.st hs (by first | decide | (simp <;> omega))
      replace hw65 := hw65.st hs (by first | decide | (simp <;> omega))
      replace hw77 := hw77.st hs (by first | decide | (simp <;> omega))
      replace hw82 := hw82.st hs (by first | decide | (simp <;> omega))
      replace g78 := g78.st hs (by first | decide | (simp <;> omega))
      refine cS (by kernel_rfl : opAt F6.o12 35 = some (some 83, .call { callee := .value (.func 26), args := #[(.tmp 82)], argTypes := #[33] }, (some (25, true)))) rfl rfl (ent Try.call26 rfl) (refCount_ok hF hw82 hva) ?_
      rintro vw27 w27 ⟨rfl, hs⟩
      refine ⟨(hR.trans hs (by simp)).ext, ?_⟩
      replace hF := hF.st hs
      replace hT := hT.trans hs (by simp)
      replace hd := hd.st hs (by first | decide | (simp <;> omega)) (by first | decide | (simp <;> omega))
      replace hr := hr.st hs (by first | decide | (simp <;> omega))
      replace hq := hq.st hs (by first | decide | (simp <;> omega)) (by first | decide | (simp <;> omega))
      replace hwx := hwx.st hs (by first | decide | (simp <;> omega))
      replace g38 := g38.st hs (by first | decide | (simp <;> omega))
      replace hq2 := hq2.st hs (by first | decide | (simp <;> omega)) (by first | decide | (simp <;> omega))
      replace hwc := hwc.st hs (by first | decide | (simp <;> omega))
      replace g45 := g45.st hs (by first | decide | (simp <;> omega))
      replace hR := hR.trans hs (by simp)
      replace hw55 := hw55.st hs (by first | decide | (simp <;> omega))
      replace ht1 := ht1.st hs (by first | decide | (simp <;> omega))
      replace hw65 := hw65.st hs (by first | decide | (simp <;> omega))
      replace hw77 := hw77.st hs (by first | decide | (simp <;> omega))
      replace hw82 := hw82.st hs (by first | decide | (simp <;> omega))
      replace g78 := g78.st hs (by first | decide | (simp <;> omega))
      refine yS (by kernel_rfl : opAt F6.o12 36 = some (some 84, .binOp .eql 3 (.tmp 79) (.tmp 83) 3, (some (25, true)))) rfl rfl (fun w' hS => val_T (val_eql rfl rfl) htwo) ?_
      refine yS (by kernel_rfl : opAt F6.o12 37 = some (some 85, .pick (.tmp 73) (.tmp 84) (.const (.bool false)), none)) rfl rfl (fun w' hS => val_pick_t rfl rfl) ?_
      refine yS (by kernel_rfl : opAt F6.o12 38 = some (some 2, .assign (.tmp 85), none)) rfl rfl (fun w' hS => val_assign rfl) ?_
      refine Sch.nil ?_
      refine run_ret1 (by kernel_rfl) Try.func6 Try.results6 rfl ?_
      exact ⟨rfl, hT.out1 (by decide)⟩
namespace F6B
noncomputable def c0 : Code := bodyOf Try.f6
noncomputable def c1 : Code := cl c0
noncomputable def o0 : Array Oper := rops c1
noncomputable def c2 : Code := cr c0
noncomputable def c3 : Code := cl c2
noncomputable def c4 : Code := cl c3
noncomputable def o1 : Array Oper := rops c4
noncomputable def c5 : Code := cr c3
noncomputable def c6 : Code := cl c5
noncomputable def c7 : Code := cl c6
noncomputable def o2 : Array Oper := rops c7
noncomputable def c8 : Code := cr c6
noncomputable def c9 : Code := cr c5
noncomputable def c10 : Code := cr c2
noncomputable def c11 : Code := cl c10
noncomputable def o3 : Array Oper := rops c11
noncomputable def c12 : Code := cr c10
noncomputable def c13 : Code := cl c12
noncomputable def o4 : Array Oper := rops c13
noncomputable def c14 : Code := cr c12
noncomputable def c15 : Code := cl c14
noncomputable def c16 : Code := cl c15
noncomputable def o5 : Array Oper := rops c16
noncomputable def c17 : Code := cr c15
noncomputable def c18 : Code := cl c17
noncomputable def c19 : Code := cl c18
noncomputable def c20 : Code := cl c19
noncomputable def c21 : Code := cl c20
noncomputable def o6 : Array Oper := rops c21
noncomputable def c22 : Code := cr c20
noncomputable def c23 : Code := cl c22
noncomputable def c24 : Code := cr c22
noncomputable def c25 : Code := cr c19
noncomputable def c26 : Code := cl c25
noncomputable def c27 : Code := cl c26
noncomputable def o8 : Array Oper := rops c27
noncomputable def c28 : Code := cr c25
noncomputable def o7 : Array Oper := rops c28
noncomputable def c29 : Code := cr c14
noncomputable def c30 : Code := cl c29
noncomputable def o9 : Array Oper := rops c30
noncomputable def c31 : Code := cr c29
noncomputable def c32 : Code := cl c31
noncomputable def o10 : Array Oper := rops c32
noncomputable def c33 : Code := cr c31
noncomputable def c34 : Code := cl c33
noncomputable def o11 : Array Oper := rops c34
noncomputable def c35 : Code := cr c33
noncomputable def c36 : Code := cl c35
noncomputable def o12 : Array Oper := rops c36
noncomputable def c37 : Code := cr c35
end F6B
/-- .. where more is handed than it looks at. -/
theorem alwaysLaw_big {w₀ : World} {C : Nat → Nat} {p : Option Addr} {n c : Nat} (hF : Lim w₀ C) (hn : 400 < n) : Calls Try.prog 6 #[.slice p n c] w₀ (Ret fun v w' => v = .bool true ∧ Stp [] w₀ C w' C) := by
  have hF0 := hF
  have hT := Stp.refl [2, 3, 4, 5, 6, 7, 8, 9] w₀ (col1 C)
  replace hF := hF.col1
  refine calls_start (c := F6B.c0) (N := 86) [.slice p n c] Try.func6 (by kernel_rfl) (by kernel_rfl) (by kernel_rfl) ?_
  show Run _ _ _ _ [(0, .slice p n c)] _ _
  refine run_seq (x := F6B.c1) (y := F6B.c2) (by kernel_rfl) ?_
  refine run_plain (id := 0) (ops := F6B.o0) [(0, true)] (by kernel_rfl) (by kernel_rfl) ?_
  refine yS (by kernel_rfl : opAt F6B.o0 0 = some (some 2, .assign (.const (.bool false)), none)) rfl rfl (fun w' hS => val_assign rfl) ?_
  refine Sch.nil ?_
  refine run_seq (x := F6B.c3) (y := F6B.c10) (by kernel_rfl) ?_
  refine run_seq (x := F6B.c4) (y := F6B.c5) (by kernel_rfl) ?_
  refine run_plain (id := 1) (ops := F6B.o1) [(0, false), (1, true), (2, true), (3, true), (4, false), (5, true), (6, true)] (by kernel_rfl) (by kernel_rfl) ?_
  refine cS (by kernel_rfl : opAt F6B.o1 0 = some (some 9, .call { callee := .value (.func 7), args := #[], argTypes := #[] }, none)) rfl rfl (ent Try.call7 rfl) (awake_ok hF) ?_
  rintro vw1 w1 ⟨rfl, hs⟩
  refine ⟨trivial, ?_⟩
  replace hF := hF.st hs
  replace hT := hT.trans hs (by simp)
  refine yS (by kernel_rfl : opAt F6B.o1 1 = some (some 10, .unOp .not 4 (.tmp 9), none)) rfl rfl (fun w' hS => val_not rfl) ?_
  refine yS (by kernel_rfl : opAt F6B.o1 2 = some (some 11, .move (.tmp 10), none)) rfl rfl (fun w' hS => val_move rfl) ?_
  refine yS (by kernel_rfl : opAt F6B.o1 3 = some (some 12, .move (.tmp 0), (some (2, false)))) rfl rfl (fun w' hS => val_move rfl) ?_
  refine cS (by kernel_rfl : opAt F6B.o1 4 = some (some 13, .call { callee := .value (.func 8), args := #[(.tmp 12)], argTypes := #[22] }, (some (2, false)))) rfl rfl (ent Try.call8 rfl) (few_ok _ _ _ _) ?_
  rintro vw2 w2 ⟨rfl, rfl⟩
  refine ⟨trivial, ?_⟩
  rw [decide_eq_false (show ¬ (n : Int) ≤ 400 by omega)]
  refine yS (by kernel_rfl : opAt F6B.o1 5 = some (some 14, .unOp .not 4 (.tmp 13), (some (2, false)))) rfl rfl (fun w' hS => val_not rfl) ?_
  refine yS (by kernel_rfl : opAt F6B.o1 6 = some (some 15, .pick (.tmp 11) (.const (.bool true)) (.tmp 14), none)) rfl rfl (fun w' hS => val_pick_f rfl rfl) ?_
  refine Sch.nil ?_
  refine run_cond (x := F6B.c6) (y := F6B.c9) (o := .tmp 15) (b := true) (by kernel_rfl) rfl (fun _ => ?_) (fun h => by cases h)
  refine run_seq (x := F6B.c7) (y := F6B.c8) (by kernel_rfl) ?_
  refine run_plain (id := 2) (ops := F6B.o2) [(0, false), (1, true)] (by kernel_rfl) (by kernel_rfl) ?_
  refine cS (by kernel_rfl : opAt F6B.o2 0 = some (some 16, .call { callee := .value (.func 7), args := #[], argTypes := #[] }, none)) rfl rfl (ent Try.call7 rfl) (awake_ok hF) ?_
  rintro vw3 w3 ⟨rfl, hs⟩
  refine ⟨trivial, ?_⟩
  replace hF := hF.st hs
  replace hT := hT.trans hs (by simp)
  refine yS (by kernel_rfl : opAt F6B.o2 1 = some (some 2, .assign (.tmp 16), none)) rfl rfl (fun w' hS => val_assign rfl) ?_
  refine Sch.nil ?_
  refine run_ret1 (by kernel_rfl) Try.func6 Try.results6 rfl ?_
  exact ⟨rfl, hT.out1 (by decide)⟩
end Go.Proofs.Ytbdlkdiadplmcaa
