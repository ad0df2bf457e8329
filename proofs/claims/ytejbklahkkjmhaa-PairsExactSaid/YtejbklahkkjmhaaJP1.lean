/- Steps through functions of the program. -/
import Derived.Test.YtejbklahkkjmhaaJD2
import Derived.Test.YtejbklahkkjmhaaL1
set_option linter.unusedVariables false
set_option linter.unusedSimpArgs false
set_option maxRecDepth 100000
set_option maxHeartbeats 400000
namespace Go.Proofs.Ytejbklahkkjmhaa
open Go.K Go.K.Rep

namespace F21
noncomputable def c0 : Code := bodyOf Try.f21
noncomputable def c1 : Code := cl c0
noncomputable def o0 : Array Oper := rops c1
noncomputable def c2 : Code := cr c0
noncomputable def c3 : Code := cl c2
noncomputable def o1 : Array Oper := rops c3
noncomputable def c4 : Code := cr c2
noncomputable def c5 : Code := cl c4
noncomputable def c6 : Code := cl c5
noncomputable def o2 : Array Oper := rops c6
noncomputable def c7 : Code := cr c5
noncomputable def c8 : Code := cl c7
noncomputable def c9 : Code := cl c8
noncomputable def c10 : Code := cl c9
noncomputable def o3 : Array Oper := rops c10
noncomputable def c11 : Code := cr c9
noncomputable def c12 : Code := cl c11
noncomputable def c13 : Code := cl c12
noncomputable def c14 : Code := cr c12
noncomputable def c15 : Code := cr c11
noncomputable def c16 : Code := cl c15
noncomputable def c17 : Code := cl c16
noncomputable def c18 : Code := cl c17
noncomputable def o4 : Array Oper := rops c18
noncomputable def c19 : Code := cr c17
noncomputable def o5 : Array Oper := rops c19
noncomputable def c20 : Code := cr c15
noncomputable def o6 : Array Oper := rops c20
noncomputable def c21 : Code := cr c4
noncomputable def c22 : Code := cl c21
noncomputable def c23 : Code := cl c22
noncomputable def o7 : Array Oper := rops c23
noncomputable def c24 : Code := cr c22
noncomputable def c25 : Code := cl c24
noncomputable def c26 : Code := cl c25
noncomputable def o8 : Array Oper := rops c26
noncomputable def c27 : Code := cr c25
noncomputable def c28 : Code := cr c24
noncomputable def c29 : Code := cr c21
noncomputable def c30 : Code := cl c29
noncomputable def o9 : Array Oper := rops c30
noncomputable def c31 : Code := cr c29
noncomputable def c32 : Code := cl c31
noncomputable def c33 : Code := cl c32
noncomputable def o10 : Array Oper := rops c33
noncomputable def c34 : Code := cr c32
noncomputable def c35 : Code := cl c34
noncomputable def c36 : Code := cl c35
noncomputable def c37 : Code := cl c36
noncomputable def o11 : Array Oper := rops c37
noncomputable def c38 : Code := cr c36
noncomputable def c39 : Code := cl c38
noncomputable def c40 : Code := cl c39
noncomputable def c41 : Code := cr c39
noncomputable def c42 : Code := cr c38
noncomputable def c43 : Code := cl c42
noncomputable def c44 : Code := cl c43
noncomputable def c45 : Code := cl c44
noncomputable def o12 : Array Oper := rops c45
noncomputable def c46 : Code := cr c44
noncomputable def c47 : Code := cl c46
noncomputable def c48 : Code := cl c47
noncomputable def o13 : Array Oper := rops c48
noncomputable def c49 : Code := cr c47
noncomputable def c50 : Code := cl c49
noncomputable def c51 : Code := cl c50
noncomputable def o14 : Array Oper := rops c51
noncomputable def c52 : Code := cr c50
noncomputable def c53 : Code := cr c49
noncomputable def c54 : Code := cr c46
noncomputable def c55 : Code := cl c54
noncomputable def o15 : Array Oper := rops c55
noncomputable def c56 : Code := cr c54
noncomputable def c57 : Code := cl c56
noncomputable def c58 : Code := cl c57
noncomputable def c59 : Code := cl c58
noncomputable def o16 : Array Oper := rops c59
noncomputable def c60 : Code := cr c58
noncomputable def c61 : Code := cl c60
noncomputable def c62 : Code := cl c61
noncomputable def c63 : Code := cr c61
noncomputable def c64 : Code := cr c60
noncomputable def c65 : Code := cl c64
noncomputable def c66 : Code := cl c65
noncomputable def c67 : Code := cl c66
noncomputable def o17 : Array Oper := rops c67
noncomputable def c68 : Code := cr c66
noncomputable def c69 : Code := cl c68
noncomputable def c70 : Code := cl c69
noncomputable def o18 : Array Oper := rops c70
noncomputable def c71 : Code := cr c69
noncomputable def c72 : Code := cl c71
noncomputable def c73 : Code := cl c72
noncomputable def o19 : Array Oper := rops c73
noncomputable def c74 : Code := cr c72
noncomputable def c75 : Code := cr c71
noncomputable def c76 : Code := cr c68
noncomputable def o20 : Array Oper := rops c76
noncomputable def c77 : Code := cr c64
noncomputable def o21 : Array Oper := rops c77
noncomputable def c78 : Code := cr c42
noncomputable def o22 : Array Oper := rops c78
noncomputable def c79 : Code := cr c31
noncomputable def c80 : Code := cl c79
noncomputable def o23 : Array Oper := rops c80
noncomputable def c81 : Code := cr c79
end F21
/-- Blocks are checked. -/
theorem check_ok {w₀ : World} {C : Nat → Nat} {l : List Block} {vl : Value} (hF : Lim w₀ C) (hl : RV w₀ (Mc C) l vl) (hsum : total l ≤ 4611686018427387904) : Calls Try.prog 21 #[vl] w₀ (Ret fun v w' => v = .int .i64 (checkS l) ∧ Stp [] w₀ C w' C) := by
  have hF0 := hF
  have hT := Stp.refl [2, 3, 4, 5, 6, 7, 8, 9] w₀ (col1 C)
  replace hF := hF.col1
  replace hl : RV w₀ (Mc (col1 C)) l vl := by rw [Mc_col1]; exact hl
  refine calls_start (c := F21.c0) (N := 89) [vl] Try.func21 (by kernel_rfl) (by kernel_rfl) (by kernel_rfl) ?_
  show Run _ _ _ _ [(0, vl)] _ _
  refine run_seq (x := F21.c1) (y := F21.c2) (by kernel_rfl) ?_
  refine run_plain (id := 0) (ops := F21.o0) [(0, true)] (by kernel_rfl) (by kernel_rfl) ?_
  refine yS (by kernel_rfl : opAt F21.o0 0 = some (some 2, .assign (.const (.int .i64 0)), none)) rfl rfl (fun w' hS => val_assign rfl) ?_
  refine Sch.nil ?_
  refine run_seq (x := F21.c3) (y := F21.c4) (by kernel_rfl) ?_
  refine run_plain (id := 1) (ops := F21.o1) [(0, true)] (by kernel_rfl) (by kernel_rfl) ?_
  refine yS (by kernel_rfl : opAt F21.o1 0 = some (some 3, .assign (.const (.int .i64 0)), none)) rfl rfl (fun w' hS => val_assign rfl) ?_
  refine Sch.nil ?_
  refine run_seq (x := F21.c5) (y := F21.c21) (by kernel_rfl) ?_
  refine run_seq (x := F21.c6) (y := F21.c7) (by kernel_rfl) ?_
  refine run_plain (id := 2) (ops := F21.o2) [(0, true), (1, true), (2, true)] (by kernel_rfl) (by kernel_rfl) ?_
  refine yS (by kernel_rfl : opAt F21.o2 0 = some (some 11, .move (.tmp 0), none)) rfl rfl (fun w' hS => val_move rfl) ?_
  refine yS (by kernel_rfl : opAt F21.o2 1 = some (some 12, .call { callee := .builtin .len, args := #[(.tmp 11)], argTypes := #[39] }, none)) rfl rfl (fun w' hS => hl.lenV rfl Try.underlying39 w' ) ?_
  refine yS (by kernel_rfl : opAt F21.o2 2 = some (some 13, .move (.const (.int .i64 0)), none)) rfl rfl (fun w' hS => val_move rfl) ?_
  refine Sch.nil ?_
  refine run_block (x := F21.c8) (id := 0) (by kernel_rfl) ?_
  refine run_loop (ι := Nat × (Nat → Nat)) (I := fun x w => x.1 ≤ l.length ∧ Lim w x.2 ∧ Stp [2, 3, 4, 5, 6, 7, 8, 9] w₀ (col1 C) w x.2 ∧ RV w (Mc x.2) l vl) (e := fun x => [(0, vl), (3, .int .i64 (total (l.take x.1))), (11, vl), (12, .int .i64 l.length), (13, .int .i64 x.1)]) (m := fun x => l.length - x.1) (x₀ := (0, col1 C)) (body := F21.c9) (by kernel_rfl) (sub_cons 0 rfl rfl (sub_cons 3 rfl rfl (sub_cons 11 rfl rfl (sub_cons 12 rfl rfl (sub_cons 13 rfl rfl (sub_nil _)))))) ?_ ?_
  · exact ⟨Nat.zero_le _, hF, hT, hl⟩
  intro ⟨i, Ci⟩ w1 hI next
  obtain ⟨hi, hF, hT, hl⟩ := hI
  simp only at hi hF hT hl
  show Run _ _ _ _ [(0, vl), (3, .int .i64 (total (l.take i))), (11, vl), (12, .int .i64 l.length), (13, .int .i64 (i : Int))] _ _
  have hll := hl.le
  refine run_seq (x := F21.c10) (y := F21.c11) (by kernel_rfl) ?_
  refine run_plain (id := 3) (ops := F21.o3) [(0, true)] (by kernel_rfl) (by kernel_rfl) ?_
  refine yS (by kernel_rfl : opAt F21.o3 0 = some (some 14, .binOp .lss 3 (.tmp 13) (.tmp 12) 3, none)) rfl rfl (fun w' hS => val_lss rfl rfl) ?_
  refine Sch.nil ?_
  refine run_seq (x := F21.c12) (y := F21.c15) (by kernel_rfl) ?_
  refine run_if (x := F21.c13) (y := F21.c14) (o := .tmp 14) (by kernel_rfl) rfl (fun h14 => ?_) (fun h14 => ?_)
  · skip
    have hil : i < l.length := by omega
    refine run_skip (by kernel_rfl) ?_
    refine run_seq (x := F21.c16) (y := F21.c20) (by kernel_rfl) ?_
    refine run_block (x := F21.c17) (id := 1) (by kernel_rfl) ?_
    refine run_seq (x := F21.c18) (y := F21.c19) (by kernel_rfl) ?_
    refine run_plain (id := 4) (ops := F21.o4) [(0, true), (1, false), (2, false), (3, false)] (by kernel_rfl) (by kernel_rfl) ?_
    refine iS (e := 44) (by kernel_rfl : opAt F21.o4 0 = some (some 15, .indexAddr 39 (.tmp 11) (.tmp 13), none)) rfl rfl hl rfl (by kernel_rfl) rfl (by omega) (by omega) ?_
    intro b15 o15 h15
    try simp only [Int.toNat_natCast] at h15
    refine lNA (by kernel_rfl : opAt F21.o4 1 = some (some 16, .load 44 (.tmp 15), none)) rfl rfl trivial h15 (by kernel_rfl) (by kernel_rfl) rfl rfl ?_
    intro v16 g16
    obtain ⟨u16, rfl, gu16⟩ := rv_block' g16
    refine aS (by kernel_rfl : opAt F21.o4 2 = some (some 5, .alloc 44, none)) rfl rfl (a_alloc (cs := [.int .u64 0, .slice none 0 0]) hF 4 (by kernel_rfl)) ?_
    rintro _ w2 ⟨Cw2, bw2, rfl, hs, hx, hF⟩
    refine ⟨trivial, ?_⟩
    replace hT := hT.trans hs (by simp)
    replace hl := hl.st hs (by first | decide | (simp <;> omega))
    replace h15 := h15.st hs (by first | decide | (simp <;> omega))
    replace gu16 := gu16.st hs (by first | decide | (simp <;> omega))
    refine aN (by kernel_rfl : opAt F21.o4 3 = some (none, .store 44 (.tmp 5) (.tmp 16), none)) rfl (a_storeAll (vs := [.int .u64 (l[i]'hil).hash, u16]) (n := 2) rfl rfl (by kernel_rfl) rfl rfl (by intro u hu; simp only [List.mem_cons, List.not_mem_nil, or_false] at hu; rcases hu with rfl | rfl <;> first | rfl | exact (gu16.one rfl).2) hx rfl) ?_
    rintro _ w3 ⟨rfl, hs, hx⟩
    refine ⟨trivial, ?_⟩
    replace hF := hF.st hs
    replace hT := hT.trans hs (by simp)
    replace hl := hl.st hs (by first | decide | (simp <;> omega))
    replace h15 := h15.st hs (by first | decide | (simp <;> omega))
    replace gu16 := gu16.st hs (by first | decide | (simp <;> omega))
    refine Sch.nil ?_
    refine run_plain (id := 5) (ops := F21.o5) [(0, true), (1, true), (2, false), (3, true), (4, true), (5, true)] (by kernel_rfl) (by kernel_rfl) ?_
    refine yS (by kernel_rfl : opAt F21.o5 0 = some (some 17, .move (.tmp 3), none)) rfl rfl (fun w' hS => val_move rfl) ?_
    refine yS (by kernel_rfl : opAt F21.o5 1 = some (some 18, .fieldAddr 44 (.tmp 5) 1, none)) rfl rfl (fun w' hS => val_fieldAddr (off := 1) (by kernel_rfl) rfl) ?_
    refine nS (by kernel_rfl : opAt F21.o5 2 = some (some 19, .load 22 (.tmp 18), none)) rfl rfl trivial (val_loadOwn hx.at_ (by kernel_rfl) rfl rfl) ?_
    refine yS (by kernel_rfl : opAt F21.o5 3 = some (some 20, .call { callee := .builtin .len, args := #[(.tmp 19)], argTypes := #[22] }, none)) rfl rfl (fun w' hS => gu16.lenV rfl Try.underlying22 w' ) ?_
    have ht1 := total_take l hil
    have ht2 := total_le l (i + 1)
    have ht3 := total_nonneg (l.take i)
    refine yS (by kernel_rfl : opAt F21.o5 4 = some (some 21, .binOp .add 3 (.tmp 17) (.tmp 20) 3, none)) rfl rfl (fun w' hS => val_addi rfl rfl (by omega) (by omega)) ?_
    refine yS (by kernel_rfl : opAt F21.o5 5 = some (some 3, .assign (.tmp 21), none)) rfl rfl (fun w' hS => val_assign rfl) ?_
    refine Sch.nil ?_
    refine run_inBlock ?_
    refine run_plain (id := 6) (ops := F21.o6) [(0, true), (1, true)] (by kernel_rfl) (by kernel_rfl) ?_
    refine yS (by kernel_rfl : opAt F21.o6 0 = some (some 22, .binOp .add 3 (.tmp 13) (.const (.int .i64 1)) 3, none)) rfl rfl (fun w' hS => val_addi rfl rfl (by omega) (by omega)) ?_
    refine yS (by kernel_rfl : opAt F21.o6 1 = some (some 13, .move (.tmp 22), none)) rfl rfl (fun w' hS => val_move rfl) ?_
    refine Sch.nil ?_
    refine kp ?_ (next (i + 1, Cw2) _ ⟨by simp only; omega, hF, hT, hl⟩ (by simp only; omega))
    exact sub_cons 0 rfl rfl (sub_cons 3 rfl (eq_int (by simp only; omega)) (sub_cons 11 rfl rfl (sub_cons 12 rfl rfl (sub_cons 13 rfl (eq_int (by simp)) (sub_nil _)))))
  · skip
    have hil : i = l.length := by omega
    refine run_exit (id := 0) (by kernel_rfl) rfl ?_
    refine run_seq (x := F21.c22) (y := F21.c29) (by kernel_rfl) ?_
    refine run_seq (x := F21.c23) (y := F21.c24) (by kernel_rfl) ?_
    refine run_plain (id := 7) (ops := F21.o7) [(0, true), (1, true)] (by kernel_rfl) (by kernel_rfl) ?_
    refine yS (by kernel_rfl : opAt F21.o7 0 = some (some 23, .move (.tmp 3), none)) rfl rfl (fun w' hS => val_move rfl) ?_
    refine yS (by kernel_rfl : opAt F21.o7 1 = some (some 24, .binOp .gtr 3 (.tmp 23) (.const (.int .i64 64)) 3, none)) rfl rfl (fun w' hS => val_gtr rfl rfl) ?_
    refine Sch.nil ?_
    refine run_if (x := F21.c25) (y := F21.c28) (o := .tmp 24) (by kernel_rfl) rfl (fun h24 => ?_) (fun h24 => ?_)
    · skip
      subst hil
      rw [List.take_length] at h24
      refine run_seq (x := F21.c26) (y := F21.c27) (by kernel_rfl) ?_
      refine run_plain (id := 8) (ops := F21.o8) [(0, true)] (by kernel_rfl) (by kernel_rfl) ?_
      refine yS (by kernel_rfl : opAt F21.o8 0 = some (some 2, .assign (.const (.int .i64 1)), none)) rfl rfl (fun w' hS => val_assign rfl) ?_
      refine Sch.nil ?_
      refine run_ret1 (by kernel_rfl) Try.func21 Try.results21 rfl ?_
      have hout := hT.out1 (by decide)
      refine ⟨?_, hout⟩
      unfold checkS; rw [if_pos h24]
    · skip
      subst hil
      rw [List.take_length] at h24
      refine run_skip (by kernel_rfl) ?_
      refine run_seq (x := F21.c30) (y := F21.c31) (by kernel_rfl) ?_
      refine run_plain (id := 9) (ops := F21.o9) [(0, false), (1, true)] (by kernel_rfl) (by kernel_rfl) ?_
      refine aS (by kernel_rfl : opAt F21.o9 0 = some (some 25, .makeMap 66 none, none)) rfl rfl (a_makeMap hF 3 kvI vvB) ?_
      rintro _ wm ⟨Cm, bm, rfl, hs, hu, hF⟩
      refine ⟨trivial, ?_⟩
      replace hT := hT.trans hs (by simp)
      replace hl := hl.st hs (by first | decide | (simp <;> omega))
      refine yS (by kernel_rfl : opAt F21.o9 1 = some (some 6, .assign (.tmp 25), none)) rfl rfl (fun w' hS => val_assign rfl) ?_
      refine Sch.nil ?_
      refine run_seq (x := F21.c32) (y := F21.c79) (by kernel_rfl) ?_
      refine run_seq (x := F21.c33) (y := F21.c34) (by kernel_rfl) ?_
      refine run_plain (id := 10) (ops := F21.o10) [(0, true), (1, true), (2, true)] (by kernel_rfl) (by kernel_rfl) ?_
      refine yS (by kernel_rfl : opAt F21.o10 0 = some (some 26, .move (.tmp 0), none)) rfl rfl (fun w' hS => val_move rfl) ?_
      refine yS (by kernel_rfl : opAt F21.o10 1 = some (some 27, .call { callee := .builtin .len, args := #[(.tmp 26)], argTypes := #[39] }, none)) rfl rfl (fun w' hS => hl.lenV rfl Try.underlying39 w' ) ?_
      refine yS (by kernel_rfl : opAt F21.o10 2 = some (some 28, .move (.const (.int .i64 0)), none)) rfl rfl (fun w' hS => val_move rfl) ?_
      refine Sch.nil ?_
      refine run_block (x := F21.c35) (id := 2) (by kernel_rfl) ?_
      refine run_loop (ι := Nat × (Nat → Nat) × Option Int × Used) (I := fun x w => x.1 ≤ l.length ∧ Lim w x.2.1 ∧ Stp [2, 3, 4, 5, 6, 7, 8, 9] w₀ (col1 C) w x.2.1 ∧ RV w (Mc x.2.1) l vl ∧ OwnM w x.2.1 3 bm kvI vvB x.2.2.2 ∧ (l.take x.1).foldl bStep (some (none, [])) = some (x.2.2.1, x.2.2.2) ∧ x.2.2.1 = lastH l x.1) (e := fun x => [(0, vl), (6, .map (some bm)), (26, vl), (27, .int .i64 l.length), (28, .int .i64 x.1)]) (m := fun x => l.length - x.1) (x₀ := (0, Cm, none, [])) (body := F21.c36) (by kernel_rfl) (sub_cons 0 rfl rfl (sub_cons 6 rfl rfl (sub_cons 26 rfl rfl (sub_cons 27 rfl rfl (sub_cons 28 rfl rfl (sub_nil _)))))) ?_ ?_
      · exact ⟨Nat.zero_le _, hF, hT, hl, hu, rfl, rfl⟩
      intro ⟨i, Ci, ph, u⟩ w4 hI next
      obtain ⟨hi, hF, hT, hl, hu, hfold, hph⟩ := hI
      simp only at hi hF hT hl hu hfold hph
      show Run _ _ _ _ [(0, vl), (6, .map (some bm)), (26, vl), (27, .int .i64 l.length), (28, .int .i64 (i : Int))] _ _
      have hll := hl.le
      refine run_seq (x := F21.c37) (y := F21.c38) (by kernel_rfl) ?_
      refine run_plain (id := 11) (ops := F21.o11) [(0, true)] (by kernel_rfl) (by kernel_rfl) ?_
      refine yS (by kernel_rfl : opAt F21.o11 0 = some (some 29, .binOp .lss 3 (.tmp 28) (.tmp 27) 3, none)) rfl rfl (fun w' hS => val_lss rfl rfl) ?_
      refine Sch.nil ?_
      refine run_seq (x := F21.c39) (y := F21.c42) (by kernel_rfl) ?_
      refine run_if (x := F21.c40) (y := F21.c41) (o := .tmp 29) (by kernel_rfl) rfl (fun h29 => ?_) (fun h29 => ?_)
      · skip
        have hil : i < l.length := by omega
        refine run_skip (by kernel_rfl) ?_
        refine run_seq (x := F21.c43) (y := F21.c78) (by kernel_rfl) ?_
        refine run_block (x := F21.c44) (id := 3) (by kernel_rfl) ?_
        refine run_seq (x := F21.c45) (y := F21.c46) (by kernel_rfl) ?_
        refine run_plain (id := 12) (ops := F21.o12) [(0, true), (1, true), (2, false), (3, false), (4, true), (5, false)] (by kernel_rfl) (by kernel_rfl) ?_
        refine yS (by kernel_rfl : opAt F21.o12 0 = some (some 30, .move (.tmp 28), none)) rfl rfl (fun w' hS => val_move rfl) ?_
        refine iS (e := 44) (by kernel_rfl : opAt F21.o12 1 = some (some 31, .indexAddr 39 (.tmp 26) (.tmp 28), none)) rfl rfl hl rfl (by kernel_rfl) rfl (by omega) (by omega) ?_
        intro b31 o31 h31
        try simp only [Int.toNat_natCast] at h31
        refine lNA (by kernel_rfl : opAt F21.o12 2 = some (some 32, .load 44 (.tmp 31), none)) rfl rfl trivial h31 (by kernel_rfl) (by kernel_rfl) rfl rfl ?_
        intro v32 g32
        obtain ⟨u32, rfl, gu32⟩ := rv_block' g32
        refine aS (by kernel_rfl : opAt F21.o12 3 = some (some 8, .alloc 44, none)) rfl rfl (a_alloc (cs := [.int .u64 0, .slice none 0 0]) hF 4 (by kernel_rfl)) ?_
        rintro _ w5 ⟨Cw5, bw5, rfl, hs, hx, hF⟩
        refine ⟨trivial, ?_⟩
        replace hT := hT.trans hs (by simp)
        replace hl := hl.st hs (by first | decide | (simp <;> omega))
        replace hu := hu.st hs (by first | decide | (simp <;> omega))
        replace h31 := h31.st hs (by first | decide | (simp <;> omega))
        replace gu32 := gu32.st hs (by first | decide | (simp <;> omega))
        refine yS (by kernel_rfl : opAt F21.o12 4 = some (some 7, .assign (.tmp 30), none)) rfl rfl (fun w' hS => val_assign rfl) ?_
        refine aN (by kernel_rfl : opAt F21.o12 5 = some (none, .store 44 (.tmp 8) (.tmp 32), none)) rfl (a_storeAll (vs := [.int .u64 (l[i]'hil).hash, u32]) (n := 2) rfl rfl (by kernel_rfl) rfl rfl (by intro u hu; simp only [List.mem_cons, List.not_mem_nil, or_false] at hu; rcases hu with rfl | rfl <;> first | rfl | exact (gu32.one rfl).2) hx rfl) ?_
        rintro _ w6 ⟨rfl, hs, hx⟩
        refine ⟨trivial, ?_⟩
        replace hF := hF.st hs
        replace hT := hT.trans hs (by simp)
        replace hl := hl.st hs (by first | decide | (simp <;> omega))
        replace hu := hu.st hs (by first | decide | (simp <;> omega))
        replace h31 := h31.st hs (by first | decide | (simp <;> omega))
        replace gu32 := gu32.st hs (by first | decide | (simp <;> omega))
        refine Sch.nil ?_
        refine run_seq (x := F21.c47) (y := F21.c54) (by kernel_rfl) ?_
        refine run_seq (x := F21.c48) (y := F21.c49) (by kernel_rfl) ?_
        refine run_cut 51 (badB ph (l[i]'hil)) (Cw5) ?_ ?_
        · intro hcut
          by_cases hA : ((l[i]'hil).ids.length : Int) = 0
          · skip
            refine run_draw (id := 13) (ops := F21.o13) [] (Cw5) [(0, true), (1, true), (2, true), (3, true), (4, true), (5, true), (6, true), (7, true), (8, true), (9, true), (10, true), (11, true), (12, true), (13, true), (14, true), (15, true), (16, true), (17, true), (18, true)] Try_mixed (by kernel_rfl) (by kernel_rfl) (by kernel_rfl) ?_
            intro w7 hs
            replace hF := hF.st hs
            replace hT := hT.trans hs (by simp)
            replace hl := hl.st hs (by first | decide | (simp <;> omega))
            replace hu := hu.st hs (by first | decide | (simp <;> omega))
            replace h31 := h31.st hs (by first | decide | (simp <;> omega))
            replace gu32 := gu32.st hs (by first | decide | (simp <;> omega))
            replace hx := hx.st hs (by first | decide | (simp <;> omega))
            have hcs := hs
            refine yS (by kernel_rfl : opAt F21.o13 0 = some (some 33, .fieldAddr 44 (.tmp 8) 1, none)) rfl rfl (fun w' hS => val_fieldAddr (off := 1) (by kernel_rfl) rfl) ?_
            refine yS (by kernel_rfl : opAt F21.o13 1 = some (some 34, .load 22 (.tmp 33), none)) rfl rfl (fun w' hS => val_loadOwn (hx.stay hS (by decide)) (by kernel_rfl) rfl rfl) ?_
            refine yS (by kernel_rfl : opAt F21.o13 2 = some (some 35, .call { callee := .builtin .len, args := #[(.tmp 34)], argTypes := #[22] }, none)) rfl rfl (fun w' hS => gu32.lenV rfl Try.underlying22 w' ) ?_
            refine yS (by kernel_rfl : opAt F21.o13 3 = some (some 36, .binOp .eql 3 (.tmp 35) (.const (.int .i64 0)) 3, none)) rfl rfl (fun w' hS => val_T (val_eql rfl rfl) hA) ?_
            refine yS (by kernel_rfl : opAt F21.o13 4 = some (some 37, .move (.tmp 36), none)) rfl rfl (fun w' hS => val_move rfl) ?_
            refine pS (by kernel_rfl : opAt F21.o13 5 = some (some 38, .move (.tmp 7), (some (4, false)))) rfl rfl ?_
            refine pS (by kernel_rfl : opAt F21.o13 6 = some (some 39, .binOp .gtr 3 (.tmp 38) (.const (.int .i64 0)) 3, (some (4, false)))) rfl rfl ?_
            refine pS (by kernel_rfl : opAt F21.o13 7 = some (some 40, .move (.tmp 39), (some (4, false)))) rfl rfl ?_
            refine pS (by kernel_rfl : opAt F21.o13 8 = some (some 41, .move (.tmp 0), (some (7, true)))) rfl rfl ?_
            refine pS (by kernel_rfl : opAt F21.o13 9 = some (some 42, .move (.tmp 7), (some (7, true)))) rfl rfl ?_
            refine pS (by kernel_rfl : opAt F21.o13 10 = some (some 43, .binOp .sub 3 (.tmp 42) (.const (.int .i64 1)) 3, (some (7, true)))) rfl rfl ?_
            refine pS (by kernel_rfl : opAt F21.o13 11 = some (some 44, .indexAddr 39 (.tmp 41) (.tmp 43), (some (7, true)))) rfl rfl ?_
            refine pS (by kernel_rfl : opAt F21.o13 12 = some (some 45, .fieldAddr 44 (.tmp 44) 0, (some (7, true)))) rfl rfl ?_
            refine pS (by kernel_rfl : opAt F21.o13 13 = some (some 46, .load 42 (.tmp 45), (some (7, true)))) rfl rfl ?_
            refine pS (by kernel_rfl : opAt F21.o13 14 = some (some 47, .fieldAddr 44 (.tmp 8) 0, (some (7, true)))) rfl rfl ?_
            refine pS (by kernel_rfl : opAt F21.o13 15 = some (some 48, .load 42 (.tmp 47), (some (7, true)))) rfl rfl ?_
            refine pS (by kernel_rfl : opAt F21.o13 16 = some (some 49, .binOp .geq 42 (.tmp 46) (.tmp 48) 42, (some (7, true)))) rfl rfl ?_
            refine pS (by kernel_rfl : opAt F21.o13 17 = some (some 50, .pick (.tmp 40) (.tmp 49) (.const (.bool false)), (some (4, false)))) rfl rfl ?_
            refine yS (by kernel_rfl : opAt F21.o13 18 = some (some 51, .pick (.tmp 37) (.const (.bool true)) (.tmp 50), none)) rfl rfl (fun w' hS => val_pick_t rfl rfl) ?_
            exact Sch.nil (hcut _ _ _ hcs rfl (by simp [badB, hA]) (sub_skip rfl (sub_skip rfl (sub_skip rfl (sub_skip rfl (sub_skip rfl (sub_skip rfl (sub_skip rfl (sub_skip rfl (sub_skip rfl (sub_skip rfl (sub_skip rfl (sub_skip rfl (sub_skip rfl (sub_skip rfl (sub_skip rfl (sub_skip rfl (sub_skip rfl (sub_skip rfl (sub_skip rfl (Sub.refl _)))))))))))))))))))))
          · skip
            by_cases hB : (0 : Int) < i
            · skip
              refine run_draw (id := 13) (ops := F21.o13) [] (Cw5) [(0, true), (1, true), (2, true), (3, true), (4, true), (5, true), (6, true), (7, true), (8, true), (9, true), (10, true), (11, true), (12, true), (13, true), (14, true), (15, true), (16, true), (17, true), (18, true)] Try_mixed (by kernel_rfl) (by kernel_rfl) (by kernel_rfl) ?_
              intro w8 hs
              replace hF := hF.st hs
              replace hT := hT.trans hs (by simp)
              replace hl := hl.st hs (by first | decide | (simp <;> omega))
              replace hu := hu.st hs (by first | decide | (simp <;> omega))
              replace h31 := h31.st hs (by first | decide | (simp <;> omega))
              replace gu32 := gu32.st hs (by first | decide | (simp <;> omega))
              replace hx := hx.st hs (by first | decide | (simp <;> omega))
              have hcs := hs
              refine yS (by kernel_rfl : opAt F21.o13 0 = some (some 33, .fieldAddr 44 (.tmp 8) 1, none)) rfl rfl (fun w' hS => val_fieldAddr (off := 1) (by kernel_rfl) rfl) ?_
              refine yS (by kernel_rfl : opAt F21.o13 1 = some (some 34, .load 22 (.tmp 33), none)) rfl rfl (fun w' hS => val_loadOwn (hx.stay hS (by decide)) (by kernel_rfl) rfl rfl) ?_
              refine yS (by kernel_rfl : opAt F21.o13 2 = some (some 35, .call { callee := .builtin .len, args := #[(.tmp 34)], argTypes := #[22] }, none)) rfl rfl (fun w' hS => gu32.lenV rfl Try.underlying22 w' ) ?_
              refine yS (by kernel_rfl : opAt F21.o13 3 = some (some 36, .binOp .eql 3 (.tmp 35) (.const (.int .i64 0)) 3, none)) rfl rfl (fun w' hS => val_F (val_eql rfl rfl) hA) ?_
              refine yS (by kernel_rfl : opAt F21.o13 4 = some (some 37, .move (.tmp 36), none)) rfl rfl (fun w' hS => val_move rfl) ?_
              refine yS (by kernel_rfl : opAt F21.o13 5 = some (some 38, .move (.tmp 7), (some (4, false)))) rfl rfl (fun w' hS => val_move rfl) ?_
              refine yS (by kernel_rfl : opAt F21.o13 6 = some (some 39, .binOp .gtr 3 (.tmp 38) (.const (.int .i64 0)) 3, (some (4, false)))) rfl rfl (fun w' hS => val_T (val_gtr rfl rfl) hB) ?_
              refine yS (by kernel_rfl : opAt F21.o13 7 = some (some 40, .move (.tmp 39), (some (4, false)))) rfl rfl (fun w' hS => val_move rfl) ?_
              refine yS (by kernel_rfl : opAt F21.o13 8 = some (some 41, .move (.tmp 0), (some (7, true)))) rfl rfl (fun w' hS => val_move rfl) ?_
              refine yS (by kernel_rfl : opAt F21.o13 9 = some (some 42, .move (.tmp 7), (some (7, true)))) rfl rfl (fun w' hS => val_move rfl) ?_
              refine yS (by kernel_rfl : opAt F21.o13 10 = some (some 43, .binOp .sub 3 (.tmp 42) (.const (.int .i64 1)) 3, (some (7, true)))) rfl rfl (fun w' hS => val_subi rfl rfl (by omega) (by omega)) ?_
              refine iS (e := 44) (by kernel_rfl : opAt F21.o13 11 = some (some 44, .indexAddr 39 (.tmp 41) (.tmp 43), (some (7, true)))) rfl rfl hl rfl (by kernel_rfl) rfl (by omega) (by omega) ?_
              intro b44 o44 h44
              try simp only [Int.toNat_natCast] at h44
              have h45 := RA.hash h44
              refine yS (by kernel_rfl : opAt F21.o13 12 = some (some 45, .fieldAddr 44 (.tmp 44) 0, (some (7, true)))) rfl rfl (fun w' hS => val_fieldAddr (off := 0) (by kernel_rfl) rfl) ?_
              refine lS (by kernel_rfl : opAt F21.o13 13 = some (some 46, .load 42 (.tmp 45), (some (7, true)))) rfl rfl (fun w' hS => h45.stay hS (by first | decide | (simp <;> omega))) h45 (by kernel_rfl) rfl rfl ?_
              intro v46 g46
              obtain rfl := rv_num.1 g46
              refine yS (by kernel_rfl : opAt F21.o13 14 = some (some 47, .fieldAddr 44 (.tmp 8) 0, (some (7, true)))) rfl rfl (fun w' hS => val_fieldAddr (off := 0) (by kernel_rfl) rfl) ?_
              refine yS (by kernel_rfl : opAt F21.o13 15 = some (some 48, .load 42 (.tmp 47), (some (7, true)))) rfl rfl (fun w' hS => val_loadOwn (hx.stay hS (by decide)) (by kernel_rfl) rfl rfl) ?_
              refine yS (by kernel_rfl : opAt F21.o13 16 = some (some 49, .binOp .geq 42 (.tmp 46) (.tmp 48) 42, (some (7, true)))) rfl rfl (fun w' hS => val_geq rfl rfl) ?_
              refine yS (by kernel_rfl : opAt F21.o13 17 = some (some 50, .pick (.tmp 40) (.tmp 49) (.const (.bool false)), (some (4, false)))) rfl rfl (fun w' hS => val_pick_t rfl rfl) ?_
              refine yS (by kernel_rfl : opAt F21.o13 18 = some (some 51, .pick (.tmp 37) (.const (.bool true)) (.tmp 50), none)) rfl rfl (fun w' hS => val_pick_f rfl rfl) ?_
              exact Sch.nil (hcut _ _ _ hcs rfl (by rw [hph, lastH_pos l (by omega) hi]; simp only [badB, overB, decide_eq_false hA, Bool.false_or]; congr 3; simp only [show ((i : Int) - 1).toNat = i - 1 from by omega]) (sub_skip rfl (sub_skip rfl (sub_skip rfl (sub_skip rfl (sub_skip rfl (sub_skip rfl (sub_skip rfl (sub_skip rfl (sub_skip rfl (sub_skip rfl (sub_skip rfl (sub_skip rfl (sub_skip rfl (sub_skip rfl (sub_skip rfl (sub_skip rfl (sub_skip rfl (sub_skip rfl (sub_skip rfl (Sub.refl _)))))))))))))))))))))
            · skip
              refine run_draw (id := 13) (ops := F21.o13) [] (Cw5) [(0, true), (1, true), (2, true), (3, true), (4, true), (5, true), (6, true), (7, true), (8, true), (9, true), (10, true), (11, true), (12, true), (13, true), (14, true), (15, true), (16, true), (17, true), (18, true)] Try_mixed (by kernel_rfl) (by kernel_rfl) (by kernel_rfl) ?_
              intro w9 hs
              replace hF := hF.st hs
              replace hT := hT.trans hs (by simp)
              replace hl := hl.st hs (by first | decide | (simp <;> omega))
              replace hu := hu.st hs (by first | decide | (simp <;> omega))
              replace h31 := h31.st hs (by first | decide | (simp <;> omega))
              replace gu32 := gu32.st hs (by first | decide | (simp <;> omega))
              replace hx := hx.st hs (by first | decide | (simp <;> omega))
              have hcs := hs
              refine yS (by kernel_rfl : opAt F21.o13 0 = some (some 33, .fieldAddr 44 (.tmp 8) 1, none)) rfl rfl (fun w' hS => val_fieldAddr (off := 1) (by kernel_rfl) rfl) ?_
              refine yS (by kernel_rfl : opAt F21.o13 1 = some (some 34, .load 22 (.tmp 33), none)) rfl rfl (fun w' hS => val_loadOwn (hx.stay hS (by decide)) (by kernel_rfl) rfl rfl) ?_
              refine yS (by kernel_rfl : opAt F21.o13 2 = some (some 35, .call { callee := .builtin .len, args := #[(.tmp 34)], argTypes := #[22] }, none)) rfl rfl (fun w' hS => gu32.lenV rfl Try.underlying22 w' ) ?_
              refine yS (by kernel_rfl : opAt F21.o13 3 = some (some 36, .binOp .eql 3 (.tmp 35) (.const (.int .i64 0)) 3, none)) rfl rfl (fun w' hS => val_F (val_eql rfl rfl) hA) ?_
              refine yS (by kernel_rfl : opAt F21.o13 4 = some (some 37, .move (.tmp 36), none)) rfl rfl (fun w' hS => val_move rfl) ?_
              refine yS (by kernel_rfl : opAt F21.o13 5 = some (some 38, .move (.tmp 7), (some (4, false)))) rfl rfl (fun w' hS => val_move rfl) ?_
              refine yS (by kernel_rfl : opAt F21.o13 6 = some (some 39, .binOp .gtr 3 (.tmp 38) (.const (.int .i64 0)) 3, (some (4, false)))) rfl rfl (fun w' hS => val_F (val_gtr rfl rfl) hB) ?_
              refine yS (by kernel_rfl : opAt F21.o13 7 = some (some 40, .move (.tmp 39), (some (4, false)))) rfl rfl (fun w' hS => val_move rfl) ?_
              refine pS (by kernel_rfl : opAt F21.o13 8 = some (some 41, .move (.tmp 0), (some (7, true)))) rfl rfl ?_
              refine pS (by kernel_rfl : opAt F21.o13 9 = some (some 42, .move (.tmp 7), (some (7, true)))) rfl rfl ?_
              refine pS (by kernel_rfl : opAt F21.o13 10 = some (some 43, .binOp .sub 3 (.tmp 42) (.const (.int .i64 1)) 3, (some (7, true)))) rfl rfl ?_
              refine pS (by kernel_rfl : opAt F21.o13 11 = some (some 44, .indexAddr 39 (.tmp 41) (.tmp 43), (some (7, true)))) rfl rfl ?_
              refine pS (by kernel_rfl : opAt F21.o13 12 = some (some 45, .fieldAddr 44 (.tmp 44) 0, (some (7, true)))) rfl rfl ?_
              refine pS (by kernel_rfl : opAt F21.o13 13 = some (some 46, .load 42 (.tmp 45), (some (7, true)))) rfl rfl ?_
              refine pS (by kernel_rfl : opAt F21.o13 14 = some (some 47, .fieldAddr 44 (.tmp 8) 0, (some (7, true)))) rfl rfl ?_
              refine pS (by kernel_rfl : opAt F21.o13 15 = some (some 48, .load 42 (.tmp 47), (some (7, true)))) rfl rfl ?_
              refine pS (by kernel_rfl : opAt F21.o13 16 = some (some 49, .binOp .geq 42 (.tmp 46) (.tmp 48) 42, (some (7, true)))) rfl rfl ?_
              refine yS (by kernel_rfl : opAt F21.o13 17 = some (some 50, .pick (.tmp 40) (.tmp 49) (.const (.bool false)), (some (4, false)))) rfl rfl (fun w' hS => val_pick_f rfl rfl) ?_
              refine yS (by kernel_rfl : opAt F21.o13 18 = some (some 51, .pick (.tmp 37) (.const (.bool true)) (.tmp 50), none)) rfl rfl (fun w' hS => val_pick_f rfl rfl) ?_
              exact Sch.nil (hcut _ _ _ hcs rfl (by (obtain rfl : i = 0 := by omega); subst hph; simp [badB, overB, lastH]; simpa using hA) (sub_skip rfl (sub_skip rfl (sub_skip rfl (sub_skip rfl (sub_skip rfl (sub_skip rfl (sub_skip rfl (sub_skip rfl (sub_skip rfl (sub_skip rfl (sub_skip rfl (sub_skip rfl (sub_skip rfl (sub_skip rfl (sub_skip rfl (sub_skip rfl (sub_skip rfl (sub_skip rfl (sub_skip rfl (Sub.refl _)))))))))))))))))))))
        intro w10 hs
        replace hF := hF.st hs
        replace hT := hT.trans hs (by simp)
        replace hl := hl.st hs (by first | decide | (simp <;> omega))
        replace hu := hu.st hs (by first | decide | (simp <;> omega))
        replace h31 := h31.st hs (by first | decide | (simp <;> omega))
        replace gu32 := gu32.st hs (by first | decide | (simp <;> omega))
        replace hx := hx.st hs (by first | decide | (simp <;> omega))
        refine run_cond (x := F21.c50) (y := F21.c53) (o := .tmp 51) (by kernel_rfl) rfl (fun h51 => ?_) (fun h51 => ?_)
        · skip
          have hfail := foldl_fails bStep bStep_none (some (none, [])) l i hil (by rw [hfold]; simp only [bStep, h51, if_true])
          have hcs : checkS l = 12 := by unfold checkS; rw [if_neg h24, hfail]; rfl
          refine run_seq (x := F21.c51) (y := F21.c52) (by kernel_rfl) ?_
          refine run_plain (id := 14) (ops := F21.o14) [(0, true)] (by kernel_rfl) (by kernel_rfl) ?_
          refine yS (by kernel_rfl : opAt F21.o14 0 = some (some 2, .assign (.const (.int .i64 12)), none)) rfl rfl (fun w' hS => val_assign rfl) ?_
          refine Sch.nil ?_
          refine run_ret1 (by kernel_rfl) Try.func21 Try.results21 rfl ?_
          have hout := hT.out1 (by decide)
          exact ⟨by rw [hcs], hout⟩
        · skip
          refine run_skip (by kernel_rfl) ?_
          refine run_seq (x := F21.c55) (y := F21.c56) (by kernel_rfl) ?_
          refine run_plain (id := 15) (ops := F21.o15) [(0, true), (1, false), (2, true), (3, true)] (by kernel_rfl) (by kernel_rfl) ?_
          refine yS (by kernel_rfl : opAt F21.o15 0 = some (some 52, .fieldAddr 44 (.tmp 8) 1, none)) rfl rfl (fun w' hS => val_fieldAddr (off := 1) (by kernel_rfl) rfl) ?_
          refine nS (by kernel_rfl : opAt F21.o15 1 = some (some 53, .load 22 (.tmp 52), none)) rfl rfl trivial (val_loadOwn hx.at_ (by kernel_rfl) rfl rfl) ?_
          refine yS (by kernel_rfl : opAt F21.o15 2 = some (some 54, .call { callee := .builtin .len, args := #[(.tmp 53)], argTypes := #[22] }, none)) rfl rfl (fun w' hS => gu32.lenV rfl Try.underlying22 w' ) ?_
          refine yS (by kernel_rfl : opAt F21.o15 3 = some (some 55, .move (.const (.int .i64 0)), none)) rfl rfl (fun w' hS => val_move rfl) ?_
          refine Sch.nil ?_
          refine run_block (x := F21.c57) (id := 4) (by kernel_rfl) ?_
          have next0 := next
          clear next
          refine run_loop (ι := Nat × (Nat → Nat) × Option Int × Used) (I := fun x w => x.1 ≤ (l[i]'hil).ids.length ∧ Lim w x.2.1 ∧ Stp [2, 3, 4, 5, 6, 7, 8, 9] w₀ (col1 C) w x.2.1 ∧ RV w (Mc x.2.1) l vl ∧ OwnM w x.2.1 3 bm kvI vvB x.2.2.2 ∧ RV w (Mc x.2.1) (l[i]'hil).ids u32 ∧ OwnB w x.2.1 4 bw5 (.cells [.int .u64 (l[i]'hil).hash, u32].toArray 44) ∧ ((l[i]'hil).ids.take x.1).foldl idStep (some (none, u)) = some (x.2.2.1, x.2.2.2) ∧ x.2.2.1 = lastI (l[i]'hil).ids x.1) (e := fun x => [(0, vl), (6, .map (some bm)), (7, .int .i64 i), (8, .pointer (some ⟨bw5, 0, none⟩)), (26, vl), (27, .int .i64 l.length), (28, .int .i64 i), (53, u32), (54, (.int .i64 (l[i]'hil).ids.length)), (55, .int .i64 x.1)]) (m := fun x => (l[i]'hil).ids.length - x.1) (x₀ := (0, Cw5, none, u)) (body := F21.c58) (by kernel_rfl) (sub_cons 0 rfl rfl (sub_cons 6 rfl rfl (sub_cons 7 rfl rfl (sub_cons 8 rfl rfl (sub_cons 26 rfl rfl (sub_cons 27 rfl rfl (sub_cons 28 rfl rfl (sub_cons 53 rfl rfl (sub_cons 54 rfl rfl (sub_cons 55 rfl rfl (sub_nil _))))))))))) ?_ ?_
          · exact ⟨Nat.zero_le _, hF, hT, hl, hu, gu32, hx, rfl, rfl⟩
          intro ⟨k, Ck, pv, uk⟩ w11 hI next
          obtain ⟨hk, hF, hT, hl, hu, gu32, hx, hfk, hpv⟩ := hI
          simp only at hk hF hT hl hu gu32 hx hfk hpv
          show Run _ _ _ _ [(0, vl), (6, .map (some bm)), (7, .int .i64 (i : Int)), (8, .pointer (some ⟨bw5, 0, none⟩)), (26, vl), (27, .int .i64 l.length), (28, .int .i64 (i : Int)), (53, u32), (54, .int .i64 (l[i]'hil).ids.length), (55, .int .i64 (k : Int))] _ _
          have hkk := gu32.le
          refine run_seq (x := F21.c59) (y := F21.c60) (by kernel_rfl) ?_
          refine run_plain (id := 16) (ops := F21.o16) [(0, true)] (by kernel_rfl) (by kernel_rfl) ?_
          refine yS (by kernel_rfl : opAt F21.o16 0 = some (some 56, .binOp .lss 3 (.tmp 55) (.tmp 54) 3, none)) rfl rfl (fun w' hS => val_lss rfl rfl) ?_
          refine Sch.nil ?_
          refine run_seq (x := F21.c61) (y := F21.c64) (by kernel_rfl) ?_
          refine run_if (x := F21.c62) (y := F21.c63) (o := .tmp 56) (by kernel_rfl) rfl (fun h56 => ?_) (fun h56 => ?_)
          · skip
            have hkl : k < (l[i]'hil).ids.length := by omega
            refine run_skip (by kernel_rfl) ?_
            refine run_seq (x := F21.c65) (y := F21.c77) (by kernel_rfl) ?_
            refine run_block (x := F21.c66) (id := 5) (by kernel_rfl) ?_
            refine run_seq (x := F21.c67) (y := F21.c68) (by kernel_rfl) ?_
            refine run_plain (id := 17) (ops := F21.o17) [(0, true), (1, true), (2, false), (3, true), (4, true)] (by kernel_rfl) (by kernel_rfl) ?_
            refine yS (by kernel_rfl : opAt F21.o17 0 = some (some 57, .move (.tmp 55), none)) rfl rfl (fun w' hS => val_move rfl) ?_
            refine iS (e := 3) (by kernel_rfl : opAt F21.o17 1 = some (some 58, .indexAddr 22 (.tmp 53) (.tmp 55), none)) rfl rfl gu32 rfl (by kernel_rfl) rfl (by omega) (by omega) ?_
            intro b58 o58 h58
            try simp only [Int.toNat_natCast] at h58
            refine lN (by kernel_rfl : opAt F21.o17 2 = some (some 59, .load 3 (.tmp 58), none)) rfl rfl trivial h58 (by kernel_rfl) rfl rfl ?_
            intro v59 g59
            first | (obtain rfl := rv_nat.1 g59) | (obtain rfl := rv_int.1 g59)
            refine yS (by kernel_rfl : opAt F21.o17 3 = some (some 9, .assign (.tmp 57), none)) rfl rfl (fun w' hS => val_assign rfl) ?_
            refine yS (by kernel_rfl : opAt F21.o17 4 = some (some 10, .assign (.tmp 59), none)) rfl rfl (fun w' hS => val_assign rfl) ?_
            refine Sch.nil ?_
            refine run_seq (x := F21.c69) (y := F21.c76) (by kernel_rfl) ?_
            refine run_seq (x := F21.c70) (y := F21.c71) (by kernel_rfl) ?_
            refine run_cut 84 (badI pv uk ((l[i]'hil).ids[k]'hkl)) (Ck) ?_ ?_
            · intro hcut
              by_cases hA : ((l[i]'hil).ids[k]'hkl) < 1
              · skip
                refine run_plain (id := 18) (ops := F21.o18) [(0, true), (1, true), (2, true), (3, true), (4, true), (5, true), (6, true), (7, true), (8, true), (9, false), (10, true), (11, true), (12, true), (13, true), (14, true), (15, true), (16, false), (17, true), (18, true), (19, true), (20, false), (21, true), (22, true), (23, true), (24, true)] (by kernel_rfl) (by kernel_rfl) ?_
                have hcs := Stp.reflF hF
                refine yS (by kernel_rfl : opAt F21.o18 0 = some (some 60, .move (.tmp 10), none)) rfl rfl (fun w' hS => val_move rfl) ?_
                refine yS (by kernel_rfl : opAt F21.o18 1 = some (some 61, .binOp .lss 3 (.tmp 60) (.const (.int .i64 1)) 3, none)) rfl rfl (fun w' hS => val_T (val_lss rfl rfl) hA) ?_
                refine yS (by kernel_rfl : opAt F21.o18 2 = some (some 62, .move (.tmp 61), none)) rfl rfl (fun w' hS => val_move rfl) ?_
                refine pS (by kernel_rfl : opAt F21.o18 3 = some (some 63, .move (.tmp 10), (some (2, false)))) rfl rfl ?_
                refine pS (by kernel_rfl : opAt F21.o18 4 = some (some 64, .binOp .gtr 3 (.tmp 63) (.const (.int .i64 1048576)) 3, (some (2, false)))) rfl rfl ?_
                refine yS (by kernel_rfl : opAt F21.o18 5 = some (some 65, .pick (.tmp 62) (.const (.bool true)) (.tmp 64), none)) rfl rfl (fun w' hS => val_pick_t rfl rfl) ?_
                refine yS (by kernel_rfl : opAt F21.o18 6 = some (some 66, .move (.tmp 65), none)) rfl rfl (fun w' hS => val_move rfl) ?_
                refine pS (by kernel_rfl : opAt F21.o18 7 = some (some 67, .move (.tmp 6), (some (6, false)))) rfl rfl ?_
                refine pS (by kernel_rfl : opAt F21.o18 8 = some (some 68, .move (.tmp 10), (some (6, false)))) rfl rfl ?_
                refine pW (by kernel_rfl : opAt F21.o18 9 = some (some 69, .lookup 66 (.tmp 67) (.tmp 68) false, (some (6, false)))) rfl rfl trivial ?_
                refine yS (by kernel_rfl : opAt F21.o18 10 = some (some 70, .pick (.tmp 66) (.const (.bool true)) (.tmp 69), none)) rfl rfl (fun w' hS => val_pick_t rfl rfl) ?_
                refine yS (by kernel_rfl : opAt F21.o18 11 = some (some 71, .move (.tmp 70), none)) rfl rfl (fun w' hS => val_move rfl) ?_
                refine pS (by kernel_rfl : opAt F21.o18 12 = some (some 72, .move (.tmp 9), (some (11, false)))) rfl rfl ?_
                refine pS (by kernel_rfl : opAt F21.o18 13 = some (some 73, .binOp .gtr 3 (.tmp 72) (.const (.int .i64 0)) 3, (some (11, false)))) rfl rfl ?_
                refine pS (by kernel_rfl : opAt F21.o18 14 = some (some 74, .move (.tmp 73), (some (11, false)))) rfl rfl ?_
                refine pS (by kernel_rfl : opAt F21.o18 15 = some (some 75, .fieldAddr 44 (.tmp 8) 1, (some (14, true)))) rfl rfl ?_
                refine pW (by kernel_rfl : opAt F21.o18 16 = some (some 76, .load 22 (.tmp 75), (some (14, true)))) rfl rfl trivial ?_
                refine pS (by kernel_rfl : opAt F21.o18 17 = some (some 77, .move (.tmp 9), (some (14, true)))) rfl rfl ?_
                refine pS (by kernel_rfl : opAt F21.o18 18 = some (some 78, .binOp .sub 3 (.tmp 77) (.const (.int .i64 1)) 3, (some (14, true)))) rfl rfl ?_
                refine pS (by kernel_rfl : opAt F21.o18 19 = some (some 79, .indexAddr 22 (.tmp 76) (.tmp 78), (some (14, true)))) rfl rfl ?_
                refine pW (by kernel_rfl : opAt F21.o18 20 = some (some 80, .load 3 (.tmp 79), (some (14, true)))) rfl rfl trivial ?_
                refine pS (by kernel_rfl : opAt F21.o18 21 = some (some 81, .move (.tmp 10), (some (14, true)))) rfl rfl ?_
                refine pS (by kernel_rfl : opAt F21.o18 22 = some (some 82, .binOp .geq 3 (.tmp 80) (.tmp 81) 3, (some (14, true)))) rfl rfl ?_
                refine pS (by kernel_rfl : opAt F21.o18 23 = some (some 83, .pick (.tmp 74) (.tmp 82) (.const (.bool false)), (some (11, false)))) rfl rfl ?_
                refine yS (by kernel_rfl : opAt F21.o18 24 = some (some 84, .pick (.tmp 71) (.const (.bool true)) (.tmp 83), none)) rfl rfl (fun w' hS => val_pick_t rfl rfl) ?_
                exact Sch.nil (hcut _ _ _ hcs rfl (by simp [badI, hA]) (sub_skip rfl (sub_skip rfl (sub_skip rfl (sub_skip rfl (sub_skip rfl (sub_skip rfl (sub_skip rfl (sub_skip rfl (sub_skip rfl (sub_skip rfl (sub_skip rfl (sub_skip rfl (sub_skip rfl (sub_skip rfl (sub_skip rfl (sub_skip rfl (sub_skip rfl (sub_skip rfl (sub_skip rfl (sub_skip rfl (sub_skip rfl (sub_skip rfl (sub_skip rfl (sub_skip rfl (sub_skip rfl (Sub.refl _)))))))))))))))))))))))))))
              · skip
                by_cases hB : 1048576 < ((l[i]'hil).ids[k]'hkl)
                · skip
                  refine run_plain (id := 18) (ops := F21.o18) [(0, true), (1, true), (2, true), (3, true), (4, true), (5, true), (6, true), (7, true), (8, true), (9, false), (10, true), (11, true), (12, true), (13, true), (14, true), (15, true), (16, false), (17, true), (18, true), (19, true), (20, false), (21, true), (22, true), (23, true), (24, true)] (by kernel_rfl) (by kernel_rfl) ?_
                  have hcs := Stp.reflF hF
                  refine yS (by kernel_rfl : opAt F21.o18 0 = some (some 60, .move (.tmp 10), none)) rfl rfl (fun w' hS => val_move rfl) ?_
                  refine yS (by kernel_rfl : opAt F21.o18 1 = some (some 61, .binOp .lss 3 (.tmp 60) (.const (.int .i64 1)) 3, none)) rfl rfl (fun w' hS => val_F (val_lss rfl rfl) hA) ?_
                  refine yS (by kernel_rfl : opAt F21.o18 2 = some (some 62, .move (.tmp 61), none)) rfl rfl (fun w' hS => val_move rfl) ?_
                  refine yS (by kernel_rfl : opAt F21.o18 3 = some (some 63, .move (.tmp 10), (some (2, false)))) rfl rfl (fun w' hS => val_move rfl) ?_
                  refine yS (by kernel_rfl : opAt F21.o18 4 = some (some 64, .binOp .gtr 3 (.tmp 63) (.const (.int .i64 1048576)) 3, (some (2, false)))) rfl rfl (fun w' hS => val_T (val_gtr rfl rfl) hB) ?_
                  refine yS (by kernel_rfl : opAt F21.o18 5 = some (some 65, .pick (.tmp 62) (.const (.bool true)) (.tmp 64), none)) rfl rfl (fun w' hS => val_pick_f rfl rfl) ?_
                  refine yS (by kernel_rfl : opAt F21.o18 6 = some (some 66, .move (.tmp 65), none)) rfl rfl (fun w' hS => val_move rfl) ?_
                  refine pS (by kernel_rfl : opAt F21.o18 7 = some (some 67, .move (.tmp 6), (some (6, false)))) rfl rfl ?_
                  refine pS (by kernel_rfl : opAt F21.o18 8 = some (some 68, .move (.tmp 10), (some (6, false)))) rfl rfl ?_
                  refine pW (by kernel_rfl : opAt F21.o18 9 = some (some 69, .lookup 66 (.tmp 67) (.tmp 68) false, (some (6, false)))) rfl rfl trivial ?_
                  refine yS (by kernel_rfl : opAt F21.o18 10 = some (some 70, .pick (.tmp 66) (.const (.bool true)) (.tmp 69), none)) rfl rfl (fun w' hS => val_pick_t rfl rfl) ?_
                  refine yS (by kernel_rfl : opAt F21.o18 11 = some (some 71, .move (.tmp 70), none)) rfl rfl (fun w' hS => val_move rfl) ?_
                  refine pS (by kernel_rfl : opAt F21.o18 12 = some (some 72, .move (.tmp 9), (some (11, false)))) rfl rfl ?_
                  refine pS (by kernel_rfl : opAt F21.o18 13 = some (some 73, .binOp .gtr 3 (.tmp 72) (.const (.int .i64 0)) 3, (some (11, false)))) rfl rfl ?_
                  refine pS (by kernel_rfl : opAt F21.o18 14 = some (some 74, .move (.tmp 73), (some (11, false)))) rfl rfl ?_
                  refine pS (by kernel_rfl : opAt F21.o18 15 = some (some 75, .fieldAddr 44 (.tmp 8) 1, (some (14, true)))) rfl rfl ?_
                  refine pW (by kernel_rfl : opAt F21.o18 16 = some (some 76, .load 22 (.tmp 75), (some (14, true)))) rfl rfl trivial ?_
                  refine pS (by kernel_rfl : opAt F21.o18 17 = some (some 77, .move (.tmp 9), (some (14, true)))) rfl rfl ?_
                  refine pS (by kernel_rfl : opAt F21.o18 18 = some (some 78, .binOp .sub 3 (.tmp 77) (.const (.int .i64 1)) 3, (some (14, true)))) rfl rfl ?_
                  refine pS (by kernel_rfl : opAt F21.o18 19 = some (some 79, .indexAddr 22 (.tmp 76) (.tmp 78), (some (14, true)))) rfl rfl ?_
                  refine pW (by kernel_rfl : opAt F21.o18 20 = some (some 80, .load 3 (.tmp 79), (some (14, true)))) rfl rfl trivial ?_
                  refine pS (by kernel_rfl : opAt F21.o18 21 = some (some 81, .move (.tmp 10), (some (14, true)))) rfl rfl ?_
                  refine pS (by kernel_rfl : opAt F21.o18 22 = some (some 82, .binOp .geq 3 (.tmp 80) (.tmp 81) 3, (some (14, true)))) rfl rfl ?_
                  refine pS (by kernel_rfl : opAt F21.o18 23 = some (some 83, .pick (.tmp 74) (.tmp 82) (.const (.bool false)), (some (11, false)))) rfl rfl ?_
                  refine yS (by kernel_rfl : opAt F21.o18 24 = some (some 84, .pick (.tmp 71) (.const (.bool true)) (.tmp 83), none)) rfl rfl (fun w' hS => val_pick_t rfl rfl) ?_
                  exact Sch.nil (hcut _ _ _ hcs rfl (by simp [badI, hB]) (sub_skip rfl (sub_skip rfl (sub_skip rfl (sub_skip rfl (sub_skip rfl (sub_skip rfl (sub_skip rfl (sub_skip rfl (sub_skip rfl (sub_skip rfl (sub_skip rfl (sub_skip rfl (sub_skip rfl (sub_skip rfl (sub_skip rfl (sub_skip rfl (sub_skip rfl (sub_skip rfl (sub_skip rfl (sub_skip rfl (sub_skip rfl (sub_skip rfl (sub_skip rfl (sub_skip rfl (sub_skip rfl (Sub.refl _)))))))))))))))))))))))))))
                · skip
                  by_cases hC : (mget uk ((l[i]'hil).ids[k]'hkl)).getD false = true
                  · skip
                    refine run_plain (id := 18) (ops := F21.o18) [(0, true), (1, true), (2, true), (3, true), (4, true), (5, true), (6, true), (7, true), (8, true), (9, false), (10, true), (11, true), (12, true), (13, true), (14, true), (15, true), (16, false), (17, true), (18, true), (19, true), (20, false), (21, true), (22, true), (23, true), (24, true)] (by kernel_rfl) (by kernel_rfl) ?_
                    have hcs := Stp.reflF hF
                    refine yS (by kernel_rfl : opAt F21.o18 0 = some (some 60, .move (.tmp 10), none)) rfl rfl (fun w' hS => val_move rfl) ?_
                    refine yS (by kernel_rfl : opAt F21.o18 1 = some (some 61, .binOp .lss 3 (.tmp 60) (.const (.int .i64 1)) 3, none)) rfl rfl (fun w' hS => val_F (val_lss rfl rfl) hA) ?_
                    refine yS (by kernel_rfl : opAt F21.o18 2 = some (some 62, .move (.tmp 61), none)) rfl rfl (fun w' hS => val_move rfl) ?_
                    refine yS (by kernel_rfl : opAt F21.o18 3 = some (some 63, .move (.tmp 10), (some (2, false)))) rfl rfl (fun w' hS => val_move rfl) ?_
                    refine yS (by kernel_rfl : opAt F21.o18 4 = some (some 64, .binOp .gtr 3 (.tmp 63) (.const (.int .i64 1048576)) 3, (some (2, false)))) rfl rfl (fun w' hS => val_F (val_gtr rfl rfl) hB) ?_
                    refine yS (by kernel_rfl : opAt F21.o18 5 = some (some 65, .pick (.tmp 62) (.const (.bool true)) (.tmp 64), none)) rfl rfl (fun w' hS => val_pick_f rfl rfl) ?_
                    refine yS (by kernel_rfl : opAt F21.o18 6 = some (some 66, .move (.tmp 65), none)) rfl rfl (fun w' hS => val_move rfl) ?_
                    refine yS (by kernel_rfl : opAt F21.o18 7 = some (some 67, .move (.tmp 6), (some (6, false)))) rfl rfl (fun w' hS => val_move rfl) ?_
                    refine yS (by kernel_rfl : opAt F21.o18 8 = some (some 68, .move (.tmp 10), (some (6, false)))) rfl rfl (fun w' hS => val_move rfl) ?_
                    refine nS (by kernel_rfl : opAt F21.o18 9 = some (some 69, .lookup 66 (.tmp 67) (.tmp 68) false, (some (6, false)))) rfl rfl trivial (val_is (hu.lookup (z0 := false) Try.underlying66 (keyOK_int Try.underlying3) Try.zeroValue4 rfl rfl) (congrArg Value.bool hC)) ?_
                    refine yS (by kernel_rfl : opAt F21.o18 10 = some (some 70, .pick (.tmp 66) (.const (.bool true)) (.tmp 69), none)) rfl rfl (fun w' hS => val_pick_f rfl rfl) ?_
                    refine yS (by kernel_rfl : opAt F21.o18 11 = some (some 71, .move (.tmp 70), none)) rfl rfl (fun w' hS => val_move rfl) ?_
                    refine pS (by kernel_rfl : opAt F21.o18 12 = some (some 72, .move (.tmp 9), (some (11, false)))) rfl rfl ?_
                    refine pS (by kernel_rfl : opAt F21.o18 13 = some (some 73, .binOp .gtr 3 (.tmp 72) (.const (.int .i64 0)) 3, (some (11, false)))) rfl rfl ?_
                    refine pS (by kernel_rfl : opAt F21.o18 14 = some (some 74, .move (.tmp 73), (some (11, false)))) rfl rfl ?_
                    refine pS (by kernel_rfl : opAt F21.o18 15 = some (some 75, .fieldAddr 44 (.tmp 8) 1, (some (14, true)))) rfl rfl ?_
                    refine pW (by kernel_rfl : opAt F21.o18 16 = some (some 76, .load 22 (.tmp 75), (some (14, true)))) rfl rfl trivial ?_
                    refine pS (by kernel_rfl : opAt F21.o18 17 = some (some 77, .move (.tmp 9), (some (14, true)))) rfl rfl ?_
                    refine pS (by kernel_rfl : opAt F21.o18 18 = some (some 78, .binOp .sub 3 (.tmp 77) (.const (.int .i64 1)) 3, (some (14, true)))) rfl rfl ?_
                    refine pS (by kernel_rfl : opAt F21.o18 19 = some (some 79, .indexAddr 22 (.tmp 76) (.tmp 78), (some (14, true)))) rfl rfl ?_
                    refine pW (by kernel_rfl : opAt F21.o18 20 = some (some 80, .load 3 (.tmp 79), (some (14, true)))) rfl rfl trivial ?_
                    refine pS (by kernel_rfl : opAt F21.o18 21 = some (some 81, .move (.tmp 10), (some (14, true)))) rfl rfl ?_
                    refine pS (by kernel_rfl : opAt F21.o18 22 = some (some 82, .binOp .geq 3 (.tmp 80) (.tmp 81) 3, (some (14, true)))) rfl rfl ?_
                    refine pS (by kernel_rfl : opAt F21.o18 23 = some (some 83, .pick (.tmp 74) (.tmp 82) (.const (.bool false)), (some (11, false)))) rfl rfl ?_
                    refine yS (by kernel_rfl : opAt F21.o18 24 = some (some 84, .pick (.tmp 71) (.const (.bool true)) (.tmp 83), none)) rfl rfl (fun w' hS => val_pick_t rfl rfl) ?_
                    exact Sch.nil (hcut _ _ _ hcs rfl (by simp [badI, hC]) (sub_skip rfl (sub_skip rfl (sub_skip rfl (sub_skip rfl (sub_skip rfl (sub_skip rfl (sub_skip rfl (sub_skip rfl (sub_skip rfl (sub_skip rfl (sub_skip rfl (sub_skip rfl (sub_skip rfl (sub_skip rfl (sub_skip rfl (sub_skip rfl (sub_skip rfl (sub_skip rfl (sub_skip rfl (sub_skip rfl (sub_skip rfl (sub_skip rfl (sub_skip rfl (sub_skip rfl (sub_skip rfl (Sub.refl _)))))))))))))))))))))))))))
                  · skip
                    by_cases hD : (0 : Int) < k
                    · skip
                      refine run_plain (id := 18) (ops := F21.o18) [(0, true), (1, true), (2, true), (3, true), (4, true), (5, true), (6, true), (7, true), (8, true), (9, false), (10, true), (11, true), (12, true), (13, true), (14, true), (15, true), (16, false), (17, true), (18, true), (19, true), (20, false), (21, true), (22, true), (23, true), (24, true)] (by kernel_rfl) (by kernel_rfl) ?_
                      have hcs := Stp.reflF hF
                      refine yS (by kernel_rfl : opAt F21.o18 0 = some (some 60, .move (.tmp 10), none)) rfl rfl (fun w' hS => val_move rfl) ?_
                      refine yS (by kernel_rfl : opAt F21.o18 1 = some (some 61, .binOp .lss 3 (.tmp 60) (.const (.int .i64 1)) 3, none)) rfl rfl (fun w' hS => val_F (val_lss rfl rfl) hA) ?_
                      refine yS (by kernel_rfl : opAt F21.o18 2 = some (some 62, .move (.tmp 61), none)) rfl rfl (fun w' hS => val_move rfl) ?_
                      refine yS (by kernel_rfl : opAt F21.o18 3 = some (some 63, .move (.tmp 10), (some (2, false)))) rfl rfl (fun w' hS => val_move rfl) ?_
                      refine yS (by kernel_rfl : opAt F21.o18 4 = some (some 64, .binOp .gtr 3 (.tmp 63) (.const (.int .i64 1048576)) 3, (some (2, false)))) rfl rfl (fun w' hS => val_F (val_gtr rfl rfl) hB) ?_
                      refine yS (by kernel_rfl : opAt F21.o18 5 = some (some 65, .pick (.tmp 62) (.const (.bool true)) (.tmp 64), none)) rfl rfl (fun w' hS => val_pick_f rfl rfl) ?_
                      refine yS (by kernel_rfl : opAt F21.o18 6 = some (some 66, .move (.tmp 65), none)) rfl rfl (fun w' hS => val_move rfl) ?_
                      refine yS (by kernel_rfl : opAt F21.o18 7 = some (some 67, .move (.tmp 6), (some (6, false)))) rfl rfl (fun w' hS => val_move rfl) ?_
                      refine yS (by kernel_rfl : opAt F21.o18 8 = some (some 68, .move (.tmp 10), (some (6, false)))) rfl rfl (fun w' hS => val_move rfl) ?_
                      refine nS (by kernel_rfl : opAt F21.o18 9 = some (some 69, .lookup 66 (.tmp 67) (.tmp 68) false, (some (6, false)))) rfl rfl trivial (val_is (hu.lookup (z0 := false) Try.underlying66 (keyOK_int Try.underlying3) Try.zeroValue4 rfl rfl) (congrArg Value.bool (Bool.eq_false_iff.2 hC))) ?_
                      refine yS (by kernel_rfl : opAt F21.o18 10 = some (some 70, .pick (.tmp 66) (.const (.bool true)) (.tmp 69), none)) rfl rfl (fun w' hS => val_pick_f rfl rfl) ?_
                      refine yS (by kernel_rfl : opAt F21.o18 11 = some (some 71, .move (.tmp 70), none)) rfl rfl (fun w' hS => val_move rfl) ?_
                      refine yS (by kernel_rfl : opAt F21.o18 12 = some (some 72, .move (.tmp 9), (some (11, false)))) rfl rfl (fun w' hS => val_move rfl) ?_
                      refine yS (by kernel_rfl : opAt F21.o18 13 = some (some 73, .binOp .gtr 3 (.tmp 72) (.const (.int .i64 0)) 3, (some (11, false)))) rfl rfl (fun w' hS => val_T (val_gtr rfl rfl) hD) ?_
                      refine yS (by kernel_rfl : opAt F21.o18 14 = some (some 74, .move (.tmp 73), (some (11, false)))) rfl rfl (fun w' hS => val_move rfl) ?_
                      refine yS (by kernel_rfl : opAt F21.o18 15 = some (some 75, .fieldAddr 44 (.tmp 8) 1, (some (14, true)))) rfl rfl (fun w' hS => val_fieldAddr (off := 1) (by kernel_rfl) rfl) ?_
                      refine nS (by kernel_rfl : opAt F21.o18 16 = some (some 76, .load 22 (.tmp 75), (some (14, true)))) rfl rfl trivial (val_loadOwn hx.at_ (by kernel_rfl) rfl rfl) ?_
                      refine yS (by kernel_rfl : opAt F21.o18 17 = some (some 77, .move (.tmp 9), (some (14, true)))) rfl rfl (fun w' hS => val_move rfl) ?_
                      refine yS (by kernel_rfl : opAt F21.o18 18 = some (some 78, .binOp .sub 3 (.tmp 77) (.const (.int .i64 1)) 3, (some (14, true)))) rfl rfl (fun w' hS => val_subi rfl rfl (by omega) (by omega)) ?_
                      refine iS (e := 3) (by kernel_rfl : opAt F21.o18 19 = some (some 79, .indexAddr 22 (.tmp 76) (.tmp 78), (some (14, true)))) rfl rfl gu32 rfl (by kernel_rfl) rfl (by omega) (by omega) ?_
                      intro b79 o79 h79
                      try simp only [Int.toNat_natCast] at h79
                      refine lN (by kernel_rfl : opAt F21.o18 20 = some (some 80, .load 3 (.tmp 79), (some (14, true)))) rfl rfl trivial h79 (by kernel_rfl) rfl rfl ?_
                      intro v80 g80
                      first | (obtain rfl := rv_nat.1 g80) | (obtain rfl := rv_int.1 g80)
                      refine yS (by kernel_rfl : opAt F21.o18 21 = some (some 81, .move (.tmp 10), (some (14, true)))) rfl rfl (fun w' hS => val_move rfl) ?_
                      refine yS (by kernel_rfl : opAt F21.o18 22 = some (some 82, .binOp .geq 3 (.tmp 80) (.tmp 81) 3, (some (14, true)))) rfl rfl (fun w' hS => val_geq rfl rfl) ?_
                      refine yS (by kernel_rfl : opAt F21.o18 23 = some (some 83, .pick (.tmp 74) (.tmp 82) (.const (.bool false)), (some (11, false)))) rfl rfl (fun w' hS => val_pick_t rfl rfl) ?_
                      refine yS (by kernel_rfl : opAt F21.o18 24 = some (some 84, .pick (.tmp 71) (.const (.bool true)) (.tmp 83), none)) rfl rfl (fun w' hS => val_pick_f rfl rfl) ?_
                      exact Sch.nil (hcut _ _ _ hcs rfl (by rw [hpv, lastI_pos _ (by omega) hk]; simp only [badI, overB, decide_eq_false hA, decide_eq_false hB, Bool.eq_false_iff.2 hC, Bool.false_or]; congr 3; simp only [show ((k : Int) - 1).toNat = k - 1 from by omega]) (sub_skip rfl (sub_skip rfl (sub_skip rfl (sub_skip rfl (sub_skip rfl (sub_skip rfl (sub_skip rfl (sub_skip rfl (sub_skip rfl (sub_skip rfl (sub_skip rfl (sub_skip rfl (sub_skip rfl (sub_skip rfl (sub_skip rfl (sub_skip rfl (sub_skip rfl (sub_skip rfl (sub_skip rfl (sub_skip rfl (sub_skip rfl (sub_skip rfl (sub_skip rfl (sub_skip rfl (sub_skip rfl (Sub.refl _)))))))))))))))))))))))))))
                    · skip
                      refine run_plain (id := 18) (ops := F21.o18) [(0, true), (1, true), (2, true), (3, true), (4, true), (5, true), (6, true), (7, true), (8, true), (9, false), (10, true), (11, true), (12, true), (13, true), (14, true), (15, true), (16, false), (17, true), (18, true), (19, true), (20, false), (21, true), (22, true), (23, true), (24, true)] (by kernel_rfl) (by kernel_rfl) ?_
                      have hcs := Stp.reflF hF
                      refine yS (by kernel_rfl : opAt F21.o18 0 = some (some 60, .move (.tmp 10), none)) rfl rfl (fun w' hS => val_move rfl) ?_
                      refine yS (by kernel_rfl : opAt F21.o18 1 = some (some 61, .binOp .lss 3 (.tmp 60) (.const (.int .i64 1)) 3, none)) rfl rfl (fun w' hS => val_F (val_lss rfl rfl) hA) ?_
                      refine yS (by kernel_rfl : opAt F21.o18 2 = some (some 62, .move (.tmp 61), none)) rfl rfl (fun w' hS => val_move rfl) ?_
                      refine yS (by kernel_rfl : opAt F21.o18 3 = some (some 63, .move (.tmp 10), (some (2, false)))) rfl rfl (fun w' hS => val_move rfl) ?_
                      refine yS (by kernel_rfl : opAt F21.o18 4 = some (some 64, .binOp .gtr 3 (.tmp 63) (.const (.int .i64 1048576)) 3, (some (2, false)))) rfl rfl (fun w' hS => val_F (val_gtr rfl rfl) hB) ?_
                      refine yS (by kernel_rfl : opAt F21.o18 5 = some (some 65, .pick (.tmp 62) (.const (.bool true)) (.tmp 64), none)) rfl rfl (fun w' hS => val_pick_f rfl rfl) ?_
                      refine yS (by kernel_rfl : opAt F21.o18 6 = some (some 66, .move (.tmp 65), none)) rfl rfl (fun w' hS => val_move rfl) ?_
                      refine yS (by kernel_rfl : opAt F21.o18 7 = some (some 67, .move (.tmp 6), (some (6, false)))) rfl rfl (fun w' hS => val_move rfl) ?_
                      refine yS (by kernel_rfl : opAt F21.o18 8 = some (some 68, .move (.tmp 10), (some (6, false)))) rfl rfl (fun w' hS => val_move rfl) ?_
                      refine nS (by kernel_rfl : opAt F21.o18 9 = some (some 69, .lookup 66 (.tmp 67) (.tmp 68) false, (some (6, false)))) rfl rfl trivial (val_is (hu.lookup (z0 := false) Try.underlying66 (keyOK_int Try.underlying3) Try.zeroValue4 rfl rfl) (congrArg Value.bool (Bool.eq_false_iff.2 hC))) ?_
                      refine yS (by kernel_rfl : opAt F21.o18 10 = some (some 70, .pick (.tmp 66) (.const (.bool true)) (.tmp 69), none)) rfl rfl (fun w' hS => val_pick_f rfl rfl) ?_
                      refine yS (by kernel_rfl : opAt F21.o18 11 = some (some 71, .move (.tmp 70), none)) rfl rfl (fun w' hS => val_move rfl) ?_
                      refine yS (by kernel_rfl : opAt F21.o18 12 = some (some 72, .move (.tmp 9), (some (11, false)))) rfl rfl (fun w' hS => val_move rfl) ?_
                      refine yS (by kernel_rfl : opAt F21.o18 13 = some (some 73, .binOp .gtr 3 (.tmp 72) (.const (.int .i64 0)) 3, (some (11, false)))) rfl rfl (fun w' hS => val_F (val_gtr rfl rfl) hD) ?_
                      refine yS (by kernel_rfl : opAt F21.o18 14 = some (some 74, .move (.tmp 73), (some (11, false)))) rfl rfl (fun w' hS => val_move rfl) ?_
                      refine pS (by kernel_rfl : opAt F21.o18 15 = some (some 75, .fieldAddr 44 (.tmp 8) 1, (some (14, true)))) rfl rfl ?_
                      refine pW (by kernel_rfl : opAt F21.o18 16 = some (some 76, .load 22 (.tmp 75), (some (14, true)))) rfl rfl trivial ?_
                      refine pS (by kernel_rfl : opAt F21.o18 17 = some (some 77, .move (.tmp 9), (some (14, true)))) rfl rfl ?_
                      refine pS (by kernel_rfl : opAt F21.o18 18 = some (some 78, .binOp .sub 3 (.tmp 77) (.const (.int .i64 1)) 3, (some (14, true)))) rfl rfl ?_
                      refine pS (by kernel_rfl : opAt F21.o18 19 = some (some 79, .indexAddr 22 (.tmp 76) (.tmp 78), (some (14, true)))) rfl rfl ?_
                      refine pW (by kernel_rfl : opAt F21.o18 20 = some (some 80, .load 3 (.tmp 79), (some (14, true)))) rfl rfl trivial ?_
                      refine pS (by kernel_rfl : opAt F21.o18 21 = some (some 81, .move (.tmp 10), (some (14, true)))) rfl rfl ?_
                      refine pS (by kernel_rfl : opAt F21.o18 22 = some (some 82, .binOp .geq 3 (.tmp 80) (.tmp 81) 3, (some (14, true)))) rfl rfl ?_
                      refine yS (by kernel_rfl : opAt F21.o18 23 = some (some 83, .pick (.tmp 74) (.tmp 82) (.const (.bool false)), (some (11, false)))) rfl rfl (fun w' hS => val_pick_f rfl rfl) ?_
                      refine yS (by kernel_rfl : opAt F21.o18 24 = some (some 84, .pick (.tmp 71) (.const (.bool true)) (.tmp 83), none)) rfl rfl (fun w' hS => val_pick_f rfl rfl) ?_
                      exact Sch.nil (hcut _ _ _ hcs rfl (by (obtain rfl : k = 0 := by omega); subst hpv; simp [badI, hA, hB, hC, overB, lastI]) (sub_skip rfl (sub_skip rfl (sub_skip rfl (sub_skip rfl (sub_skip rfl (sub_skip rfl (sub_skip rfl (sub_skip rfl (sub_skip rfl (sub_skip rfl (sub_skip rfl (sub_skip rfl (sub_skip rfl (sub_skip rfl (sub_skip rfl (sub_skip rfl (sub_skip rfl (sub_skip rfl (sub_skip rfl (sub_skip rfl (sub_skip rfl (sub_skip rfl (sub_skip rfl (sub_skip rfl (sub_skip rfl (Sub.refl _)))))))))))))))))))))))))))
            intro w12 hs
            replace hF := hF.st hs
            replace hT := hT.trans hs (by simp)
            replace hl := hl.st hs (by first | decide | (simp <;> omega))
            replace hu := hu.st hs (by first | decide | (simp <;> omega))
            replace gu32 := gu32.st hs (by first | decide | (simp <;> omega))
            replace hx := hx.st hs (by first | decide | (simp <;> omega))
            replace h58 := h58.st hs (by first | decide | (simp <;> omega))
            refine run_cond (x := F21.c72) (y := F21.c75) (o := .tmp 84) (by kernel_rfl) rfl (fun h84 => ?_) (fun h84 => ?_)
            · skip
              have hfail := foldl_fails idStep idStep_none (some (none, u)) (l[i]'hil).ids k hkl (by rw [hfk]; simp only [idStep, h84, if_true])
              have hfail2 := foldl_fails bStep bStep_none (some (none, [])) l i hil (by rw [hfold]; simp only [bStep, h51, hfail]; rfl)
              have hcs : checkS l = 12 := by unfold checkS; rw [if_neg h24, hfail2]; rfl
              refine run_seq (x := F21.c73) (y := F21.c74) (by kernel_rfl) ?_
              refine run_plain (id := 19) (ops := F21.o19) [(0, true)] (by kernel_rfl) (by kernel_rfl) ?_
              refine yS (by kernel_rfl : opAt F21.o19 0 = some (some 2, .assign (.const (.int .i64 12)), none)) rfl rfl (fun w' hS => val_assign rfl) ?_
              refine Sch.nil ?_
              refine run_ret1 (by kernel_rfl) Try.func21 Try.results21 rfl ?_
              have hout := hT.out1 (by decide)
              exact ⟨by rw [hcs], hout⟩
            · skip
              refine run_skip (by kernel_rfl) ?_
              refine run_plain (id := 20) (ops := F21.o20) [(0, true), (1, true), (2, false)] (by kernel_rfl) (by kernel_rfl) ?_
              refine yS (by kernel_rfl : opAt F21.o20 0 = some (some 85, .move (.tmp 6), none)) rfl rfl (fun w' hS => val_move rfl) ?_
              refine yS (by kernel_rfl : opAt F21.o20 1 = some (some 86, .move (.tmp 10), none)) rfl rfl (fun w' hS => val_move rfl) ?_
              refine aN (by kernel_rfl : opAt F21.o20 2 = some (none, .mapUpdate 66 (.tmp 85) (.tmp 86) (.const (.bool true)), none)) rfl (a_mapUpdate (u := true) hu Try.underlying66 (keyOK_int Try.underlying3) rfl rfl rfl) ?_
              rintro _ wu ⟨rfl, hs, hu⟩
              refine ⟨trivial, ?_⟩
              replace hF := hF.st hs
              replace hT := hT.trans hs (by simp)
              replace hl := hl.st hs (by first | decide | (simp <;> omega))
              replace gu32 := gu32.st hs (by first | decide | (simp <;> omega))
              replace hx := hx.st hs (by first | decide | (simp <;> omega))
              replace h58 := h58.st hs (by first | decide | (simp <;> omega))
              refine Sch.nil ?_
              refine run_inBlock ?_
              refine run_plain (id := 21) (ops := F21.o21) [(0, true), (1, true)] (by kernel_rfl) (by kernel_rfl) ?_
              refine yS (by kernel_rfl : opAt F21.o21 0 = some (some 87, .binOp .add 3 (.tmp 55) (.const (.int .i64 1)) 3, none)) rfl rfl (fun w' hS => val_addi rfl rfl (by omega) (by omega)) ?_
              refine yS (by kernel_rfl : opAt F21.o21 1 = some (some 55, .move (.tmp 87), none)) rfl rfl (fun w' hS => val_move rfl) ?_
              refine Sch.nil ?_
              refine kp ?_ (next (k + 1, Ck, some ((l[i]'hil).ids[k]'hkl), mput uk ((l[i]'hil).ids[k]'hkl) true) _ ⟨by simp only; omega, hF, hT, hl, hu, gu32, hx, ?_, ?_⟩ (by simp only; omega))
              · exact sub_cons 0 rfl rfl (sub_cons 6 rfl rfl (sub_cons 7 rfl rfl (sub_cons 8 rfl rfl (sub_cons 26 rfl rfl (sub_cons 27 rfl rfl (sub_cons 28 rfl rfl (sub_cons 53 rfl rfl (sub_cons 54 rfl rfl (sub_cons 55 rfl (eq_int (by simp)) (sub_nil _))))))))))
              · simp only; rw [foldl_take idStep _ _ k hkl, hfk]; simp only [idStep, h84]; rfl
              · simp only; rw [lastI_succ _ hkl]
          · skip
            have hkl : k = (l[i]'hil).ids.length := by omega
            refine run_exit (id := 4) (by kernel_rfl) rfl ?_
            refine run_inBlock ?_
            refine run_plain (id := 22) (ops := F21.o22) [(0, true), (1, true)] (by kernel_rfl) (by kernel_rfl) ?_
            refine yS (by kernel_rfl : opAt F21.o22 0 = some (some 88, .binOp .add 3 (.tmp 28) (.const (.int .i64 1)) 3, none)) rfl rfl (fun w' hS => val_addi rfl rfl (by omega) (by omega)) ?_
            refine yS (by kernel_rfl : opAt F21.o22 1 = some (some 28, .move (.tmp 88), none)) rfl rfl (fun w' hS => val_move rfl) ?_
            refine Sch.nil ?_
            subst hkl
            rw [List.take_length] at hfk
            refine kp ?_ (next0 (i + 1, Ck, some (l[i]'hil).hash, uk) _ ⟨by simp only; omega, hF, hT, hl, hu, ?_, ?_⟩ (by simp only; omega))
            · exact sub_cons 0 rfl rfl (sub_cons 6 rfl rfl (sub_cons 26 rfl rfl (sub_cons 27 rfl rfl (sub_cons 28 rfl (eq_int (by simp)) (sub_nil _)))))
            · simp only; rw [foldl_take bStep _ _ i hil, hfold]; simp only [bStep, h51, hfk]; rfl
            · simp only; rw [lastH_succ _ hil]
      · skip
        have hil : i = l.length := by omega
        refine run_exit (id := 2) (by kernel_rfl) rfl ?_
        refine run_seq (x := F21.c80) (y := F21.c81) (by kernel_rfl) ?_
        refine run_plain (id := 23) (ops := F21.o23) [(0, true)] (by kernel_rfl) (by kernel_rfl) ?_
        refine yS (by kernel_rfl : opAt F21.o23 0 = some (some 2, .assign (.const (.int .i64 0)), none)) rfl rfl (fun w' hS => val_assign rfl) ?_
        refine Sch.nil ?_
        refine run_ret1 (by kernel_rfl) Try.func21 Try.results21 rfl ?_
        have hout := hT.out1 (by decide)
        refine ⟨?_, hout⟩
        subst hil
        rw [List.take_length] at hfold
        unfold checkS; rw [if_neg h24, hfold]; rfl
end Go.Proofs.Ytejbklahkkjmhaa
