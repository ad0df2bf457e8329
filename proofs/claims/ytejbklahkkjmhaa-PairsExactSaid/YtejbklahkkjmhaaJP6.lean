/- Steps through functions of the program. -/
import Derived.Test.YtejbklahkkjmhaaJP5
set_option linter.unusedVariables false
set_option linter.unusedSimpArgs false
set_option maxRecDepth 100000
set_option maxHeartbeats 400000
namespace Go.Proofs.Ytejbklahkkjmhaa
open Go.K Go.K.Rep

namespace F14
noncomputable def c0 : Code := bodyOf Try.f14
noncomputable def c1 : Code := cl c0
noncomputable def o0 : Array Oper := rops c1
noncomputable def c2 : Code := cr c0
noncomputable def c3 : Code := cl c2
noncomputable def o1 : Array Oper := rops c3
noncomputable def c4 : Code := cr c2
noncomputable def c5 : Code := cl c4
noncomputable def o2 : Array Oper := rops c5
noncomputable def c6 : Code := cr c4
end F14
/-- The number of the couples that agree on a key of the mask. -/
theorem union_ok {w₀ : World} {C : Nat → Nat} {a b : List (List Block)} {va vb : Value} {mask : Int} (hF : Lim w₀ C) (ha : RV w₀ (Mc C) a va) (hb : RV w₀ (Mc C) b vb) (hsa : ∀ x ∈ a, total x ≤ 4611686018427387904) (hsb : ∀ x ∈ b, total x ≤ 4611686018427387904) : Calls Try.prog 14 #[va, vb, .int .i64 mask] w₀ (Ret fun v w' => v = .tuple #[.int .i64 (if checkM a b mask ≠ 0 then [] else listS a b mask.toNat).length, .int .i64 (checkM a b mask)] ∧ Stp [] w₀ C w' C) := by
  have hF0 := hF
  have hT := Stp.refl [2, 3, 4, 5, 6, 7, 8, 9] w₀ (col1 C)
  replace hF := hF.col1
  replace ha : RV w₀ (Mc (col1 C)) a va := by rw [Mc_col1]; exact ha
  replace hb : RV w₀ (Mc (col1 C)) b vb := by rw [Mc_col1]; exact hb
  refine calls_start (c := F14.c0) (N := 20) [va, vb, .int .i64 mask] Try.func14 (by kernel_rfl) (by kernel_rfl) (by kernel_rfl) ?_
  show Run _ _ _ _ [(0, va), (1, vb), (2, .int .i64 mask)] _ _
  refine run_seq (x := F14.c1) (y := F14.c2) (by kernel_rfl) ?_
  refine run_plain (id := 0) (ops := F14.o0) [(0, true), (1, true)] (by kernel_rfl) (by kernel_rfl) ?_
  refine yS (by kernel_rfl : opAt F14.o0 0 = some (some 6, .assign (.const (.int .i64 0)), none)) rfl rfl (fun w' hS => val_assign rfl) ?_
  refine yS (by kernel_rfl : opAt F14.o0 1 = some (some 7, .assign (.const (.int .i64 0)), none)) rfl rfl (fun w' hS => val_assign rfl) ?_
  refine Sch.nil ?_
  refine run_seq (x := F14.c3) (y := F14.c4) (by kernel_rfl) ?_
  refine run_plain (id := 1) (ops := F14.o1) [(0, true), (1, true), (2, true), (3, false), (4, true), (5, true), (6, true), (7, true), (8, true)] (by kernel_rfl) (by kernel_rfl) ?_
  refine yS (by kernel_rfl : opAt F14.o1 0 = some (some 11, .move (.tmp 0), none)) rfl rfl (fun w' hS => val_move rfl) ?_
  refine yS (by kernel_rfl : opAt F14.o1 1 = some (some 12, .move (.tmp 1), none)) rfl rfl (fun w' hS => val_move rfl) ?_
  refine yS (by kernel_rfl : opAt F14.o1 2 = some (some 13, .move (.tmp 2), none)) rfl rfl (fun w' hS => val_move rfl) ?_
  refine cS (by kernel_rfl : opAt F14.o1 3 = some (some 14, .call { callee := .value (.func 13), args := #[(.tmp 11), (.tmp 12), (.tmp 13)], argTypes := #[28, 28, 3] }, none)) rfl rfl (ent Try.call13 rfl) (list_ok hF ha hb hsa hsb) ?_
  rintro vw1 w1 ⟨ul, rfl, hs, hl⟩
  refine ⟨trivial, ?_⟩
  replace hF := hF.st hs
  replace hT := hT.trans hs (by simp)
  replace ha := ha.st hs (by first | decide | (simp <;> omega))
  replace hb := hb.st hs (by first | decide | (simp <;> omega))
  refine yS (by kernel_rfl : opAt F14.o1 4 = some (some 10, .move (.tmp 14), none)) rfl rfl (fun w' hS => val_move rfl) ?_
  refine yS (by kernel_rfl : opAt F14.o1 5 = some (some 15, .extract (.tmp 10) 0, none)) rfl rfl (fun w' hS => val_extract rfl rfl) ?_
  refine yS (by kernel_rfl : opAt F14.o1 6 = some (some 16, .extract (.tmp 10) 1, none)) rfl rfl (fun w' hS => val_extract rfl rfl) ?_
  refine yS (by kernel_rfl : opAt F14.o1 7 = some (some 8, .assign (.tmp 15), none)) rfl rfl (fun w' hS => val_assign rfl) ?_
  refine yS (by kernel_rfl : opAt F14.o1 8 = some (some 9, .assign (.tmp 16), none)) rfl rfl (fun w' hS => val_assign rfl) ?_
  refine Sch.nil ?_
  refine run_seq (x := F14.c5) (y := F14.c6) (by kernel_rfl) ?_
  refine run_plain (id := 2) (ops := F14.o2) [(0, true), (1, true), (2, true), (3, true), (4, true)] (by kernel_rfl) (by kernel_rfl) ?_
  refine yS (by kernel_rfl : opAt F14.o2 0 = some (some 17, .move (.tmp 8), none)) rfl rfl (fun w' hS => val_move rfl) ?_
  refine yS (by kernel_rfl : opAt F14.o2 1 = some (some 18, .call { callee := .builtin .len, args := #[(.tmp 17)], argTypes := #[30] }, none)) rfl rfl (fun w' hS => hl.lenV rfl Try.underlying30 w' ) ?_
  refine yS (by kernel_rfl : opAt F14.o2 2 = some (some 19, .move (.tmp 9), none)) rfl rfl (fun w' hS => val_move rfl) ?_
  refine yS (by kernel_rfl : opAt F14.o2 3 = some (some 6, .assign (.tmp 18), none)) rfl rfl (fun w' hS => val_assign rfl) ?_
  refine yS (by kernel_rfl : opAt F14.o2 4 = some (some 7, .assign (.tmp 19), none)) rfl rfl (fun w' hS => val_assign rfl) ?_
  refine Sch.nil ?_
  refine run_ret2 (by kernel_rfl) Try.func14 Try.results14 rfl rfl ?_
  exact ⟨rfl, hT.out1 (by decide)⟩
namespace F18
noncomputable def c0 : Code := bodyOf Try.f18
noncomputable def c1 : Code := cl c0
noncomputable def o0 : Array Oper := rops c1
noncomputable def c2 : Code := cr c0
noncomputable def c3 : Code := cl c2
noncomputable def c4 : Code := cl c3
noncomputable def o1 : Array Oper := rops c4
noncomputable def c5 : Code := cr c3
noncomputable def c6 : Code := cl c5
noncomputable def o2 : Array Oper := rops c6
noncomputable def c7 : Code := cr c5
noncomputable def c8 : Code := cl c7
noncomputable def c9 : Code := cl c8
noncomputable def o3 : Array Oper := rops c9
noncomputable def c10 : Code := cr c8
noncomputable def c11 : Code := cr c7
noncomputable def c12 : Code := cr c2
noncomputable def c13 : Code := cl c12
noncomputable def c14 : Code := cl c13
noncomputable def o4 : Array Oper := rops c14
noncomputable def c15 : Code := cr c13
noncomputable def c16 : Code := cl c15
noncomputable def o5 : Array Oper := rops c16
noncomputable def c17 : Code := cr c15
noncomputable def c18 : Code := cl c17
noncomputable def c19 : Code := cl c18
noncomputable def o6 : Array Oper := rops c19
noncomputable def c20 : Code := cr c18
noncomputable def c21 : Code := cr c17
noncomputable def c22 : Code := cr c12
noncomputable def c23 : Code := cl c22
noncomputable def o7 : Array Oper := rops c23
noncomputable def c24 : Code := cr c22
noncomputable def c25 : Code := cl c24
noncomputable def c26 : Code := cl c25
noncomputable def o8 : Array Oper := rops c26
noncomputable def c27 : Code := cr c25
noncomputable def c28 : Code := cl c27
noncomputable def c29 : Code := cl c28
noncomputable def c30 : Code := cl c29
noncomputable def o9 : Array Oper := rops c30
noncomputable def c31 : Code := cr c29
noncomputable def c32 : Code := cl c31
noncomputable def c33 : Code := cl c32
noncomputable def c34 : Code := cr c32
noncomputable def c35 : Code := cr c31
noncomputable def c36 : Code := cl c35
noncomputable def c37 : Code := cl c36
noncomputable def c38 : Code := cl c37
noncomputable def o10 : Array Oper := rops c38
noncomputable def c39 : Code := cr c37
noncomputable def c40 : Code := cl c39
noncomputable def o11 : Array Oper := rops c40
noncomputable def c41 : Code := cr c39
noncomputable def c42 : Code := cl c41
noncomputable def c43 : Code := cl c42
noncomputable def c44 : Code := cl c43
noncomputable def o12 : Array Oper := rops c44
noncomputable def c45 : Code := cr c43
noncomputable def c46 : Code := cl c45
noncomputable def c47 : Code := cl c46
noncomputable def c48 : Code := cr c46
noncomputable def c49 : Code := cr c45
noncomputable def c50 : Code := cl c49
noncomputable def c51 : Code := cl c50
noncomputable def c52 : Code := cl c51
noncomputable def o13 : Array Oper := rops c52
noncomputable def c53 : Code := cr c51
noncomputable def c54 : Code := cl c53
noncomputable def o14 : Array Oper := rops c54
noncomputable def c55 : Code := cr c53
noncomputable def c56 : Code := cl c55
noncomputable def o15 : Array Oper := rops c56
noncomputable def c57 : Code := cr c55
noncomputable def c58 : Code := cr c49
noncomputable def o16 : Array Oper := rops c58
noncomputable def c59 : Code := cr c35
noncomputable def o17 : Array Oper := rops c59
noncomputable def c60 : Code := cr c24
noncomputable def c61 : Code := cl c60
noncomputable def o18 : Array Oper := rops c61
noncomputable def c62 : Code := cr c60
end F18
/-- The number of the couples that agree. -/
theorem count_ok {w₀ : World} {C : Nat → Nat} {a b : List Block} {va vb : Value} (hF : Lim w₀ C) (ha : RV w₀ (Mc C) a va) (hb : RV w₀ (Mc C) b vb) (hsa : total a ≤ 4611686018427387904) (hsb : total b ≤ 4611686018427387904) : Calls Try.prog 18 #[va, vb] w₀ (Ret fun v w' => v = .tuple #[.int .i64 (if countE a b ≠ 0 then 0 else countS a b : Nat), .int .i64 (countE a b)] ∧ Stp [] w₀ C w' C) := by
  have hF0 := hF
  have hT := Stp.refl [2, 3, 4, 5, 6, 7, 8, 9] w₀ (col1 C)
  replace hF := hF.col1
  replace ha : RV w₀ (Mc (col1 C)) a va := by rw [Mc_col1]; exact ha
  replace hb : RV w₀ (Mc (col1 C)) b vb := by rw [Mc_col1]; exact hb
  refine calls_start (c := F18.c0) (N := 52) [va, vb] Try.func18 (by kernel_rfl) (by kernel_rfl) (by kernel_rfl) ?_
  show Run _ _ _ _ [(0, va), (1, vb)] _ _
  refine run_seq (x := F18.c1) (y := F18.c2) (by kernel_rfl) ?_
  refine run_plain (id := 0) (ops := F18.o0) [(0, true), (1, true)] (by kernel_rfl) (by kernel_rfl) ?_
  refine yS (by kernel_rfl : opAt F18.o0 0 = some (some 4, .assign (.const (.int .i64 0)), none)) rfl rfl (fun w' hS => val_assign rfl) ?_
  refine yS (by kernel_rfl : opAt F18.o0 1 = some (some 5, .assign (.const (.int .i64 0)), none)) rfl rfl (fun w' hS => val_assign rfl) ?_
  refine Sch.nil ?_
  refine run_seq (x := F18.c3) (y := F18.c12) (by kernel_rfl) ?_
  refine run_seq (x := F18.c4) (y := F18.c5) (by kernel_rfl) ?_
  refine run_plain (id := 1) (ops := F18.o1) [(0, true), (1, false), (2, true)] (by kernel_rfl) (by kernel_rfl) ?_
  refine yS (by kernel_rfl : opAt F18.o1 0 = some (some 13, .move (.tmp 0), none)) rfl rfl (fun w' hS => val_move rfl) ?_
  refine cS (by kernel_rfl : opAt F18.o1 1 = some (some 14, .call { callee := .value (.func 21), args := #[(.tmp 13)], argTypes := #[39] }, none)) rfl rfl (ent Try.call21 rfl) (check_ok hF ha hsa) ?_
  rintro vw1 w1 ⟨rfl, hs⟩
  refine ⟨trivial, ?_⟩
  replace hF := hF.st hs
  replace hT := hT.trans hs (by simp)
  replace ha := ha.st hs (by first | decide | (simp <;> omega))
  replace hb := hb.st hs (by first | decide | (simp <;> omega))
  refine yS (by kernel_rfl : opAt F18.o1 2 = some (some 6, .assign (.tmp 14), none)) rfl rfl (fun w' hS => val_assign rfl) ?_
  refine Sch.nil ?_
  refine run_seq (x := F18.c6) (y := F18.c7) (by kernel_rfl) ?_
  refine run_plain (id := 2) (ops := F18.o2) [(0, true), (1, true)] (by kernel_rfl) (by kernel_rfl) ?_
  refine yS (by kernel_rfl : opAt F18.o2 0 = some (some 15, .move (.tmp 6), none)) rfl rfl (fun w' hS => val_move rfl) ?_
  refine yS (by kernel_rfl : opAt F18.o2 1 = some (some 16, .binOp .neq 31 (.tmp 15) (.const (.int .i64 0)) 31, none)) rfl rfl (fun w' hS => val_neq rfl rfl) ?_
  refine Sch.nil ?_
  refine run_if (x := F18.c8) (y := F18.c11) (o := .tmp 16) (by kernel_rfl) rfl (fun h16 => ?_) (fun h16 => ?_)
  · skip
    refine run_seq (x := F18.c9) (y := F18.c10) (by kernel_rfl) ?_
    refine run_plain (id := 3) (ops := F18.o3) [(0, true), (1, true), (2, true)] (by kernel_rfl) (by kernel_rfl) ?_
    refine yS (by kernel_rfl : opAt F18.o3 0 = some (some 17, .move (.tmp 6), none)) rfl rfl (fun w' hS => val_move rfl) ?_
    refine yS (by kernel_rfl : opAt F18.o3 1 = some (some 4, .assign (.const (.int .i64 0)), none)) rfl rfl (fun w' hS => val_assign rfl) ?_
    refine yS (by kernel_rfl : opAt F18.o3 2 = some (some 5, .assign (.tmp 17), none)) rfl rfl (fun w' hS => val_assign rfl) ?_
    refine Sch.nil ?_
    refine run_ret2 (by kernel_rfl) Try.func18 Try.results18 rfl rfl ?_
    have hout := hT.out1 (by decide)
    exact ⟨by unfold countE; rw [if_pos h16]; simp only [if_pos h16]; rfl, hout⟩
  · skip
    have hza : checkS a = 0 := by simpa using h16
    have hta := checkS_total hza
    refine run_skip (by kernel_rfl) ?_
    refine run_seq (x := F18.c13) (y := F18.c22) (by kernel_rfl) ?_
    refine run_seq (x := F18.c14) (y := F18.c15) (by kernel_rfl) ?_
    refine run_plain (id := 4) (ops := F18.o4) [(0, true), (1, false), (2, true)] (by kernel_rfl) (by kernel_rfl) ?_
    refine yS (by kernel_rfl : opAt F18.o4 0 = some (some 18, .move (.tmp 1), none)) rfl rfl (fun w' hS => val_move rfl) ?_
    refine cS (by kernel_rfl : opAt F18.o4 1 = some (some 19, .call { callee := .value (.func 21), args := #[(.tmp 18)], argTypes := #[39] }, none)) rfl rfl (ent Try.call21 rfl) (check_ok hF hb hsb) ?_
    rintro vw2 w2 ⟨rfl, hs⟩
    refine ⟨trivial, ?_⟩
    replace hF := hF.st hs
    replace hT := hT.trans hs (by simp)
    replace ha := ha.st hs (by first | decide | (simp <;> omega))
    replace hb := hb.st hs (by first | decide | (simp <;> omega))
    refine yS (by kernel_rfl : opAt F18.o4 2 = some (some 7, .assign (.tmp 19), none)) rfl rfl (fun w' hS => val_assign rfl) ?_
    refine Sch.nil ?_
    refine run_seq (x := F18.c16) (y := F18.c17) (by kernel_rfl) ?_
    refine run_plain (id := 5) (ops := F18.o5) [(0, true), (1, true)] (by kernel_rfl) (by kernel_rfl) ?_
    refine yS (by kernel_rfl : opAt F18.o5 0 = some (some 20, .move (.tmp 7), none)) rfl rfl (fun w' hS => val_move rfl) ?_
    refine yS (by kernel_rfl : opAt F18.o5 1 = some (some 21, .binOp .neq 31 (.tmp 20) (.const (.int .i64 0)) 31, none)) rfl rfl (fun w' hS => val_neq rfl rfl) ?_
    refine Sch.nil ?_
    refine run_if (x := F18.c18) (y := F18.c21) (o := .tmp 21) (by kernel_rfl) rfl (fun h21 => ?_) (fun h21 => ?_)
    · skip
      refine run_seq (x := F18.c19) (y := F18.c20) (by kernel_rfl) ?_
      refine run_plain (id := 6) (ops := F18.o6) [(0, true), (1, true), (2, true)] (by kernel_rfl) (by kernel_rfl) ?_
      refine yS (by kernel_rfl : opAt F18.o6 0 = some (some 22, .move (.tmp 7), none)) rfl rfl (fun w' hS => val_move rfl) ?_
      refine yS (by kernel_rfl : opAt F18.o6 1 = some (some 4, .assign (.const (.int .i64 0)), none)) rfl rfl (fun w' hS => val_assign rfl) ?_
      refine yS (by kernel_rfl : opAt F18.o6 2 = some (some 5, .assign (.tmp 22), none)) rfl rfl (fun w' hS => val_assign rfl) ?_
      refine Sch.nil ?_
      refine run_ret2 (by kernel_rfl) Try.func18 Try.results18 rfl rfl ?_
      have hout := hT.out1 (by decide)
      exact ⟨by unfold countE; rw [if_neg h16, if_pos h21]; rfl, hout⟩
    · skip
      have hzb : checkS b = 0 := by simpa using h21
      have htb := checkS_total hzb
      refine run_skip (by kernel_rfl) ?_
      refine run_seq (x := F18.c23) (y := F18.c24) (by kernel_rfl) ?_
      refine run_plain (id := 7) (ops := F18.o7) [(0, true)] (by kernel_rfl) (by kernel_rfl) ?_
      refine yS (by kernel_rfl : opAt F18.o7 0 = some (some 8, .assign (.const (.int .i64 0)), none)) rfl rfl (fun w' hS => val_assign rfl) ?_
      refine Sch.nil ?_
      refine run_seq (x := F18.c25) (y := F18.c60) (by kernel_rfl) ?_
      refine run_seq (x := F18.c26) (y := F18.c27) (by kernel_rfl) ?_
      refine run_plain (id := 8) (ops := F18.o8) [(0, true), (1, true), (2, true)] (by kernel_rfl) (by kernel_rfl) ?_
      refine yS (by kernel_rfl : opAt F18.o8 0 = some (some 23, .move (.tmp 0), none)) rfl rfl (fun w' hS => val_move rfl) ?_
      refine yS (by kernel_rfl : opAt F18.o8 1 = some (some 24, .call { callee := .builtin .len, args := #[(.tmp 23)], argTypes := #[39] }, none)) rfl rfl (fun w' hS => ha.lenV rfl Try.underlying39 w' ) ?_
      refine yS (by kernel_rfl : opAt F18.o8 2 = some (some 25, .move (.const (.int .i64 0)), none)) rfl rfl (fun w' hS => val_move rfl) ?_
      refine Sch.nil ?_
      refine run_block (x := F18.c28) (id := 0) (by kernel_rfl) ?_
      refine run_loop (ι := Nat × (Nat → Nat)) (I := fun x w => x.1 ≤ a.length ∧ Lim w x.2 ∧ Stp [2, 3, 4, 5, 6, 7, 8, 9] w₀ (col1 C) w x.2 ∧ RV w (Mc x.2) a va ∧ RV w (Mc x.2) b vb) (e := fun x => [(0, va), (1, vb), (8, .int .i64 ((a.take x.1).foldl (cnt2 b) 0 : Nat)), (23, va), (24, .int .i64 a.length), (25, .int .i64 x.1)]) (m := fun x => a.length - x.1) (x₀ := (0, col1 C)) (body := F18.c29) (by kernel_rfl) (sub_cons 0 rfl rfl (sub_cons 1 rfl rfl (sub_cons 8 rfl rfl (sub_cons 23 rfl rfl (sub_cons 24 rfl rfl (sub_cons 25 rfl rfl (sub_nil _))))))) ?_ ?_
      · exact ⟨Nat.zero_le _, hF, hT, ha, hb⟩
      intro ⟨i, C1⟩ w3 hI next
      obtain ⟨hi, hF, hT, ha, hb⟩ := hI
      simp only at hi hF hT ha hb
      show Run _ _ _ _ [(0, va), (1, vb), (8, .int .i64 ((a.take i).foldl (cnt2 b) 0 : Nat)), (23, va), (24, .int .i64 a.length), (25, .int .i64 (i : Int))] _ _
      have hla := ha.le
      refine run_seq (x := F18.c30) (y := F18.c31) (by kernel_rfl) ?_
      refine run_plain (id := 9) (ops := F18.o9) [(0, true)] (by kernel_rfl) (by kernel_rfl) ?_
      refine yS (by kernel_rfl : opAt F18.o9 0 = some (some 26, .binOp .lss 3 (.tmp 25) (.tmp 24) 3, none)) rfl rfl (fun w' hS => val_lss rfl rfl) ?_
      refine Sch.nil ?_
      refine run_seq (x := F18.c32) (y := F18.c35) (by kernel_rfl) ?_
      refine run_if (x := F18.c33) (y := F18.c34) (o := .tmp 26) (by kernel_rfl) rfl (fun h26 => ?_) (fun h26 => ?_)
      · skip
        have hia : i < a.length := by omega
        refine run_skip (by kernel_rfl) ?_
        refine run_seq (x := F18.c36) (y := F18.c59) (by kernel_rfl) ?_
        refine run_block (x := F18.c37) (id := 1) (by kernel_rfl) ?_
        refine run_seq (x := F18.c38) (y := F18.c39) (by kernel_rfl) ?_
        refine run_plain (id := 10) (ops := F18.o10) [(0, true), (1, false), (2, false), (3, false)] (by kernel_rfl) (by kernel_rfl) ?_
        refine iS (e := 44) (by kernel_rfl : opAt F18.o10 0 = some (some 27, .indexAddr 39 (.tmp 23) (.tmp 25), none)) rfl rfl ha rfl (by kernel_rfl) rfl (by omega) (by omega) ?_
        intro b27 o27 h27
        try simp only [Int.toNat_natCast] at h27
        refine lNA (by kernel_rfl : opAt F18.o10 1 = some (some 28, .load 44 (.tmp 27), none)) rfl rfl trivial h27 (by kernel_rfl) (by kernel_rfl) rfl rfl ?_
        intro v28 g28
        obtain ⟨u28, rfl, gu28⟩ := rv_block' g28
        refine aS (by kernel_rfl : opAt F18.o10 2 = some (some 10, .alloc 44, none)) rfl rfl (a_alloc (cs := [.int .u64 0, .slice none 0 0]) hF 4 (by kernel_rfl)) ?_
        rintro _ w4 ⟨Cw4, bw4, rfl, hs, hx, hF⟩
        refine ⟨trivial, ?_⟩
        replace hT := hT.trans hs (by simp)
        replace ha := ha.st hs (by first | decide | (simp <;> omega))
        replace hb := hb.st hs (by first | decide | (simp <;> omega))
        replace h27 := h27.st hs (by first | decide | (simp <;> omega))
        replace gu28 := gu28.st hs (by first | decide | (simp <;> omega))
        refine aN (by kernel_rfl : opAt F18.o10 3 = some (none, .store 44 (.tmp 10) (.tmp 28), none)) rfl (a_storeAll (vs := [.int .u64 ((a[i]'hia)).hash, u28]) (n := 2) rfl rfl (by kernel_rfl) rfl rfl (by intro u hu; simp only [List.mem_cons, List.not_mem_nil, or_false] at hu; rcases hu with rfl | rfl <;> first | rfl | exact (gu28.one rfl).2) hx rfl) ?_
        rintro _ w5 ⟨rfl, hs, hx⟩
        refine ⟨trivial, ?_⟩
        replace hF := hF.st hs
        replace hT := hT.trans hs (by simp)
        replace ha := ha.st hs (by first | decide | (simp <;> omega))
        replace hb := hb.st hs (by first | decide | (simp <;> omega))
        replace h27 := h27.st hs (by first | decide | (simp <;> omega))
        replace gu28 := gu28.st hs (by first | decide | (simp <;> omega))
        refine Sch.nil ?_
        refine run_seq (x := F18.c40) (y := F18.c41) (by kernel_rfl) ?_
        refine run_plain (id := 11) (ops := F18.o11) [(0, true), (1, true), (2, true)] (by kernel_rfl) (by kernel_rfl) ?_
        refine yS (by kernel_rfl : opAt F18.o11 0 = some (some 29, .move (.tmp 1), none)) rfl rfl (fun w' hS => val_move rfl) ?_
        refine yS (by kernel_rfl : opAt F18.o11 1 = some (some 30, .call { callee := .builtin .len, args := #[(.tmp 29)], argTypes := #[39] }, none)) rfl rfl (fun w' hS => hb.lenV rfl Try.underlying39 w' ) ?_
        refine yS (by kernel_rfl : opAt F18.o11 2 = some (some 31, .move (.const (.int .i64 0)), none)) rfl rfl (fun w' hS => val_move rfl) ?_
        refine Sch.nil ?_
        refine run_block (x := F18.c42) (id := 2) (by kernel_rfl) ?_
        have next0 := next
        clear next
        refine run_loop (ι := Nat × (Nat → Nat)) (I := fun x w => x.1 ≤ b.length ∧ Lim w x.2 ∧ Stp [2, 3, 4, 5, 6, 7, 8, 9] w₀ (col1 C) w x.2 ∧ RV w (Mc x.2) a va ∧ RV w (Mc x.2) b vb ∧ RV w (Mc x.2) (a[i]'hia).ids u28 ∧ OwnB w x.2 4 bw4 (.cells [.int .u64 (a[i]'hia).hash, u28].toArray 44)) (e := fun x => [(0, va), (1, vb), (8, .int .i64 ((b.take x.1).foldl (cnt3 (a[i]'hia)) ((a.take i).foldl (cnt2 b) 0) : Nat)), (10, .pointer (some ⟨bw4, 0, none⟩)), (23, va), (24, .int .i64 a.length), (25, .int .i64 i), (29, vb), (30, .int .i64 b.length), (31, .int .i64 x.1)]) (m := fun x => b.length - x.1) (x₀ := (0, Cw4)) (body := F18.c43) (by kernel_rfl) (sub_cons 0 rfl rfl (sub_cons 1 rfl rfl (sub_cons 8 rfl rfl (sub_cons 10 rfl rfl (sub_cons 23 rfl rfl (sub_cons 24 rfl rfl (sub_cons 25 rfl rfl (sub_cons 29 rfl rfl (sub_cons 30 rfl rfl (sub_cons 31 rfl rfl (sub_nil _))))))))))) ?_ ?_
        · exact ⟨Nat.zero_le _, hF, hT, ha, hb, gu28, hx⟩
        intro ⟨k, C2⟩ w6 hI next
        obtain ⟨hk, hF, hT, ha, hb, gu28, hx⟩ := hI
        simp only at hk hF hT ha hb gu28 hx
        show Run _ _ _ _ [(0, va), (1, vb), (8, .int .i64 ((b.take k).foldl (cnt3 (a[i]'hia)) ((a.take i).foldl (cnt2 b) 0) : Nat)), (10, .pointer (some ⟨bw4, 0, none⟩)), (23, va), (24, .int .i64 a.length), (25, .int .i64 (i : Int)), (29, vb), (30, .int .i64 b.length), (31, .int .i64 (k : Int))] _ _
        have hlb := hb.le
        have q1 := cnt1_le b (a.take i) 0
        have q2 := cnt2_le (a[i]'hia) (b.take k) ((a.take i).foldl (cnt2 b) 0)
        have q3 := Nat.mul_le_mul (totalN_take a i) (Nat.le_refl (totalN b))
        have q4 := Nat.mul_le_mul (ids_le hia) (totalN_take b k)
        have q5 := Nat.mul_le_mul hta htb
        have q6 := Nat.mul_le_mul (ids_le hia) htb
        have q7 : (b.take k).foldl (cnt3 (a[i]'hia)) ((a.take i).foldl (cnt2 b) 0) ≤ 16384 := by
          have e : cnt2 (b.take k) ((a.take i).foldl (cnt2 b) 0) (a[i]'hia) = (b.take k).foldl (cnt3 (a[i]'hia)) ((a.take i).foldl (cnt2 b) 0) := rfl
          have q8 := Nat.mul_le_mul hta (Nat.le_refl 64)
          have q9 : totalN (b.take k) ≤ 64 := Nat.le_trans (totalN_take b k) htb
          have q10 := Nat.mul_le_mul (Nat.le_trans (ids_le hia) hta) q9
          omega
        refine run_seq (x := F18.c44) (y := F18.c45) (by kernel_rfl) ?_
        refine run_plain (id := 12) (ops := F18.o12) [(0, true)] (by kernel_rfl) (by kernel_rfl) ?_
        refine yS (by kernel_rfl : opAt F18.o12 0 = some (some 32, .binOp .lss 3 (.tmp 31) (.tmp 30) 3, none)) rfl rfl (fun w' hS => val_lss rfl rfl) ?_
        refine Sch.nil ?_
        refine run_seq (x := F18.c46) (y := F18.c49) (by kernel_rfl) ?_
        refine run_if (x := F18.c47) (y := F18.c48) (o := .tmp 32) (by kernel_rfl) rfl (fun h32 => ?_) (fun h32 => ?_)
        · skip
          have hkb : k < b.length := by omega
          refine run_skip (by kernel_rfl) ?_
          refine run_seq (x := F18.c50) (y := F18.c58) (by kernel_rfl) ?_
          refine run_block (x := F18.c51) (id := 3) (by kernel_rfl) ?_
          refine run_seq (x := F18.c52) (y := F18.c53) (by kernel_rfl) ?_
          refine run_plain (id := 13) (ops := F18.o13) [(0, true), (1, false), (2, false), (3, false)] (by kernel_rfl) (by kernel_rfl) ?_
          refine iS (e := 44) (by kernel_rfl : opAt F18.o13 0 = some (some 33, .indexAddr 39 (.tmp 29) (.tmp 31), none)) rfl rfl hb rfl (by kernel_rfl) rfl (by omega) (by omega) ?_
          intro b33 o33 h33
          try simp only [Int.toNat_natCast] at h33
          refine lNA (by kernel_rfl : opAt F18.o13 1 = some (some 34, .load 44 (.tmp 33), none)) rfl rfl trivial h33 (by kernel_rfl) (by kernel_rfl) rfl rfl ?_
          intro v34 g34
          obtain ⟨u34, rfl, gu34⟩ := rv_block' g34
          refine aS (by kernel_rfl : opAt F18.o13 2 = some (some 12, .alloc 44, none)) rfl rfl (a_alloc (cs := [.int .u64 0, .slice none 0 0]) hF 5 (by kernel_rfl)) ?_
          rintro _ w7 ⟨Cw7, bw7, rfl, hs, hy, hF⟩
          refine ⟨trivial, ?_⟩
          replace hT := hT.trans hs (by simp)
          replace ha := ha.st hs (by first | decide | (simp <;> omega))
          replace hb := hb.st hs (by first | decide | (simp <;> omega))
          replace gu28 := gu28.st hs (by first | decide | (simp <;> omega))
          replace hx := hx.st hs (by first | decide | (simp <;> omega))
          replace h33 := h33.st hs (by first | decide | (simp <;> omega))
          replace gu34 := gu34.st hs (by first | decide | (simp <;> omega))
          refine aN (by kernel_rfl : opAt F18.o13 3 = some (none, .store 44 (.tmp 12) (.tmp 34), none)) rfl (a_storeAll (vs := [.int .u64 ((b[k]'hkb)).hash, u34]) (n := 2) rfl rfl (by kernel_rfl) rfl rfl (by intro u hu; simp only [List.mem_cons, List.not_mem_nil, or_false] at hu; rcases hu with rfl | rfl <;> first | rfl | exact (gu34.one rfl).2) hy rfl) ?_
          rintro _ w8 ⟨rfl, hs, hy⟩
          refine ⟨trivial, ?_⟩
          replace hF := hF.st hs
          replace hT := hT.trans hs (by simp)
          replace ha := ha.st hs (by first | decide | (simp <;> omega))
          replace hb := hb.st hs (by first | decide | (simp <;> omega))
          replace gu28 := gu28.st hs (by first | decide | (simp <;> omega))
          replace hx := hx.st hs (by first | decide | (simp <;> omega))
          replace h33 := h33.st hs (by first | decide | (simp <;> omega))
          replace gu34 := gu34.st hs (by first | decide | (simp <;> omega))
          refine Sch.nil ?_
          refine run_seq (x := F18.c54) (y := F18.c55) (by kernel_rfl) ?_
          refine run_plain (id := 14) (ops := F18.o14) [(0, true), (1, false), (2, true), (3, false), (4, true)] (by kernel_rfl) (by kernel_rfl) ?_
          refine yS (by kernel_rfl : opAt F18.o14 0 = some (some 35, .fieldAddr 44 (.tmp 10) 0, none)) rfl rfl (fun w' hS => val_fieldAddr (off := 0) (by kernel_rfl) rfl) ?_
          refine nS (by kernel_rfl : opAt F18.o14 1 = some (some 36, .load 42 (.tmp 35), none)) rfl rfl trivial (val_loadOwn hx.at_ (by kernel_rfl) rfl rfl) ?_
          refine yS (by kernel_rfl : opAt F18.o14 2 = some (some 37, .fieldAddr 44 (.tmp 12) 0, none)) rfl rfl (fun w' hS => val_fieldAddr (off := 0) (by kernel_rfl) rfl) ?_
          refine nS (by kernel_rfl : opAt F18.o14 3 = some (some 38, .load 42 (.tmp 37), none)) rfl rfl trivial (val_loadOwn hy.at_ (by kernel_rfl) rfl rfl) ?_
          refine yS (by kernel_rfl : opAt F18.o14 4 = some (some 39, .binOp .eql 42 (.tmp 36) (.tmp 38) 42, none)) rfl rfl (fun w' hS => val_eql rfl rfl) ?_
          refine Sch.nil ?_
          refine run_if (x := F18.c56) (y := F18.c57) (o := .tmp 39) (by kernel_rfl) rfl (fun h39 => ?_) (fun h39 => ?_)
          · skip
            refine run_plain (id := 15) (ops := F18.o15) [(0, true), (1, true), (2, false), (3, true), (4, true), (5, false), (6, true), (7, true), (8, true), (9, true)] (by kernel_rfl) (by kernel_rfl) ?_
            refine yS (by kernel_rfl : opAt F18.o15 0 = some (some 40, .move (.tmp 8), none)) rfl rfl (fun w' hS => val_move rfl) ?_
            refine yS (by kernel_rfl : opAt F18.o15 1 = some (some 41, .fieldAddr 44 (.tmp 10) 1, none)) rfl rfl (fun w' hS => val_fieldAddr (off := 1) (by kernel_rfl) rfl) ?_
            refine nS (by kernel_rfl : opAt F18.o15 2 = some (some 42, .load 22 (.tmp 41), none)) rfl rfl trivial (val_loadOwn hx.at_ (by kernel_rfl) rfl rfl) ?_
            refine yS (by kernel_rfl : opAt F18.o15 3 = some (some 43, .call { callee := .builtin .len, args := #[(.tmp 42)], argTypes := #[22] }, none)) rfl rfl (fun w' hS => gu28.lenV rfl Try.underlying22 w' ) ?_
            refine yS (by kernel_rfl : opAt F18.o15 4 = some (some 44, .fieldAddr 44 (.tmp 12) 1, none)) rfl rfl (fun w' hS => val_fieldAddr (off := 1) (by kernel_rfl) rfl) ?_
            refine nS (by kernel_rfl : opAt F18.o15 5 = some (some 45, .load 22 (.tmp 44), none)) rfl rfl trivial (val_loadOwn hy.at_ (by kernel_rfl) rfl rfl) ?_
            refine yS (by kernel_rfl : opAt F18.o15 6 = some (some 46, .call { callee := .builtin .len, args := #[(.tmp 45)], argTypes := #[22] }, none)) rfl rfl (fun w' hS => gu34.lenV rfl Try.underlying22 w' ) ?_
            have q20 := Nat.mul_le_mul (Nat.le_trans (ids_le hia) hta) (Nat.le_trans (ids_le hkb) htb)
            have q21 : (((a[i]'hia).ids.length : Nat) : Int) * ((b[k]'hkb).ids.length : Nat) = (((a[i]'hia).ids.length * (b[k]'hkb).ids.length : Nat) : Int) := by simp
            refine yS (by kernel_rfl : opAt F18.o15 7 = some (some 47, .binOp .mul 3 (.tmp 43) (.tmp 46) 3, none)) rfl rfl (fun w' hS => val_is (val_muli rfl rfl (by rw [q21]; omega) (by rw [q21]; omega)) (congrArg (Value.int .i64) q21)) ?_
            refine yS (by kernel_rfl : opAt F18.o15 8 = some (some 48, .binOp .add 3 (.tmp 40) (.tmp 47) 3, none)) rfl rfl (fun w' hS => val_addi rfl rfl (by omega) (by omega)) ?_
            refine yS (by kernel_rfl : opAt F18.o15 9 = some (some 8, .assign (.tmp 48), none)) rfl rfl (fun w' hS => val_assign rfl) ?_
            refine Sch.nil ?_
            refine run_inBlock ?_
            refine run_plain (id := 16) (ops := F18.o16) [(0, true), (1, true)] (by kernel_rfl) (by kernel_rfl) ?_
            refine yS (by kernel_rfl : opAt F18.o16 0 = some (some 49, .binOp .add 3 (.tmp 31) (.const (.int .i64 1)) 3, none)) rfl rfl (fun w' hS => val_addi rfl rfl (by omega) (by omega)) ?_
            refine yS (by kernel_rfl : opAt F18.o16 1 = some (some 31, .move (.tmp 49), none)) rfl rfl (fun w' hS => val_move rfl) ?_
            refine Sch.nil ?_
            refine kp ?_ (next (k + 1, Cw7) _ ⟨by simp only; omega, hF, hT, ha, hb, gu28, hx⟩ (by simp only; omega))
            exact sub_cons 0 rfl rfl (sub_cons 1 rfl rfl (sub_cons 8 rfl (eq_int (by simp only; rw [foldl_take _ _ _ k hkb]; simp only [cnt3, if_pos h39]; simp)) (sub_cons 10 rfl rfl (sub_cons 23 rfl rfl (sub_cons 24 rfl rfl (sub_cons 25 rfl rfl (sub_cons 29 rfl rfl (sub_cons 30 rfl rfl (sub_cons 31 rfl (eq_int (by simp)) (sub_nil _))))))))))
          · skip
            refine run_skip (by kernel_rfl) ?_
            refine run_inBlock ?_
            refine run_plain (id := 16) (ops := F18.o16) [(0, true), (1, true)] (by kernel_rfl) (by kernel_rfl) ?_
            refine yS (by kernel_rfl : opAt F18.o16 0 = some (some 49, .binOp .add 3 (.tmp 31) (.const (.int .i64 1)) 3, none)) rfl rfl (fun w' hS => val_addi rfl rfl (by omega) (by omega)) ?_
            refine yS (by kernel_rfl : opAt F18.o16 1 = some (some 31, .move (.tmp 49), none)) rfl rfl (fun w' hS => val_move rfl) ?_
            refine Sch.nil ?_
            refine kp ?_ (next (k + 1, Cw7) _ ⟨by simp only; omega, hF, hT, ha, hb, gu28, hx⟩ (by simp only; omega))
            exact sub_cons 0 rfl rfl (sub_cons 1 rfl rfl (sub_cons 8 rfl (eq_int (by simp only; rw [foldl_take _ _ _ k hkb]; simp only [cnt3, if_neg h39])) (sub_cons 10 rfl rfl (sub_cons 23 rfl rfl (sub_cons 24 rfl rfl (sub_cons 25 rfl rfl (sub_cons 29 rfl rfl (sub_cons 30 rfl rfl (sub_cons 31 rfl (eq_int (by simp)) (sub_nil _))))))))))
        · skip
          have hkb : k = b.length := by omega
          subst hkb
          refine run_exit (id := 2) (by kernel_rfl) rfl ?_
          refine run_inBlock ?_
          refine run_plain (id := 17) (ops := F18.o17) [(0, true), (1, true)] (by kernel_rfl) (by kernel_rfl) ?_
          refine yS (by kernel_rfl : opAt F18.o17 0 = some (some 50, .binOp .add 3 (.tmp 25) (.const (.int .i64 1)) 3, none)) rfl rfl (fun w' hS => val_addi rfl rfl (by omega) (by omega)) ?_
          refine yS (by kernel_rfl : opAt F18.o17 1 = some (some 25, .move (.tmp 50), none)) rfl rfl (fun w' hS => val_move rfl) ?_
          refine Sch.nil ?_
          refine kp ?_ (next0 (i + 1, C2) _ ⟨by simp only; omega, hF, hT, ha, hb⟩ (by simp only; omega))
          exact sub_cons 0 rfl rfl (sub_cons 1 rfl rfl (sub_cons 8 rfl (eq_int (by simp only [List.take_length]; rw [foldl_take _ _ _ i hia]; rfl)) (sub_cons 23 rfl rfl (sub_cons 24 rfl rfl (sub_cons 25 rfl (eq_int (by simp)) (sub_nil _))))))
      · skip
        have hia : i = a.length := by omega
        subst hia
        refine run_exit (id := 0) (by kernel_rfl) rfl ?_
        refine run_seq (x := F18.c61) (y := F18.c62) (by kernel_rfl) ?_
        refine run_plain (id := 18) (ops := F18.o18) [(0, true), (1, true), (2, true)] (by kernel_rfl) (by kernel_rfl) ?_
        refine yS (by kernel_rfl : opAt F18.o18 0 = some (some 51, .move (.tmp 8), none)) rfl rfl (fun w' hS => val_move rfl) ?_
        refine yS (by kernel_rfl : opAt F18.o18 1 = some (some 4, .assign (.tmp 51), none)) rfl rfl (fun w' hS => val_assign rfl) ?_
        refine yS (by kernel_rfl : opAt F18.o18 2 = some (some 5, .assign (.const (.int .i64 0)), none)) rfl rfl (fun w' hS => val_assign rfl) ?_
        refine Sch.nil ?_
        refine run_ret2 (by kernel_rfl) Try.func18 Try.results18 rfl rfl ?_
        have hout := hT.out1 (by decide)
        exact ⟨by unfold countE; rw [if_neg h16, if_neg h21, hzb, List.take_length]; rfl, hout⟩
end Go.Proofs.Ytejbklahkkjmhaa
