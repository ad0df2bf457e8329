/- Steps through functions of the program. -/
import Derived.Test.YtfmdkdfhnkennaaKCH
set_option linter.unusedVariables false
set_option linter.unusedSimpArgs false
set_option maxRecDepth 100000
set_option maxHeartbeats 400000
namespace Go.Proofs.Ytfmdkdfhnkennaa
open Go.K Go.K.Rep

namespace F20
noncomputable def c0 : Code := bodyOf Try.f20
noncomputable def c1 : Code := cl c0
noncomputable def o0 : Array Oper := rops c1
noncomputable def c2 : Code := cr c0
noncomputable def c3 : Code := cl c2
noncomputable def c4 : Code := cl c3
noncomputable def o1 : Array Oper := rops c4
noncomputable def c5 : Code := cr c3
noncomputable def c6 : Code := cl c5
noncomputable def o2 : Array Oper := rops c6
noncomputable def c7 : Code := cr c5
noncomputable def c8 : Code := cl c7
noncomputable def c9 : Code := cl c8
noncomputable def o3 : Array Oper := rops c9
noncomputable def c10 : Code := cr c8
noncomputable def c11 : Code := cr c7
noncomputable def c12 : Code := cr c2
noncomputable def c13 : Code := cl c12
noncomputable def o4 : Array Oper := rops c13
noncomputable def c14 : Code := cr c12
noncomputable def c15 : Code := cl c14
noncomputable def o5 : Array Oper := rops c15
noncomputable def c16 : Code := cr c14
noncomputable def c17 : Code := cl c16
noncomputable def c18 : Code := cl c17
noncomputable def o6 : Array Oper := rops c18
noncomputable def c19 : Code := cr c17
noncomputable def c20 : Code := cl c19
noncomputable def c21 : Code := cl c20
noncomputable def c22 : Code := cl c21
noncomputable def c23 : Code := cl c22
noncomputable def o7 : Array Oper := rops c23
noncomputable def c24 : Code := cr c22
noncomputable def c25 : Code := cl c24
noncomputable def c26 : Code := cr c24
noncomputable def c27 : Code := cr c21
noncomputable def c28 : Code := cl c27
noncomputable def c29 : Code := cl c28
noncomputable def o9 : Array Oper := rops c29
noncomputable def c30 : Code := cr c27
noncomputable def o8 : Array Oper := rops c30
noncomputable def c31 : Code := cr c16
noncomputable def c32 : Code := cl c31
noncomputable def c33 : Code := cl c32
noncomputable def o10 : Array Oper := rops c33
noncomputable def c34 : Code := cr c32
noncomputable def c35 : Code := cl c34
noncomputable def c36 : Code := cl c35
noncomputable def c37 : Code := cl c36
noncomputable def c38 : Code := cl c37
noncomputable def o11 : Array Oper := rops c38
noncomputable def c39 : Code := cr c37
noncomputable def c40 : Code := cl c39
noncomputable def c41 : Code := cr c39
noncomputable def c42 : Code := cr c36
noncomputable def c43 : Code := cl c42
noncomputable def c44 : Code := cl c43
noncomputable def o12 : Array Oper := rops c44
noncomputable def c45 : Code := cr c43
noncomputable def c46 : Code := cl c45
noncomputable def o13 : Array Oper := rops c46
noncomputable def c47 : Code := cr c45
noncomputable def c48 : Code := cl c47
noncomputable def c49 : Code := cl c48
noncomputable def c50 : Code := cl c49
noncomputable def c51 : Code := cl c50
noncomputable def o14 : Array Oper := rops c51
noncomputable def c52 : Code := cr c50
noncomputable def c53 : Code := cl c52
noncomputable def c54 : Code := cr c52
noncomputable def c55 : Code := cr c49
noncomputable def c56 : Code := cl c55
noncomputable def c57 : Code := cl c56
noncomputable def c58 : Code := cl c57
noncomputable def o16 : Array Oper := rops c58
noncomputable def c59 : Code := cr c57
noncomputable def c60 : Code := cl c59
noncomputable def o17 : Array Oper := rops c60
noncomputable def c61 : Code := cr c59
noncomputable def c62 : Code := cl c61
noncomputable def c63 : Code := cl c62
noncomputable def o18 : Array Oper := rops c63
noncomputable def c64 : Code := cr c62
noncomputable def c65 : Code := cl c64
noncomputable def o19 : Array Oper := rops c65
noncomputable def c66 : Code := cr c64
noncomputable def o20 : Array Oper := rops c66
noncomputable def c67 : Code := cr c61
noncomputable def c68 : Code := cr c55
noncomputable def o15 : Array Oper := rops c68
noncomputable def c69 : Code := cr c31
noncomputable def c70 : Code := cl c69
noncomputable def o21 : Array Oper := rops c70
noncomputable def c71 : Code := cr c69
noncomputable def c72 : Code := cl c71
noncomputable def c73 : Code := cl c72
noncomputable def o22 : Array Oper := rops c73
noncomputable def c74 : Code := cr c72
noncomputable def c75 : Code := cl c74
noncomputable def c76 : Code := cl c75
noncomputable def c77 : Code := cl c76
noncomputable def c78 : Code := cl c77
noncomputable def o23 : Array Oper := rops c78
noncomputable def c79 : Code := cr c77
noncomputable def c80 : Code := cl c79
noncomputable def c81 : Code := cr c79
noncomputable def c82 : Code := cr c76
noncomputable def c83 : Code := cl c82
noncomputable def c84 : Code := cl c83
noncomputable def c85 : Code := cl c84
noncomputable def c86 : Code := cl c85
noncomputable def o25 : Array Oper := rops c86
noncomputable def c87 : Code := cr c85
noncomputable def c88 : Code := cl c87
noncomputable def c89 : Code := cr c87
noncomputable def c90 : Code := cr c84
noncomputable def c91 : Code := cl c90
noncomputable def o26 : Array Oper := rops c91
noncomputable def c92 : Code := cr c90
noncomputable def c93 : Code := cl c92
noncomputable def c94 : Code := cl c93
noncomputable def o27 : Array Oper := rops c94
noncomputable def c95 : Code := cr c93
noncomputable def c96 : Code := cl c95
noncomputable def c97 : Code := cl c96
noncomputable def c98 : Code := cl c97
noncomputable def c99 : Code := cl c98
noncomputable def o28 : Array Oper := rops c99
noncomputable def c100 : Code := cr c98
noncomputable def c101 : Code := cl c100
noncomputable def c102 : Code := cr c100
noncomputable def c103 : Code := cr c97
noncomputable def c104 : Code := cl c103
noncomputable def c105 : Code := cl c104
noncomputable def c106 : Code := cl c105
noncomputable def o30 : Array Oper := rops c106
noncomputable def c107 : Code := cr c105
noncomputable def c108 : Code := cl c107
noncomputable def o31 : Array Oper := rops c108
noncomputable def c109 : Code := cr c107
noncomputable def c110 : Code := cr c103
noncomputable def o29 : Array Oper := rops c110
noncomputable def c111 : Code := cr c92
noncomputable def o32 : Array Oper := rops c111
noncomputable def c112 : Code := cr c82
noncomputable def o24 : Array Oper := rops c112
noncomputable def c113 : Code := cr c71
noncomputable def c114 : Code := cl c113
noncomputable def o33 : Array Oper := rops c114
noncomputable def c115 : Code := cr c113
end F20
theorem refOf_ok {w₀ : World} {C : Nat → Nat} {l : List Bond} {vl : Value} (hF : Lim w₀ C) (hl : RV w₀ (Mc C) l vl) (hlen : l.length ≤ 100000) :
    Calls Try.prog 20 #[vl] w₀ (Ret fun v w' => ∃ u, v = .tuple #[u, .int .i64 (checkS l)] ∧ Stp [] w₀ C w' C ∧ RV w' (Mc C) (if checkS l = 0 then partsS l else []) u) := by
  have hF0 := hF
  have hT := Stp.refl [2, 3, 4, 5, 6, 7, 8, 9] w₀ (col1 C)
  replace hF := hF.col1
  replace hl : RV w₀ (Mc (col1 C)) l vl := by rw [Mc_col1]; exact hl
  refine calls_start (c := F20.c0) (N := 120) [vl] Try.func20 (by kernel_rfl) (by kernel_rfl) (by kernel_rfl) ?_
  show Run _ _ _ _ [(0, vl)] _ _
  refine run_seq (x := F20.c1) (y := F20.c2) (by kernel_rfl) ?_
  refine run_plain (id := 0) (ops := F20.o0) [(0, true), (1, true)] (by kernel_rfl) (by kernel_rfl) ?_
  refine yS (by kernel_rfl : opAt F20.o0 0 = some (some 2, .assign (.const (.slice none 0 0)), none)) rfl rfl (fun w' hS => val_assign rfl) ?_
  refine yS (by kernel_rfl : opAt F20.o0 1 = some (some 3, .assign (.const (.int .i64 0)), none)) rfl rfl (fun w' hS => val_assign rfl) ?_
  refine Sch.nil ?_
  refine run_seq (x := F20.c3) (y := F20.c12) (by kernel_rfl) ?_
  refine run_seq (x := F20.c4) (y := F20.c5) (by kernel_rfl) ?_
  refine run_plain (id := 1) (ops := F20.o1) [(0, true), (1, false), (2, true)] (by kernel_rfl) (by kernel_rfl) ?_
  refine yS (by kernel_rfl : opAt F20.o1 0 = some (some 17, .move (.tmp 0), none)) rfl rfl (fun w' hS => val_move rfl) ?_
  refine cS (by kernel_rfl : opAt F20.o1 1 = some (some 18, .call { callee := .value (.func 15), args := #[(.tmp 17)], argTypes := #[23] }, none)) rfl rfl (ent Try.call15 rfl) (refCheck_ok hF hl) ?_
  rintro vw1 w1 ⟨rfl, hs⟩
  refine ⟨trivial, ?_⟩
  replace hF := hF.st hs
  replace hT := hT.trans hs (by simp)
  replace hl := hl.st hs (by first | decide | (simp <;> omega))
  refine yS (by kernel_rfl : opAt F20.o1 2 = some (some 4, .assign (.tmp 18), none)) rfl rfl (fun w' hS => val_assign rfl) ?_
  refine Sch.nil ?_
  refine run_seq (x := F20.c6) (y := F20.c7) (by kernel_rfl) ?_
  refine run_plain (id := 2) (ops := F20.o2) [(0, true), (1, true)] (by kernel_rfl) (by kernel_rfl) ?_
  refine yS (by kernel_rfl : opAt F20.o2 0 = some (some 19, .move (.tmp 4), none)) rfl rfl (fun w' hS => val_move rfl) ?_
  refine yS (by kernel_rfl : opAt F20.o2 1 = some (some 20, .binOp .neq 35 (.tmp 19) (.const (.int .i64 0)) 35, none)) rfl rfl (fun w' hS => val_neq rfl rfl) ?_
  refine Sch.nil ?_
  refine run_if (x := F20.c8) (y := F20.c11) (o := .tmp 20) (by kernel_rfl) rfl (fun h20 => ?_) (fun h20 => ?_)
  · skip
    refine run_seq (x := F20.c9) (y := F20.c10) (by kernel_rfl) ?_
    refine run_plain (id := 3) (ops := F20.o3) [(0, true), (1, true), (2, true)] (by kernel_rfl) (by kernel_rfl) ?_
    refine yS (by kernel_rfl : opAt F20.o3 0 = some (some 21, .move (.tmp 4), none)) rfl rfl (fun w' hS => val_move rfl) ?_
    refine yS (by kernel_rfl : opAt F20.o3 1 = some (some 2, .assign (.const (.slice none 0 0)), none)) rfl rfl (fun w' hS => val_assign rfl) ?_
    refine yS (by kernel_rfl : opAt F20.o3 2 = some (some 3, .assign (.tmp 21), none)) rfl rfl (fun w' hS => val_assign rfl) ?_
    refine Sch.nil ?_
    refine run_ret2 (by kernel_rfl) Try.func20 Try.results20 rfl rfl ?_
    exact ⟨_, rfl, hT.out1 (by decide), by rw [if_neg h20]; exact rv_nil⟩
  · skip
    have hck : checkS l = 0 := Classical.not_not.1 h20
    have hl4 := checkS_len hck
    have hrl2 := refsS_len l
    refine run_skip (by kernel_rfl) ?_
    refine run_seq (x := F20.c13) (y := F20.c14) (by kernel_rfl) ?_
    refine run_plain (id := 4) (ops := F20.o4) [(0, true), (1, false), (2, true)] (by kernel_rfl) (by kernel_rfl) ?_
    refine yS (by kernel_rfl : opAt F20.o4 0 = some (some 22, .move (.tmp 0), none)) rfl rfl (fun w' hS => val_move rfl) ?_
    refine cS (by kernel_rfl : opAt F20.o4 1 = some (some 23, .call { callee := .value (.func 18), args := #[(.tmp 22)], argTypes := #[23] }, none)) rfl rfl (ent Try.call18 rfl) (refRefs_ok hF hl hlen) ?_
    rintro vR w2 ⟨hs, hrs⟩
    refine ⟨trivial, ?_⟩
    replace hF := hF.st hs
    replace hT := hT.trans hs (by simp)
    replace hl := hl.st hs (by first | decide | (simp <;> omega))
    refine yS (by kernel_rfl : opAt F20.o4 2 = some (some 5, .assign (.tmp 23), none)) rfl rfl (fun w' hS => val_assign rfl) ?_
    refine Sch.nil ?_
    refine run_seq (x := F20.c15) (y := F20.c16) (by kernel_rfl) ?_
    refine run_plain (id := 5) (ops := F20.o5) [(0, true), (1, true), (2, false), (3, true)] (by kernel_rfl) (by kernel_rfl) ?_
    refine yS (by kernel_rfl : opAt F20.o5 0 = some (some 24, .move (.tmp 5), none)) rfl rfl (fun w' hS => val_move rfl) ?_
    refine yS (by kernel_rfl : opAt F20.o5 1 = some (some 25, .call { callee := .builtin .len, args := #[(.tmp 24)], argTypes := #[38] }, none)) rfl rfl (fun w' hS => hrs.lenV rfl Try.underlying38 w' ) ?_
    refine aS (by kernel_rfl : opAt F20.o5 2 = some (some 26, .makeSlice 22 (.tmp 25) (.tmp 25), none)) rfl rfl (a_make (e := 3) (bytes := 8) (x0 := (0 : Nat)) (zs := [.int .i64 0]) hF (j := 3) (by decide) (by kernel_rfl) (by kernel_rfl) rfl rfl (by omega) (by omega) (by omega) (fun h M => rfl)) ?_
    rintro v26 w3 ⟨Cw3, hs, hw, hF⟩
    refine ⟨trivial, ?_⟩
    replace hT := hT.trans hs (by simp)
    replace hl := hl.st hs (by first | decide | (simp <;> omega))
    replace hrs := hrs.st hs (by first | decide | (simp <;> omega))
    refine yS (by kernel_rfl : opAt F20.o5 3 = some (some 6, .assign (.tmp 26), none)) rfl rfl (fun w' hS => val_assign rfl) ?_
    refine Sch.nil ?_
    try simp only [Int.toNat_natCast] at hw
    refine run_seq (x := F20.c17) (y := F20.c31) (by kernel_rfl) ?_
    refine run_seq (x := F20.c18) (y := F20.c19) (by kernel_rfl) ?_
    refine run_plain (id := 6) (ops := F20.o6) [(0, true)] (by kernel_rfl) (by kernel_rfl) ?_
    refine yS (by kernel_rfl : opAt F20.o6 0 = some (some 7, .assign (.const (.int .i64 0)), none)) rfl rfl (fun w' hS => val_assign rfl) ?_
    refine Sch.nil ?_
    refine run_block (x := F20.c20) (id := 0) (by kernel_rfl) ?_
    
    refine run_loop (ι := Nat × (List Nat) × (Nat → Nat)) (I := fun x w => x.1 ≤ (refsS l).length ∧ x.2.1.length = (refsS l).length ∧ (∀ k (hk : k < x.2.1.length), k < x.1 → x.2.1[k] = k) ∧ Lim w x.2.2 ∧ Stp [2, 3, 4, 5, 6, 7, 8, 9] w₀ (col1 C) w x.2.2 ∧ RV w (Mc x.2.2) l vl ∧ RV w (Mc x.2.2) (refsS l) vR ∧ OwnL w x.2.2 3 3 v26 x.2.1) (e := fun x => [(0, vl), (5, vR), (6, v26), (7, .int .i64 x.1)]) (m := fun x => (refsS l).length - x.1) (x₀ := (0, List.replicate (refsS l).length 0, Cw3)) (body := F20.c21) (by kernel_rfl) (sub_cons 0 rfl rfl (sub_cons 5 rfl rfl (sub_cons 6 rfl rfl (sub_cons 7 rfl rfl (sub_nil _))))) ?_ ?_
    · exact ⟨Nat.zero_le _, (by simp only; exact List.length_replicate), (fun k hk h => by simp only at h; omega), hF, hT, hl, hrs, hw⟩
    intro ⟨i, low, C1⟩ w4 hI next
    obtain ⟨hi, hll, hlv, hF, hT, hl, hrs, hw⟩ := hI
    try simp only at hi hll hlv hF hT hl hrs hw
    have next1 := next
    clear next
    show Run _ _ _ _ [(0, vl), (5, vR), (6, v26), (7, .int .i64 i)] _ _
    refine run_seq (x := F20.c22) (y := F20.c27) (by kernel_rfl) ?_
    refine run_seq (x := F20.c23) (y := F20.c24) (by kernel_rfl) ?_
    refine run_plain (id := 7) (ops := F20.o7) [(0, true), (1, true), (2, true), (3, true)] (by kernel_rfl) (by kernel_rfl) ?_
    refine yS (by kernel_rfl : opAt F20.o7 0 = some (some 27, .move (.tmp 7), none)) rfl rfl (fun w' hS => val_move rfl) ?_
    refine yS (by kernel_rfl : opAt F20.o7 1 = some (some 28, .move (.tmp 6), none)) rfl rfl (fun w' hS => val_move rfl) ?_
    refine yS (by kernel_rfl : opAt F20.o7 2 = some (some 29, .call { callee := .builtin .len, args := #[(.tmp 28)], argTypes := #[22] }, none)) rfl rfl (fun w' hS => hw.lenV rfl Try.underlying22 w' ) ?_
    refine yS (by kernel_rfl : opAt F20.o7 3 = some (some 30, .binOp .lss 3 (.tmp 27) (.tmp 29) 3, none)) rfl rfl (fun w' hS => val_lss rfl rfl) ?_
    refine Sch.nil ?_
    refine run_if (x := F20.c25) (y := F20.c26) (o := .tmp 30) (by kernel_rfl) rfl (fun h30 => ?_) (fun h30 => ?_)
    · skip
      have hil : i < (refsS l).length := by omega
      refine run_skip (by kernel_rfl) ?_
      refine run_seq (x := F20.c28) (y := F20.c30) (by kernel_rfl) ?_
      refine run_block (x := F20.c29) (id := 1) (by kernel_rfl) ?_
      refine run_plain (id := 9) (ops := F20.o9) [(0, true), (1, true), (2, true), (3, true), (4, false)] (by kernel_rfl) (by kernel_rfl) ?_
      refine yS (by kernel_rfl : opAt F20.o9 0 = some (some 33, .move (.tmp 6), none)) rfl rfl (fun w' hS => val_move rfl) ?_
      refine yS (by kernel_rfl : opAt F20.o9 1 = some (some 34, .move (.tmp 7), none)) rfl rfl (fun w' hS => val_move rfl) ?_
      refine yS (by kernel_rfl : opAt F20.o9 2 = some (some 35, .move (.tmp 7), none)) rfl rfl (fun w' hS => val_move rfl) ?_
      refine oI (e' := 3) (by kernel_rfl : opAt F20.o9 3 = some (some 36, .indexAddr 22 (.tmp 33) (.tmp 34), none)) rfl rfl hw rfl (by kernel_rfl) rfl (by omega) (by omega) ?_
      intro g36 hg36
      try simp only [Int.toNat_natCast]
      refine aN (by kernel_rfl : opAt F20.o9 4 = some (none, .store 3 (.tmp 36) (.tmp 35), none)) rfl (a_storeO hw hg36 (by omega) rfl rfl (by kernel_rfl) (rv_nat.2 rfl)) ?_
      rintro _ w5 ⟨rfl, hs, hw⟩
      refine ⟨trivial, ?_⟩
      replace hF := hF.st hs
      replace hT := hT.trans hs (by simp)
      replace hl := hl.st hs (by first | decide | (simp <;> omega))
      replace hrs := hrs.st hs (by first | decide | (simp <;> omega))
      refine Sch.nil ?_
      refine run_inBlock ?_
      refine run_plain (id := 8) (ops := F20.o8) [(0, true), (1, true), (2, true)] (by kernel_rfl) (by kernel_rfl) ?_
      refine yS (by kernel_rfl : opAt F20.o8 0 = some (some 31, .move (.tmp 7), none)) rfl rfl (fun w' hS => val_move rfl) ?_
      refine yS (by kernel_rfl : opAt F20.o8 1 = some (some 32, .binOp .add 3 (.tmp 31) (.const (.int .i64 1)) 3, none)) rfl rfl (fun w' hS => val_addi rfl rfl (by omega) (by omega)) ?_
      refine yS (by kernel_rfl : opAt F20.o8 2 = some (some 7, .assign (.tmp 32), none)) rfl rfl (fun w' hS => val_assign rfl) ?_
      refine Sch.nil ?_
      refine kp (sub_cons 0 rfl rfl (sub_cons 5 rfl rfl (sub_cons 6 rfl rfl (sub_cons 7 rfl (eq_int (by simp)) (sub_nil _))))) (next1 (i + 1, low.set i i, C1) _ ⟨(by first | omega | (simp only; omega)), (by simp only [List.length_set]; exact hll), (fun k hk h => by
          simp only at h
          rw [List.getElem_set]
          split
          · assumption
          · simp only [List.length_set] at hk; exact hlv k hk (by omega)), hF, hT, hl, hrs, hw⟩ (by first | omega | (simp only; omega)))
    · skip
      have hil : i = (refsS l).length := by omega
      obtain rfl : low = List.range (refsS l).length := List.ext_getElem (by simpa using hll) (fun k h1 h2 => by rw [hlv k h1 (by omega), List.getElem_range])
      clear hlv hll
      refine run_exit (id := 0) (by kernel_rfl) rfl ?_
      refine run_seq (x := F20.c32) (y := F20.c69) (by kernel_rfl) ?_
      refine run_seq (x := F20.c33) (y := F20.c34) (by kernel_rfl) ?_
      refine run_plain (id := 10) (ops := F20.o10) [(0, true)] (by kernel_rfl) (by kernel_rfl) ?_
      refine yS (by kernel_rfl : opAt F20.o10 0 = some (some 8, .assign (.const (.bool true)), none)) rfl rfl (fun w' hS => val_assign rfl) ?_
      refine Sch.nil ?_
      refine run_block (x := F20.c35) (id := 2) (by kernel_rfl) ?_
      
      refine run_loop (ι := (List Nat) × Bool × (Nat → Nat)) (I := fun x w => Lw l x.1 ∧ (x.2.1 = false → Fix l l x.1) ∧ Lim w x.2.2 ∧ Stp [2, 3, 4, 5, 6, 7, 8, 9] w₀ (col1 C) w x.2.2 ∧ RV w (Mc x.2.2) l vl ∧ RV w (Mc x.2.2) (refsS l) vR ∧ OwnL w x.2.2 3 3 v26 x.1) (e := fun x => [(0, vl), (5, vR), (6, v26), (8, .bool x.2.1)]) (m := fun x => 2 * x.1.sum + x.2.1.toNat) (x₀ := (List.range (refsS l).length, true, C1)) (body := F20.c36) (by kernel_rfl) (sub_cons 0 rfl rfl (sub_cons 5 rfl rfl (sub_cons 6 rfl rfl (sub_cons 8 rfl rfl (sub_nil _))))) ?_ ?_
      · exact ⟨Lw.start l, (fun e => by cases e), hF, hT, hl, hrs, hw⟩
      intro ⟨low, ch, C1⟩ w6 hI next
      obtain ⟨hW, hcl, hF, hT, hl, hrs, hw⟩ := hI
      try simp only at hW hcl hF hT hl hrs hw
      have next2 := next
      clear next
      show Run _ _ _ _ [(0, vl), (5, vR), (6, v26), (8, .bool ch)] _ _
      refine run_seq (x := F20.c37) (y := F20.c42) (by kernel_rfl) ?_
      refine run_seq (x := F20.c38) (y := F20.c39) (by kernel_rfl) ?_
      refine run_plain (id := 11) (ops := F20.o11) [(0, true)] (by kernel_rfl) (by kernel_rfl) ?_
      refine yS (by kernel_rfl : opAt F20.o11 0 = some (some 37, .move (.tmp 8), none)) rfl rfl (fun w' hS => val_move rfl) ?_
      refine Sch.nil ?_
      refine run_cond (x := F20.c40) (y := F20.c41) (o := .tmp 37) (by kernel_rfl) rfl (fun h37 => ?_) (fun h37 => ?_)
      · skip
        subst h37
        refine run_skip (by kernel_rfl) ?_
        refine run_block (x := F20.c43) (id := 3) (by kernel_rfl) ?_
        refine run_seq (x := F20.c44) (y := F20.c45) (by kernel_rfl) ?_
        refine run_plain (id := 12) (ops := F20.o12) [(0, true)] (by kernel_rfl) (by kernel_rfl) ?_
        refine yS (by kernel_rfl : opAt F20.o12 0 = some (some 8, .assign (.const (.bool false)), none)) rfl rfl (fun w' hS => val_assign rfl) ?_
        refine Sch.nil ?_
        refine run_seq (x := F20.c46) (y := F20.c47) (by kernel_rfl) ?_
        refine run_plain (id := 13) (ops := F20.o13) [(0, true)] (by kernel_rfl) (by kernel_rfl) ?_
        refine yS (by kernel_rfl : opAt F20.o13 0 = some (some 9, .assign (.const (.int .i64 0)), none)) rfl rfl (fun w' hS => val_assign rfl) ?_
        refine Sch.nil ?_
        refine run_block (x := F20.c48) (id := 4) (by kernel_rfl) ?_
        
        refine run_loop (ι := Nat × (List Nat) × Bool × (Nat → Nat)) (I := fun x w => x.1 ≤ l.length ∧ Lw l x.2.1 ∧ x.2.1.sum ≤ low.sum ∧ (x.2.2.1 = true → x.2.1.sum < low.sum) ∧ (x.2.2.1 = false → x.2.1 = low ∧ Fix l (l.take x.1) x.2.1) ∧ Lim w x.2.2.2 ∧ Stp [2, 3, 4, 5, 6, 7, 8, 9] w₀ (col1 C) w x.2.2.2 ∧ RV w (Mc x.2.2.2) l vl ∧ RV w (Mc x.2.2.2) (refsS l) vR ∧ OwnL w x.2.2.2 3 3 v26 x.2.1) (e := fun x => [(0, vl), (5, vR), (6, v26), (8, .bool x.2.2.1), (9, .int .i64 x.1)]) (m := fun x => l.length - x.1) (x₀ := (0, low, false, C1)) (body := F20.c49) (by kernel_rfl) (sub_cons 0 rfl rfl (sub_cons 5 rfl rfl (sub_cons 6 rfl rfl (sub_cons 8 rfl rfl (sub_cons 9 rfl rfl (sub_nil _)))))) ?_ ?_
        · exact ⟨Nat.zero_le _, hW, Nat.le_refl _, (fun e => by cases e), (fun _ => ⟨rfl, fun y hy => by simp at hy⟩), hF, hT, hl, hrs, hw⟩
        intro ⟨k, lw, ch2, C1⟩ w7 hI next
        obtain ⟨hk, hW2, hle, hlt, hsm, hF, hT, hl, hrs, hw⟩ := hI
        try simp only at hk hW2 hle hlt hsm hF hT hl hrs hw
        have next3 := next
        clear next
        show Run _ _ _ _ [(0, vl), (5, vR), (6, v26), (8, .bool ch2), (9, .int .i64 k)] _ _
        have hwl := hW2.len
        refine run_seq (x := F20.c50) (y := F20.c55) (by kernel_rfl) ?_
        refine run_seq (x := F20.c51) (y := F20.c52) (by kernel_rfl) ?_
        refine run_plain (id := 14) (ops := F20.o14) [(0, true), (1, true), (2, true), (3, true)] (by kernel_rfl) (by kernel_rfl) ?_
        refine yS (by kernel_rfl : opAt F20.o14 0 = some (some 38, .move (.tmp 9), none)) rfl rfl (fun w' hS => val_move rfl) ?_
        refine yS (by kernel_rfl : opAt F20.o14 1 = some (some 39, .move (.tmp 0), none)) rfl rfl (fun w' hS => val_move rfl) ?_
        refine yS (by kernel_rfl : opAt F20.o14 2 = some (some 40, .call { callee := .builtin .len, args := #[(.tmp 39)], argTypes := #[23] }, none)) rfl rfl (fun w' hS => hl.lenV rfl Try.underlying23 w' ) ?_
        refine yS (by kernel_rfl : opAt F20.o14 3 = some (some 41, .binOp .lss 3 (.tmp 38) (.tmp 40) 3, none)) rfl rfl (fun w' hS => val_lss rfl rfl) ?_
        refine Sch.nil ?_
        refine run_if (x := F20.c53) (y := F20.c54) (o := .tmp 41) (by kernel_rfl) rfl (fun h41 => ?_) (fun h41 => ?_)
        · skip
          have hkl : k < l.length := by omega
          obtain ⟨ia, hia, hia2, ea⟩ := idxOf_mem (l := refsS l) (c := l[k].A) (mem_refsS.2 ⟨_, List.getElem_mem hkl, .inl rfl⟩)
          obtain ⟨ib, hib, hib2, eb⟩ := idxOf_mem (l := refsS l) (c := l[k].B) (mem_refsS.2 ⟨_, List.getElem_mem hkl, .inr rfl⟩)
          refine run_skip (by kernel_rfl) ?_
          refine run_seq (x := F20.c56) (y := F20.c68) (by kernel_rfl) ?_
          refine run_block (x := F20.c57) (id := 5) (by kernel_rfl) ?_
          refine run_seq (x := F20.c58) (y := F20.c59) (by kernel_rfl) ?_
          refine run_draw (id := 16) (ops := F20.o16) [] (C1) [(0, true), (1, true), (2, true), (3, true), (4, true), (5, true), (7, true), (8, true), (9, true), (10, true), (11, true), (12, true), (6, false), (13, false), (14, true), (15, true)] Try_mixed (by kernel_rfl) (by kernel_rfl) (by kernel_rfl) ?_
          intro w8 hs
          replace hF := hF.st hs
          replace hT := hT.trans hs (by simp)
          replace hl := hl.st hs (by first | decide | (simp <;> omega))
          replace hrs := hrs.st hs (by first | decide | (simp <;> omega))
          replace hw := hw.st hs (by first | decide | (simp <;> omega)) (by first | decide | (simp <;> omega))
          have hR := Stp.refl [] w8 (C1)
          refine yS (by kernel_rfl : opAt F20.o16 0 = some (some 44, .move (.tmp 5), none)) rfl rfl (fun w' hS => val_move rfl) ?_
          refine yS (by kernel_rfl : opAt F20.o16 1 = some (some 45, .move (.tmp 0), none)) rfl rfl (fun w' hS => val_move rfl) ?_
          refine yS (by kernel_rfl : opAt F20.o16 2 = some (some 46, .move (.tmp 9), none)) rfl rfl (fun w' hS => val_move rfl) ?_
          refine iS (e := 50) (by kernel_rfl : opAt F20.o16 3 = some (some 47, .indexAddr 23 (.tmp 45) (.tmp 46), none)) rfl rfl hl rfl (by kernel_rfl) rfl (by omega) (by omega) ?_
          intro b47 o47 h47
          try simp only [Int.toNat_natCast] at h47
          have h48 := RA.bA h47
          refine yS (by kernel_rfl : opAt F20.o16 4 = some (some 48, .fieldAddr 50 (.tmp 47) 0, none)) rfl rfl (fun w' hS => val_fieldAddr (off := 0) (by kernel_rfl) rfl) ?_
          refine lSA (by kernel_rfl : opAt F20.o16 5 = some (some 49, .load 25 (.tmp 48), none)) rfl rfl (fun w' hS => h48.stay hS (by decide)) h48 (by kernel_rfl) (by kernel_rfl) rfl rfl ?_
          intro v49 g49
          obtain rfl := rv_couple.1 g49
          refine yS (by kernel_rfl : opAt F20.o16 7 = some (some 51, .move (.tmp 5), none)) rfl rfl (fun w' hS => val_move rfl) ?_
          refine yS (by kernel_rfl : opAt F20.o16 8 = some (some 52, .move (.tmp 0), none)) rfl rfl (fun w' hS => val_move rfl) ?_
          refine yS (by kernel_rfl : opAt F20.o16 9 = some (some 53, .move (.tmp 9), none)) rfl rfl (fun w' hS => val_move rfl) ?_
          refine iS (e := 50) (by kernel_rfl : opAt F20.o16 10 = some (some 54, .indexAddr 23 (.tmp 52) (.tmp 53), none)) rfl rfl hl rfl (by kernel_rfl) rfl (by omega) (by omega) ?_
          intro b54 o54 h54
          try simp only [Int.toNat_natCast] at h54
          have h55 := RA.bB h54
          refine yS (by kernel_rfl : opAt F20.o16 11 = some (some 55, .fieldAddr 50 (.tmp 54) 1, none)) rfl rfl (fun w' hS => val_fieldAddr (off := 2) (by kernel_rfl) rfl) ?_
          refine lSA (by kernel_rfl : opAt F20.o16 12 = some (some 56, .load 25 (.tmp 55), none)) rfl rfl (fun w' hS => h55.stay hS (by decide)) h55 (by kernel_rfl) (by kernel_rfl) rfl rfl ?_
          intro v56 g56
          obtain rfl := rv_couple.1 g56
          refine cS (by kernel_rfl : opAt F20.o16 6 = some (some 50, .call { callee := .value (.func 40), args := #[(.tmp 44), (.tmp 49)], argTypes := #[38, 25] }, none)) rfl rfl (ent Try.call40 rfl) (refIndex_ok (c := l[k].A) hF hrs) ?_
          rintro vw9 w9 ⟨rfl, hs⟩
          rw [hia]
          refine ⟨(hR.trans hs (by simp)).ext, ?_⟩
          replace hF := hF.st hs
          replace hT := hT.trans hs (by simp)
          replace hl := hl.st hs (by first | decide | (simp <;> omega))
          replace hrs := hrs.st hs (by first | decide | (simp <;> omega))
          replace hw := hw.st hs (by first | decide | (simp <;> omega)) (by first | decide | (simp <;> omega))
          replace hR := hR.trans hs (by simp)
          replace h47 := h47.st hs (by first | decide | (simp <;> omega))
          replace h48 := h48.st hs (by first | decide | (simp <;> omega))
          replace g49 := g49.st hs (by first | decide | (simp <;> omega))
          replace h54 := h54.st hs (by first | decide | (simp <;> omega))
          replace h55 := h55.st hs (by first | decide | (simp <;> omega))
          replace g56 := g56.st hs (by first | decide | (simp <;> omega))
          refine cS (by kernel_rfl : opAt F20.o16 13 = some (some 57, .call { callee := .value (.func 40), args := #[(.tmp 51), (.tmp 56)], argTypes := #[38, 25] }, none)) rfl rfl (ent Try.call40 rfl) (refIndex_ok (c := l[k].B) hF hrs) ?_
          rintro vw10 w10 ⟨rfl, hs⟩
          rw [hib]
          refine ⟨(hR.trans hs (by simp)).ext, ?_⟩
          replace hF := hF.st hs
          replace hT := hT.trans hs (by simp)
          replace hl := hl.st hs (by first | decide | (simp <;> omega))
          replace hrs := hrs.st hs (by first | decide | (simp <;> omega))
          replace hw := hw.st hs (by first | decide | (simp <;> omega)) (by first | decide | (simp <;> omega))
          replace hR := hR.trans hs (by simp)
          replace h47 := h47.st hs (by first | decide | (simp <;> omega))
          replace h48 := h48.st hs (by first | decide | (simp <;> omega))
          replace g49 := g49.st hs (by first | decide | (simp <;> omega))
          replace h54 := h54.st hs (by first | decide | (simp <;> omega))
          replace h55 := h55.st hs (by first | decide | (simp <;> omega))
          replace g56 := g56.st hs (by first | decide | (simp <;> omega))
          refine yS (by kernel_rfl : opAt F20.o16 14 = some (some 10, .assign (.tmp 50), none)) rfl rfl (fun w' hS => val_assign rfl) ?_
          refine yS (by kernel_rfl : opAt F20.o16 15 = some (some 11, .assign (.tmp 57), none)) rfl rfl (fun w' hS => val_assign rfl) ?_
          refine Sch.nil ?_
          refine run_seq (x := F20.c60) (y := F20.c61) (by kernel_rfl) ?_
          refine run_draw (id := 17) (ops := F20.o17) [] (C1) [(0, true), (1, true), (2, true), (3, true), (4, true), (5, true), (6, true), (7, true), (8, true)] Try_mixed (by kernel_rfl) (by kernel_rfl) (by kernel_rfl) ?_
          intro w11 hs
          replace hF := hF.st hs
          replace hT := hT.trans hs (by simp)
          replace hl := hl.st hs (by first | decide | (simp <;> omega))
          replace hrs := hrs.st hs (by first | decide | (simp <;> omega))
          replace hw := hw.st hs (by first | decide | (simp <;> omega)) (by first | decide | (simp <;> omega))
          replace h47 := h47.st hs (by first | decide | (simp <;> omega))
          replace h48 := h48.st hs (by first | decide | (simp <;> omega))
          replace g49 := g49.st hs (by first | decide | (simp <;> omega))
          replace h54 := h54.st hs (by first | decide | (simp <;> omega))
          replace h55 := h55.st hs (by first | decide | (simp <;> omega))
          replace g56 := g56.st hs (by first | decide | (simp <;> omega))
          refine yS (by kernel_rfl : opAt F20.o17 0 = some (some 58, .move (.tmp 6), none)) rfl rfl (fun w' hS => val_move rfl) ?_
          refine yS (by kernel_rfl : opAt F20.o17 1 = some (some 59, .move (.tmp 10), none)) rfl rfl (fun w' hS => val_move rfl) ?_
          refine oI (e' := 3) (by kernel_rfl : opAt F20.o17 2 = some (some 60, .indexAddr 22 (.tmp 58) (.tmp 59), none)) rfl rfl hw rfl (by kernel_rfl) rfl (by omega) (by omega) ?_
          intro g60 hg60
          try simp only [Int.toNat_natCast]
          refine oS (I := []) (by kernel_rfl : opAt F20.o17 3 = some (some 61, .load 3 (.tmp 60), none)) rfl rfl hw hg60 (fun w' hS => hw.stay hg60 hS (by first | decide | (simp <;> omega))) (by omega) (by kernel_rfl) rfl rfl ?_
          intro v61 g61
          try simp only [Int.toNat_natCast] at g61
          first | (obtain rfl := rv_nat.1 g61) | (obtain rfl := rv_int.1 g61)
          refine yS (by kernel_rfl : opAt F20.o17 4 = some (some 62, .move (.tmp 6), none)) rfl rfl (fun w' hS => val_move rfl) ?_
          refine yS (by kernel_rfl : opAt F20.o17 5 = some (some 63, .move (.tmp 11), none)) rfl rfl (fun w' hS => val_move rfl) ?_
          refine oI (e' := 3) (by kernel_rfl : opAt F20.o17 6 = some (some 64, .indexAddr 22 (.tmp 62) (.tmp 63), none)) rfl rfl hw rfl (by kernel_rfl) rfl (by omega) (by omega) ?_
          intro g64 hg64
          try simp only [Int.toNat_natCast]
          refine oS (I := []) (by kernel_rfl : opAt F20.o17 7 = some (some 65, .load 3 (.tmp 64), none)) rfl rfl hw hg64 (fun w' hS => hw.stay hg64 hS (by first | decide | (simp <;> omega))) (by omega) (by kernel_rfl) rfl rfl ?_
          intro v65 g65
          try simp only [Int.toNat_natCast] at g65
          first | (obtain rfl := rv_nat.1 g65) | (obtain rfl := rv_int.1 g65)
          refine yS (by kernel_rfl : opAt F20.o17 8 = some (some 66, .binOp .neq 3 (.tmp 61) (.tmp 65) 3, none)) rfl rfl (fun w' hS => val_neq rfl rfl) ?_
          refine Sch.nil ?_
          refine run_if (x := F20.c62) (y := F20.c67) (o := .tmp 66) (by kernel_rfl) rfl (fun h66 => ?_) (fun h66 => ?_)
          · skip
            have hne : lw[ia] ≠ lw[ib] := fun e => h66 (by rw [e])
            obtain ⟨hW3, hlt3⟩ := hW2.put (List.getElem_mem hkl) hia2 hib2 ea eb (by omega) (by omega) hne
            refine run_seq (x := F20.c63) (y := F20.c64) (by kernel_rfl) ?_
            refine run_draw (id := 18) (ops := F20.o18) [] (C1) [(0, true), (1, true), (2, true), (3, true), (4, true), (5, true), (6, true), (7, true), (8, true), (9, true)] Try_mixed (by kernel_rfl) (by kernel_rfl) (by kernel_rfl) ?_
            intro w12 hs
            replace hF := hF.st hs
            replace hT := hT.trans hs (by simp)
            replace hl := hl.st hs (by first | decide | (simp <;> omega))
            replace hrs := hrs.st hs (by first | decide | (simp <;> omega))
            replace hw := hw.st hs (by first | decide | (simp <;> omega)) (by first | decide | (simp <;> omega))
            replace h47 := h47.st hs (by first | decide | (simp <;> omega))
            replace h48 := h48.st hs (by first | decide | (simp <;> omega))
            replace g49 := g49.st hs (by first | decide | (simp <;> omega))
            replace h54 := h54.st hs (by first | decide | (simp <;> omega))
            replace h55 := h55.st hs (by first | decide | (simp <;> omega))
            replace g56 := g56.st hs (by first | decide | (simp <;> omega))
            refine yS (by kernel_rfl : opAt F20.o18 0 = some (some 67, .move (.tmp 6), none)) rfl rfl (fun w' hS => val_move rfl) ?_
            refine yS (by kernel_rfl : opAt F20.o18 1 = some (some 68, .move (.tmp 10), none)) rfl rfl (fun w' hS => val_move rfl) ?_
            refine oI (e' := 3) (by kernel_rfl : opAt F20.o18 2 = some (some 69, .indexAddr 22 (.tmp 67) (.tmp 68), none)) rfl rfl hw rfl (by kernel_rfl) rfl (by omega) (by omega) ?_
            intro g69 hg69
            try simp only [Int.toNat_natCast]
            refine oS (I := []) (by kernel_rfl : opAt F20.o18 3 = some (some 70, .load 3 (.tmp 69), none)) rfl rfl hw hg69 (fun w' hS => hw.stay hg69 hS (by first | decide | (simp <;> omega))) (by omega) (by kernel_rfl) rfl rfl ?_
            intro v70 g70
            try simp only [Int.toNat_natCast] at g70
            first | (obtain rfl := rv_nat.1 g70) | (obtain rfl := rv_int.1 g70)
            refine yS (by kernel_rfl : opAt F20.o18 4 = some (some 71, .move (.tmp 6), none)) rfl rfl (fun w' hS => val_move rfl) ?_
            refine yS (by kernel_rfl : opAt F20.o18 5 = some (some 72, .move (.tmp 11), none)) rfl rfl (fun w' hS => val_move rfl) ?_
            refine oI (e' := 3) (by kernel_rfl : opAt F20.o18 6 = some (some 73, .indexAddr 22 (.tmp 71) (.tmp 72), none)) rfl rfl hw rfl (by kernel_rfl) rfl (by omega) (by omega) ?_
            intro g73 hg73
            try simp only [Int.toNat_natCast]
            refine oS (I := []) (by kernel_rfl : opAt F20.o18 7 = some (some 74, .load 3 (.tmp 73), none)) rfl rfl hw hg73 (fun w' hS => hw.stay hg73 hS (by first | decide | (simp <;> omega))) (by omega) (by kernel_rfl) rfl rfl ?_
            intro v74 g74
            try simp only [Int.toNat_natCast] at g74
            first | (obtain rfl := rv_nat.1 g74) | (obtain rfl := rv_int.1 g74)
            refine yS (by kernel_rfl : opAt F20.o18 8 = some (some 75, .call { callee := .builtin .min, args := #[(.tmp 70), (.tmp 74)], argTypes := #[3, 3] }, none)) rfl rfl (fun w' hS => val_is (val_min rfl rfl Try.underlying3) (congrArg (Value.int .i64) (show min ((lw[ia] : Nat) : Int) ((lw[ib] : Nat) : Int) = ((min lw[ia] lw[ib] : Nat) : Int) from by omega))) ?_
            refine yS (by kernel_rfl : opAt F20.o18 9 = some (some 12, .assign (.tmp 75), none)) rfl rfl (fun w' hS => val_assign rfl) ?_
            refine Sch.nil ?_
            refine run_seq (x := F20.c65) (y := F20.c66) (by kernel_rfl) ?_
            refine run_plain (id := 19) (ops := F20.o19) [(0, true), (1, true), (2, true), (3, true), (4, true), (5, true), (6, true), (7, false), (8, true), (9, false)] (by kernel_rfl) (by kernel_rfl) ?_
            refine yS (by kernel_rfl : opAt F20.o19 0 = some (some 76, .move (.tmp 6), none)) rfl rfl (fun w' hS => val_move rfl) ?_
            refine yS (by kernel_rfl : opAt F20.o19 1 = some (some 77, .move (.tmp 10), none)) rfl rfl (fun w' hS => val_move rfl) ?_
            refine yS (by kernel_rfl : opAt F20.o19 2 = some (some 78, .move (.tmp 6), none)) rfl rfl (fun w' hS => val_move rfl) ?_
            refine yS (by kernel_rfl : opAt F20.o19 3 = some (some 79, .move (.tmp 11), none)) rfl rfl (fun w' hS => val_move rfl) ?_
            refine yS (by kernel_rfl : opAt F20.o19 4 = some (some 80, .move (.tmp 12), none)) rfl rfl (fun w' hS => val_move rfl) ?_
            refine yS (by kernel_rfl : opAt F20.o19 5 = some (some 81, .move (.tmp 12), none)) rfl rfl (fun w' hS => val_move rfl) ?_
            refine oI (e' := 3) (by kernel_rfl : opAt F20.o19 6 = some (some 82, .indexAddr 22 (.tmp 76) (.tmp 77), none)) rfl rfl hw rfl (by kernel_rfl) rfl (by omega) (by omega) ?_
            intro g82 hg82
            try simp only [Int.toNat_natCast]
            refine aN (by kernel_rfl : opAt F20.o19 7 = some (none, .store 3 (.tmp 82) (.tmp 80), none)) rfl (a_storeO hw hg82 (by omega) rfl rfl (by kernel_rfl) (rv_nat.2 rfl)) ?_
            rintro _ w13 ⟨rfl, hs, hw⟩
            refine ⟨trivial, ?_⟩
            replace hF := hF.st hs
            replace hT := hT.trans hs (by simp)
            replace hl := hl.st hs (by first | decide | (simp <;> omega))
            replace hrs := hrs.st hs (by first | decide | (simp <;> omega))
            replace h47 := h47.st hs (by first | decide | (simp <;> omega))
            replace h48 := h48.st hs (by first | decide | (simp <;> omega))
            replace g49 := g49.st hs (by first | decide | (simp <;> omega))
            replace h54 := h54.st hs (by first | decide | (simp <;> omega))
            replace h55 := h55.st hs (by first | decide | (simp <;> omega))
            replace g56 := g56.st hs (by first | decide | (simp <;> omega))
            have hs1 : (lw.set ia (min lw[ia] lw[ib])).length = lw.length := List.length_set
            refine oI (e' := 3) (by kernel_rfl : opAt F20.o19 8 = some (some 83, .indexAddr 22 (.tmp 78) (.tmp 79), none)) rfl rfl hw rfl (by kernel_rfl) rfl (by omega) (by omega) ?_
            intro g83 hg83
            try simp only [Int.toNat_natCast]
            refine aN (by kernel_rfl : opAt F20.o19 9 = some (none, .store 3 (.tmp 83) (.tmp 81), none)) rfl (a_storeO hw hg83 (by omega) rfl rfl (by kernel_rfl) (rv_nat.2 rfl)) ?_
            rintro _ w14 ⟨rfl, hs, hw⟩
            refine ⟨trivial, ?_⟩
            replace hF := hF.st hs
            replace hT := hT.trans hs (by simp)
            replace hl := hl.st hs (by first | decide | (simp <;> omega))
            replace hrs := hrs.st hs (by first | decide | (simp <;> omega))
            replace h47 := h47.st hs (by first | decide | (simp <;> omega))
            replace h48 := h48.st hs (by first | decide | (simp <;> omega))
            replace g49 := g49.st hs (by first | decide | (simp <;> omega))
            replace h54 := h54.st hs (by first | decide | (simp <;> omega))
            replace h55 := h55.st hs (by first | decide | (simp <;> omega))
            replace g56 := g56.st hs (by first | decide | (simp <;> omega))
            refine Sch.nil ?_
            refine run_plain (id := 20) (ops := F20.o20) [(0, true)] (by kernel_rfl) (by kernel_rfl) ?_
            refine yS (by kernel_rfl : opAt F20.o20 0 = some (some 8, .assign (.const (.bool true)), none)) rfl rfl (fun w' hS => val_assign rfl) ?_
            refine Sch.nil ?_
            refine run_inBlock ?_
            refine run_plain (id := 15) (ops := F20.o15) [(0, true), (1, true), (2, true)] (by kernel_rfl) (by kernel_rfl) ?_
            refine yS (by kernel_rfl : opAt F20.o15 0 = some (some 42, .move (.tmp 9), none)) rfl rfl (fun w' hS => val_move rfl) ?_
            refine yS (by kernel_rfl : opAt F20.o15 1 = some (some 43, .binOp .add 3 (.tmp 42) (.const (.int .i64 1)) 3, none)) rfl rfl (fun w' hS => val_addi rfl rfl (by omega) (by omega)) ?_
            refine yS (by kernel_rfl : opAt F20.o15 2 = some (some 9, .assign (.tmp 43), none)) rfl rfl (fun w' hS => val_assign rfl) ?_
            refine Sch.nil ?_
            refine kp (sub_cons 0 rfl rfl (sub_cons 5 rfl rfl (sub_cons 6 rfl rfl (sub_cons 8 rfl rfl (sub_cons 9 rfl (eq_int (by simp)) (sub_nil _)))))) (next3 (k + 1, (lw.set ia (min lw[ia] lw[ib])).set ib (min lw[ia] lw[ib]), true, C1) _ ⟨(by first | omega | (simp only; omega)), hW3, (by simp only; omega), (fun _ => by simp only; omega), (fun e => by cases e), hF, hT, hl, hrs, hw⟩ (by first | omega | (simp only; omega)))
          · skip
            have heq : lw[ia] = lw[ib] := by have := Classical.not_not.1 h66; exact_mod_cast this
            refine run_skip (by kernel_rfl) ?_
            refine run_inBlock ?_
            refine run_plain (id := 15) (ops := F20.o15) [(0, true), (1, true), (2, true)] (by kernel_rfl) (by kernel_rfl) ?_
            refine yS (by kernel_rfl : opAt F20.o15 0 = some (some 42, .move (.tmp 9), none)) rfl rfl (fun w' hS => val_move rfl) ?_
            refine yS (by kernel_rfl : opAt F20.o15 1 = some (some 43, .binOp .add 3 (.tmp 42) (.const (.int .i64 1)) 3, none)) rfl rfl (fun w' hS => val_addi rfl rfl (by omega) (by omega)) ?_
            refine yS (by kernel_rfl : opAt F20.o15 2 = some (some 9, .assign (.tmp 43), none)) rfl rfl (fun w' hS => val_assign rfl) ?_
            refine Sch.nil ?_
            refine kp (sub_cons 0 rfl rfl (sub_cons 5 rfl rfl (sub_cons 6 rfl rfl (sub_cons 8 rfl rfl (sub_cons 9 rfl (eq_int (by simp)) (sub_nil _)))))) (next3 (k + 1, lw, ch2, C1) _ ⟨(by first | omega | (simp only; omega)), hW2, hle, hlt, (fun e => by
                obtain ⟨e1, e2⟩ := hsm e
                refine ⟨e1, fun y hy a b ha hb ea' eb' => ?_⟩
                rw [List.take_succ_eq_append_getElem hkl] at hy
                rcases List.mem_append.1 hy with hy | hy
                · exact e2 y hy a b ha hb ea' eb'
                · simp only [List.mem_singleton] at hy; subst hy
                  obtain rfl := nodup_inj (refsS_nodup l) ha hia2 (by rw [ea', ea])
                  obtain rfl := nodup_inj (refsS_nodup l) hb hib2 (by rw [eb', eb])
                  show lw.getD a 0 = lw.getD b 0
                  rw [List.getD_eq_getElem?_getD, List.getD_eq_getElem?_getD, List.getElem?_eq_getElem (by omega), List.getElem?_eq_getElem (by omega)]; exact heq), hF, hT, hl, hrs, hw⟩ (by first | omega | (simp only; omega)))
        · skip
          have hkl : k = l.length := by omega
          subst hkl
          rw [List.take_length] at hsm
          refine run_exit (id := 4) (by kernel_rfl) rfl ?_
          refine run_inBlock ?_
          refine kp (sub_cons 0 rfl rfl (sub_cons 5 rfl rfl (sub_cons 6 rfl rfl (sub_cons 8 rfl rfl (sub_nil _))))) (next2 (lw, ch2, C1) _ ⟨hW2, (fun e => (hsm e).2), hF, hT, hl, hrs, hw⟩ (by
              simp only
              cases ch2 with
              | true => have := hlt rfl; simp; omega
              | false => have := (hsm rfl).1; subst this; simp))
      · skip
        have hfx := hcl h37
        refine run_exit (id := 2) (by kernel_rfl) rfl ?_
        refine run_seq (x := F20.c70) (y := F20.c71) (by kernel_rfl) ?_
        refine run_plain (id := 21) (ops := F20.o21) [(0, true)] (by kernel_rfl) (by kernel_rfl) ?_
        refine yS (by kernel_rfl : opAt F20.o21 0 = some (some 13, .assign (.const (.slice none 0 0)), none)) rfl rfl (fun w' hS => val_assign rfl) ?_
        refine Sch.nil ?_
        refine run_seq (x := F20.c72) (y := F20.c113) (by kernel_rfl) ?_
        refine run_seq (x := F20.c73) (y := F20.c74) (by kernel_rfl) ?_
        refine run_plain (id := 22) (ops := F20.o22) [(0, true)] (by kernel_rfl) (by kernel_rfl) ?_
        refine yS (by kernel_rfl : opAt F20.o22 0 = some (some 14, .assign (.const (.int .i64 0)), none)) rfl rfl (fun w' hS => val_assign rfl) ?_
        refine Sch.nil ?_
        refine run_block (x := F20.c75) (id := 6) (by kernel_rfl) ?_
        
        refine run_loop (ι := Nat × Value × (Nat → Nat)) (I := fun x w => x.1 ≤ (refsS l).length ∧ Lim w x.2.2 ∧ Stp [2, 3, 4, 5, 6, 7, 8, 9] w₀ (col1 C) w x.2.2 ∧ RV w (Mc x.2.2) l vl ∧ RV w (Mc x.2.2) (refsS l) vR ∧ OwnL w x.2.2 3 3 v26 low ∧ OwnL w x.2.2 4 38 x.2.1 (outS l x.1)) (e := fun x => [(0, vl), (5, vR), (6, v26), (13, x.2.1), (14, .int .i64 x.1)]) (m := fun x => (refsS l).length - x.1) (x₀ := (0, .slice none 0 0, C1)) (body := F20.c76) (by kernel_rfl) (sub_cons 0 rfl rfl (sub_cons 5 rfl rfl (sub_cons 6 rfl rfl (sub_cons 13 rfl rfl (sub_cons 14 rfl rfl (sub_nil _)))))) ?_ ?_
        · exact ⟨Nat.zero_le _, hF, hT, hl, hrs, hw, by rw [outS_zero]; exact OwnL.nil⟩
        intro ⟨i, vo, C1⟩ w15 hI next
        obtain ⟨hi, hF, hT, hl, hrs, hw, ho⟩ := hI
        try simp only at hi hF hT hl hrs hw ho
        have next4 := next
        clear next
        show Run _ _ _ _ [(0, vl), (5, vR), (6, v26), (13, vo), (14, .int .i64 i)] _ _
        have hwl := hW.len
        have hol := outS_len l i
        refine run_seq (x := F20.c77) (y := F20.c82) (by kernel_rfl) ?_
        refine run_seq (x := F20.c78) (y := F20.c79) (by kernel_rfl) ?_
        refine run_plain (id := 23) (ops := F20.o23) [(0, true), (1, true), (2, true), (3, true)] (by kernel_rfl) (by kernel_rfl) ?_
        refine yS (by kernel_rfl : opAt F20.o23 0 = some (some 84, .move (.tmp 14), none)) rfl rfl (fun w' hS => val_move rfl) ?_
        refine yS (by kernel_rfl : opAt F20.o23 1 = some (some 85, .move (.tmp 5), none)) rfl rfl (fun w' hS => val_move rfl) ?_
        refine yS (by kernel_rfl : opAt F20.o23 2 = some (some 86, .call { callee := .builtin .len, args := #[(.tmp 85)], argTypes := #[38] }, none)) rfl rfl (fun w' hS => hrs.lenV rfl Try.underlying38 w' ) ?_
        refine yS (by kernel_rfl : opAt F20.o23 3 = some (some 87, .binOp .lss 3 (.tmp 84) (.tmp 86) 3, none)) rfl rfl (fun w' hS => val_lss rfl rfl) ?_
        refine Sch.nil ?_
        refine run_if (x := F20.c80) (y := F20.c81) (o := .tmp 87) (by kernel_rfl) rfl (fun h87 => ?_) (fun h87 => ?_)
        · skip
          have hil : i < (refsS l).length := by omega
          have hst := outS_step hW hfx hil (by omega)
          refine run_skip (by kernel_rfl) ?_
          refine run_seq (x := F20.c83) (y := F20.c112) (by kernel_rfl) ?_
          refine run_block (x := F20.c84) (id := 7) (by kernel_rfl) ?_
          refine run_seq (x := F20.c85) (y := F20.c90) (by kernel_rfl) ?_
          refine run_seq (x := F20.c86) (y := F20.c87) (by kernel_rfl) ?_
          refine run_plain (id := 25) (ops := F20.o25) [(0, true), (1, true), (2, true), (3, false), (4, true), (5, true)] (by kernel_rfl) (by kernel_rfl) ?_
          refine yS (by kernel_rfl : opAt F20.o25 0 = some (some 90, .move (.tmp 6), none)) rfl rfl (fun w' hS => val_move rfl) ?_
          refine yS (by kernel_rfl : opAt F20.o25 1 = some (some 91, .move (.tmp 14), none)) rfl rfl (fun w' hS => val_move rfl) ?_
          refine oI (e' := 3) (by kernel_rfl : opAt F20.o25 2 = some (some 92, .indexAddr 22 (.tmp 90) (.tmp 91), none)) rfl rfl hw rfl (by kernel_rfl) rfl (by omega) (by omega) ?_
          intro g92 hg92
          try simp only [Int.toNat_natCast]
          refine oN (by kernel_rfl : opAt F20.o25 3 = some (some 93, .load 3 (.tmp 92), none)) rfl rfl trivial hw hg92 (by omega) (by kernel_rfl) rfl rfl ?_
          intro v93 g93
          try simp only [Int.toNat_natCast] at g93
          first | (obtain rfl := rv_nat.1 g93) | (obtain rfl := rv_int.1 g93)
          refine yS (by kernel_rfl : opAt F20.o25 4 = some (some 94, .move (.tmp 14), none)) rfl rfl (fun w' hS => val_move rfl) ?_
          refine yS (by kernel_rfl : opAt F20.o25 5 = some (some 95, .binOp .neq 3 (.tmp 93) (.tmp 94) 3, none)) rfl rfl (fun w' hS => val_neq rfl rfl) ?_
          refine Sch.nil ?_
          refine run_if (x := F20.c88) (y := F20.c89) (o := .tmp 95) (by kernel_rfl) rfl (fun h95 => ?_) (fun h95 => ?_)
          · skip
            have hne : ¬ low[i] = i := fun e => h95 (by exact_mod_cast e)
            rw [if_neg hne] at hst
            refine run_exit (id := 7) (by kernel_rfl) rfl ?_
            refine run_plain (id := 24) (ops := F20.o24) [(0, true), (1, true), (2, true)] (by kernel_rfl) (by kernel_rfl) ?_
            refine yS (by kernel_rfl : opAt F20.o24 0 = some (some 88, .move (.tmp 14), none)) rfl rfl (fun w' hS => val_move rfl) ?_
            refine yS (by kernel_rfl : opAt F20.o24 1 = some (some 89, .binOp .add 3 (.tmp 88) (.const (.int .i64 1)) 3, none)) rfl rfl (fun w' hS => val_addi rfl rfl (by omega) (by omega)) ?_
            refine yS (by kernel_rfl : opAt F20.o24 2 = some (some 14, .assign (.tmp 89), none)) rfl rfl (fun w' hS => val_assign rfl) ?_
            refine Sch.nil ?_
            refine kp (sub_cons 0 rfl rfl (sub_cons 5 rfl rfl (sub_cons 6 rfl rfl (sub_cons 13 rfl rfl (sub_cons 14 rfl (eq_int (by simp)) (sub_nil _)))))) (next4 (i + 1, vo, C1) _ ⟨(by first | omega | (simp only; omega)), hF, hT, hl, hrs, hw, (by simp only; rw [hst]; exact ho)⟩ (by first | omega | (simp only; omega)))
          · skip
            have heq : low[i] = i := by have := Classical.not_not.1 h95; exact_mod_cast this
            rw [if_pos heq] at hst
            obtain ⟨pr, hpr⟩ : ∃ p : Couple → Bool, p = fun r => decide (rhoS l r = rhoS l (refsS l)[i]) := ⟨_, rfl⟩
            rw [← hpr] at hst
            refine run_skip (by kernel_rfl) ?_
            refine run_seq (x := F20.c91) (y := F20.c92) (by kernel_rfl) ?_
            refine run_plain (id := 26) (ops := F20.o26) [(0, true)] (by kernel_rfl) (by kernel_rfl) ?_
            refine yS (by kernel_rfl : opAt F20.o26 0 = some (some 15, .assign (.const (.slice none 0 0)), none)) rfl rfl (fun w' hS => val_assign rfl) ?_
            refine Sch.nil ?_
            refine run_seq (x := F20.c93) (y := F20.c111) (by kernel_rfl) ?_
            refine run_seq (x := F20.c94) (y := F20.c95) (by kernel_rfl) ?_
            refine run_plain (id := 27) (ops := F20.o27) [(0, true)] (by kernel_rfl) (by kernel_rfl) ?_
            refine yS (by kernel_rfl : opAt F20.o27 0 = some (some 16, .assign (.const (.int .i64 0)), none)) rfl rfl (fun w' hS => val_assign rfl) ?_
            refine Sch.nil ?_
            refine run_block (x := F20.c96) (id := 8) (by kernel_rfl) ?_
            
            refine run_loop (ι := Nat × Value × (Nat → Nat)) (I := fun x w => x.1 ≤ (refsS l).length ∧ Lim w x.2.2 ∧ Stp [2, 3, 4, 5, 6, 7, 8, 9] w₀ (col1 C) w x.2.2 ∧ RV w (Mc x.2.2) l vl ∧ RV w (Mc x.2.2) (refsS l) vR ∧ OwnL w x.2.2 3 3 v26 low ∧ OwnL w x.2.2 4 38 vo (outS l i) ∧ OwnL w x.2.2 5 25 x.2.1 (((refsS l).take x.1).filter pr)) (e := fun x => [(0, vl), (5, vR), (6, v26), (13, vo), (14, .int .i64 i), (15, x.2.1), (16, .int .i64 x.1)]) (m := fun x => (refsS l).length - x.1) (x₀ := (0, .slice none 0 0, C1)) (body := F20.c97) (by kernel_rfl) (sub_cons 0 rfl rfl (sub_cons 5 rfl rfl (sub_cons 6 rfl rfl (sub_cons 13 rfl rfl (sub_cons 14 rfl rfl (sub_cons 15 rfl rfl (sub_cons 16 rfl rfl (sub_nil _)))))))) ?_ ?_
            · exact ⟨Nat.zero_le _, hF, hT, hl, hrs, hw, ho, OwnL.nil⟩
            intro ⟨k, vp, C1⟩ w16 hI next
            obtain ⟨hk, hF, hT, hl, hrs, hw, ho, hp⟩ := hI
            try simp only at hk hF hT hl hrs hw ho hp
            have next5 := next
            clear next
            show Run _ _ _ _ [(0, vl), (5, vR), (6, v26), (13, vo), (14, .int .i64 i), (15, vp), (16, .int .i64 k)] _ _
            have hpl := List.length_filter_le pr ((refsS l).take k)
            rw [List.length_take] at hpl
            refine run_seq (x := F20.c98) (y := F20.c103) (by kernel_rfl) ?_
            refine run_seq (x := F20.c99) (y := F20.c100) (by kernel_rfl) ?_
            refine run_plain (id := 28) (ops := F20.o28) [(0, true), (1, true), (2, true), (3, true)] (by kernel_rfl) (by kernel_rfl) ?_
            refine yS (by kernel_rfl : opAt F20.o28 0 = some (some 96, .move (.tmp 16), none)) rfl rfl (fun w' hS => val_move rfl) ?_
            refine yS (by kernel_rfl : opAt F20.o28 1 = some (some 97, .move (.tmp 5), none)) rfl rfl (fun w' hS => val_move rfl) ?_
            refine yS (by kernel_rfl : opAt F20.o28 2 = some (some 98, .call { callee := .builtin .len, args := #[(.tmp 97)], argTypes := #[38] }, none)) rfl rfl (fun w' hS => hrs.lenV rfl Try.underlying38 w' ) ?_
            refine yS (by kernel_rfl : opAt F20.o28 3 = some (some 99, .binOp .lss 3 (.tmp 96) (.tmp 98) 3, none)) rfl rfl (fun w' hS => val_lss rfl rfl) ?_
            refine Sch.nil ?_
            refine run_if (x := F20.c101) (y := F20.c102) (o := .tmp 99) (by kernel_rfl) rfl (fun h99 => ?_) (fun h99 => ?_)
            · skip
              have hkl : k < (refsS l).length := by omega
              have hft := filter_take pr hkl
              refine run_skip (by kernel_rfl) ?_
              refine run_seq (x := F20.c104) (y := F20.c110) (by kernel_rfl) ?_
              refine run_block (x := F20.c105) (id := 9) (by kernel_rfl) ?_
              refine run_seq (x := F20.c106) (y := F20.c107) (by kernel_rfl) ?_
              refine run_plain (id := 30) (ops := F20.o30) [(0, true), (1, true), (2, true), (3, false), (4, true), (5, true)] (by kernel_rfl) (by kernel_rfl) ?_
              refine yS (by kernel_rfl : opAt F20.o30 0 = some (some 102, .move (.tmp 6), none)) rfl rfl (fun w' hS => val_move rfl) ?_
              refine yS (by kernel_rfl : opAt F20.o30 1 = some (some 103, .move (.tmp 16), none)) rfl rfl (fun w' hS => val_move rfl) ?_
              refine oI (e' := 3) (by kernel_rfl : opAt F20.o30 2 = some (some 104, .indexAddr 22 (.tmp 102) (.tmp 103), none)) rfl rfl hw rfl (by kernel_rfl) rfl (by omega) (by omega) ?_
              intro g104 hg104
              try simp only [Int.toNat_natCast]
              refine oN (by kernel_rfl : opAt F20.o30 3 = some (some 105, .load 3 (.tmp 104), none)) rfl rfl trivial hw hg104 (by omega) (by kernel_rfl) rfl rfl ?_
              intro v105 g105
              try simp only [Int.toNat_natCast] at g105
              first | (obtain rfl := rv_nat.1 g105) | (obtain rfl := rv_int.1 g105)
              refine yS (by kernel_rfl : opAt F20.o30 4 = some (some 106, .move (.tmp 14), none)) rfl rfl (fun w' hS => val_move rfl) ?_
              refine yS (by kernel_rfl : opAt F20.o30 5 = some (some 107, .binOp .eql 3 (.tmp 105) (.tmp 106) 3, none)) rfl rfl (fun w' hS => val_eql rfl rfl) ?_
              refine Sch.nil ?_
              refine run_if (x := F20.c108) (y := F20.c109) (o := .tmp 107) (by kernel_rfl) rfl (fun h107 => ?_) (fun h107 => ?_)
              · skip
                have hpk : pr (refsS l)[k] = true := by rw [hpr]; exact decide_eq_true ((low_is hW hfx hil hkl (by omega) (by omega) heq).1 (by exact_mod_cast h107))
                rw [if_pos hpk] at hft
                refine run_plain (id := 31) (ops := F20.o31) [(0, true), (1, true), (2, true), (3, true), (4, false), (5, false), (6, false), (7, true)] (by kernel_rfl) (by kernel_rfl) ?_
                refine yS (by kernel_rfl : opAt F20.o31 0 = some (some 108, .move (.tmp 15), none)) rfl rfl (fun w' hS => val_move rfl) ?_
                refine yS (by kernel_rfl : opAt F20.o31 1 = some (some 109, .move (.tmp 5), none)) rfl rfl (fun w' hS => val_move rfl) ?_
                refine yS (by kernel_rfl : opAt F20.o31 2 = some (some 110, .move (.tmp 16), none)) rfl rfl (fun w' hS => val_move rfl) ?_
                refine iS (e := 25) (by kernel_rfl : opAt F20.o31 3 = some (some 111, .indexAddr 38 (.tmp 109) (.tmp 110), none)) rfl rfl hrs rfl (by kernel_rfl) rfl (by omega) (by omega) ?_
                intro b111 o111 h111
                try simp only [Int.toNat_natCast] at h111
                refine lNA (by kernel_rfl : opAt F20.o31 4 = some (some 112, .load 25 (.tmp 111), none)) rfl rfl trivial h111 (by kernel_rfl) (by kernel_rfl) rfl rfl ?_
                intro v112 g112
                obtain rfl := rv_couple.1 g112
                refine aS (by kernel_rfl : opAt F20.o31 5 = some (some 113, .buildSlice 38 1 #[(0, (.tmp 112))], none)) rfl rfl (a_buildSlice (ys := ([(refsS l)[k]] : List Couple)) (e := 25) (bytes := 16) hF (by kernel_rfl) rfl (by decide) (by decide) ⟨rfl, ⟨_, rfl, rv_couple.2 rfl⟩, trivial⟩) ?_
                rintro v113 w17 ⟨hs, g113, hF⟩
                refine ⟨trivial, ?_⟩
                replace hT := hT.trans hs (by simp)
                replace hl := hl.st hs (by first | decide | (simp <;> omega))
                replace hrs := hrs.st hs (by first | decide | (simp <;> omega))
                replace hw := hw.st hs (by first | decide | (simp <;> omega)) (by first | decide | (simp <;> omega))
                replace ho := ho.st hs (by first | decide | (simp <;> omega)) (by first | decide | (simp <;> omega))
                replace hp := hp.st hs (by first | decide | (simp <;> omega)) (by first | decide | (simp <;> omega))
                replace h111 := h111.st hs (by first | decide | (simp <;> omega))
                replace g112 := g112.st hs (by first | decide | (simp <;> omega))
                refine aS (by kernel_rfl : opAt F20.o31 6 = some (some 114, .call { callee := .builtin .append, args := #[(.tmp 108), (.tmp 113)], argTypes := #[38, 38] }, none)) rfl rfl (a_append (e := 25) (bytes := 16) hF (by decide) rfl rfl (by kernel_rfl) (by decide) hp g113 (by simp only [List.length_cons, List.length_nil]; omega) (by simp only [List.length_cons, List.length_nil]; omega)) ?_
                rintro v114 w18 ⟨Cw18, hs, hp, hF⟩
                refine ⟨trivial, ?_⟩
                replace hT := hT.trans hs (by simp)
                replace hl := hl.st hs (by first | decide | (simp <;> omega))
                replace hrs := hrs.st hs (by first | decide | (simp <;> omega))
                replace hw := hw.st hs (by first | decide | (simp <;> omega)) (by first | decide | (simp <;> omega))
                replace ho := ho.st hs (by first | decide | (simp <;> omega)) (by first | decide | (simp <;> omega))
                replace h111 := h111.st hs (by first | decide | (simp <;> omega))
                replace g112 := g112.st hs (by first | decide | (simp <;> omega))
                replace g113 := g113.st hs (by first | decide | (simp <;> omega))
                refine yS (by kernel_rfl : opAt F20.o31 7 = some (some 15, .assign (.tmp 114), none)) rfl rfl (fun w' hS => val_assign rfl) ?_
                refine Sch.nil ?_
                refine run_inBlock ?_
                refine run_plain (id := 29) (ops := F20.o29) [(0, true), (1, true), (2, true)] (by kernel_rfl) (by kernel_rfl) ?_
                refine yS (by kernel_rfl : opAt F20.o29 0 = some (some 100, .move (.tmp 16), none)) rfl rfl (fun w' hS => val_move rfl) ?_
                refine yS (by kernel_rfl : opAt F20.o29 1 = some (some 101, .binOp .add 3 (.tmp 100) (.const (.int .i64 1)) 3, none)) rfl rfl (fun w' hS => val_addi rfl rfl (by omega) (by omega)) ?_
                refine yS (by kernel_rfl : opAt F20.o29 2 = some (some 16, .assign (.tmp 101), none)) rfl rfl (fun w' hS => val_assign rfl) ?_
                refine Sch.nil ?_
                refine kp (sub_cons 0 rfl rfl (sub_cons 5 rfl rfl (sub_cons 6 rfl rfl (sub_cons 13 rfl rfl (sub_cons 14 rfl rfl (sub_cons 15 rfl rfl (sub_cons 16 rfl (eq_int (by simp)) (sub_nil _)))))))) (next5 (k + 1, v114, Cw18) _ ⟨(by first | omega | (simp only; omega)), hF, hT, hl, hrs, hw, ho, (by simp only; rw [hft]; exact hp)⟩ (by first | omega | (simp only; omega)))
              · skip
                have hpk : ¬ pr (refsS l)[k] = true := by rw [hpr]; intro e; exact h107 (by have := (low_is hW hfx hil hkl (by omega) (by omega) heq).2 (of_decide_eq_true e); exact_mod_cast this)
                rw [if_neg hpk] at hft
                refine run_skip (by kernel_rfl) ?_
                refine run_inBlock ?_
                refine run_plain (id := 29) (ops := F20.o29) [(0, true), (1, true), (2, true)] (by kernel_rfl) (by kernel_rfl) ?_
                refine yS (by kernel_rfl : opAt F20.o29 0 = some (some 100, .move (.tmp 16), none)) rfl rfl (fun w' hS => val_move rfl) ?_
                refine yS (by kernel_rfl : opAt F20.o29 1 = some (some 101, .binOp .add 3 (.tmp 100) (.const (.int .i64 1)) 3, none)) rfl rfl (fun w' hS => val_addi rfl rfl (by omega) (by omega)) ?_
                refine yS (by kernel_rfl : opAt F20.o29 2 = some (some 16, .assign (.tmp 101), none)) rfl rfl (fun w' hS => val_assign rfl) ?_
                refine Sch.nil ?_
                refine kp (sub_cons 0 rfl rfl (sub_cons 5 rfl rfl (sub_cons 6 rfl rfl (sub_cons 13 rfl rfl (sub_cons 14 rfl rfl (sub_cons 15 rfl rfl (sub_cons 16 rfl (eq_int (by simp)) (sub_nil _)))))))) (next5 (k + 1, vp, C1) _ ⟨(by first | omega | (simp only; omega)), hF, hT, hl, hrs, hw, ho, (by simp only; rw [hft]; exact hp)⟩ (by first | omega | (simp only; omega)))
            · skip
              have hkl : k = (refsS l).length := by omega
              subst hkl
              rw [List.take_length] at hp
              have hpl2 := List.length_filter_le pr (refsS l)
              replace hF := hF.frz 5
              replace hT := hT.frz (n := 5) (fun b => Nat.lt_of_lt_of_le (col1_lt2 C b) (by decide))
              replace hl := hl.frz 5
              replace hrs := hrs.frz 5
              replace hw := hw.frzK (n := 5) (by decide)
              replace ho := ho.frzK (n := 5) (by decide)
              have hpv := hp.frz (n := 5) (by decide) (by omega)
              refine run_exit (id := 8) (by kernel_rfl) rfl ?_
              refine run_plain (id := 32) (ops := F20.o32) [(0, true), (1, true), (2, false), (3, false), (4, true)] (by kernel_rfl) (by kernel_rfl) ?_
              refine yS (by kernel_rfl : opAt F20.o32 0 = some (some 115, .move (.tmp 13), none)) rfl rfl (fun w' hS => val_move rfl) ?_
              refine yS (by kernel_rfl : opAt F20.o32 1 = some (some 116, .move (.tmp 15), none)) rfl rfl (fun w' hS => val_move rfl) ?_
              refine aS (by kernel_rfl : opAt F20.o32 2 = some (some 117, .buildSlice 26 1 #[(0, (.tmp 116))], none)) rfl rfl (a_buildSlice (ys := ([(refsS l).filter pr] : List (List Couple))) (e := 38) (bytes := 24) hF (by kernel_rfl) rfl (by decide) (by decide) ⟨rfl, ⟨_, rfl, hpv⟩, trivial⟩) ?_
              rintro v117 w19 ⟨hs, g117, hF⟩
              refine ⟨trivial, ?_⟩
              replace hT := hT.trans hs (by simp)
              replace hl := hl.st hs (by first | decide | (simp <;> omega))
              replace hrs := hrs.st hs (by first | decide | (simp <;> omega))
              replace hw := hw.st hs (by first | decide | (simp <;> omega)) (by first | decide | (simp <;> omega))
              replace ho := ho.st hs (by first | decide | (simp <;> omega)) (by first | decide | (simp <;> omega))
              replace hpv := hpv.st hs (by first | decide | (simp <;> omega))
              refine aS (by kernel_rfl : opAt F20.o32 3 = some (some 118, .call { callee := .builtin .append, args := #[(.tmp 115), (.tmp 117)], argTypes := #[26, 26] }, none)) rfl rfl (a_append (e := 38) (bytes := 24) hF (by decide) rfl rfl (by kernel_rfl) (by decide) ho g117 (by simp only [List.length_cons, List.length_nil]; omega) (by simp only [List.length_cons, List.length_nil]; omega)) ?_
              rintro v118 w20 ⟨Cw20, hs, ho, hF⟩
              refine ⟨trivial, ?_⟩
              replace hT := hT.trans hs (by simp)
              replace hl := hl.st hs (by first | decide | (simp <;> omega))
              replace hrs := hrs.st hs (by first | decide | (simp <;> omega))
              replace hw := hw.st hs (by first | decide | (simp <;> omega)) (by first | decide | (simp <;> omega))
              replace hpv := hpv.st hs (by first | decide | (simp <;> omega))
              replace g117 := g117.st hs (by first | decide | (simp <;> omega))
              refine yS (by kernel_rfl : opAt F20.o32 4 = some (some 13, .assign (.tmp 118), none)) rfl rfl (fun w' hS => val_assign rfl) ?_
              refine Sch.nil ?_
              refine run_inBlock ?_
              refine run_plain (id := 24) (ops := F20.o24) [(0, true), (1, true), (2, true)] (by kernel_rfl) (by kernel_rfl) ?_
              refine yS (by kernel_rfl : opAt F20.o24 0 = some (some 88, .move (.tmp 14), none)) rfl rfl (fun w' hS => val_move rfl) ?_
              refine yS (by kernel_rfl : opAt F20.o24 1 = some (some 89, .binOp .add 3 (.tmp 88) (.const (.int .i64 1)) 3, none)) rfl rfl (fun w' hS => val_addi rfl rfl (by omega) (by omega)) ?_
              refine yS (by kernel_rfl : opAt F20.o24 2 = some (some 14, .assign (.tmp 89), none)) rfl rfl (fun w' hS => val_assign rfl) ?_
              refine Sch.nil ?_
              refine kp (sub_cons 0 rfl rfl (sub_cons 5 rfl rfl (sub_cons 6 rfl rfl (sub_cons 13 rfl rfl (sub_cons 14 rfl (eq_int (by simp)) (sub_nil _)))))) (next4 (i + 1, v118, Cw20) _ ⟨(by first | omega | (simp only; omega)), hF, hT, hl, hrs, hw, (by simp only; rw [hst]; exact ho)⟩ (by first | omega | (simp only; omega)))
        · skip
          have hil : i = (refsS l).length := by omega
          subst hil
          rw [outS_all] at ho
          refine run_exit (id := 6) (by kernel_rfl) rfl ?_
          refine run_seq (x := F20.c114) (y := F20.c115) (by kernel_rfl) ?_
          refine run_plain (id := 33) (ops := F20.o33) [(0, true), (1, true), (2, true)] (by kernel_rfl) (by kernel_rfl) ?_
          refine yS (by kernel_rfl : opAt F20.o33 0 = some (some 119, .move (.tmp 13), none)) rfl rfl (fun w' hS => val_move rfl) ?_
          refine yS (by kernel_rfl : opAt F20.o33 1 = some (some 2, .assign (.tmp 119), none)) rfl rfl (fun w' hS => val_assign rfl) ?_
          refine yS (by kernel_rfl : opAt F20.o33 2 = some (some 3, .assign (.const (.int .i64 0)), none)) rfl rfl (fun w' hS => val_assign rfl) ?_
          refine Sch.nil ?_
          refine run_ret2 (by kernel_rfl) Try.func20 Try.results20 rfl rfl ?_
          rw [hck]
          exact ⟨_, rfl, hT.out1 (by decide), by rw [if_pos rfl]; exact ho.out hT hF0 (Mc_col1 C) (fun b _ => col1_lt C (by decide) b) (by have := partsS_len l; omega)⟩
end Go.Proofs.Ytfmdkdfhnkennaa

