/- Steps through functions of the program. -/
import Derived.Test.YtfmdkdfhnkennaaKCC
set_option linter.unusedVariables false
set_option linter.unusedSimpArgs false
set_option maxRecDepth 100000
set_option maxHeartbeats 400000
namespace Go.Proofs.Ytfmdkdfhnkennaa
open Go.K Go.K.Rep

namespace F7
noncomputable def c0 : Code := bodyOf Try.f7
noncomputable def c1 : Code := cl c0
noncomputable def o0 : Array Oper := rops c1
noncomputable def c2 : Code := cr c0
noncomputable def c3 : Code := cl c2
noncomputable def c4 : Code := cl c3
noncomputable def o1 : Array Oper := rops c4
noncomputable def c5 : Code := cr c3
noncomputable def c6 : Code := cl c5
noncomputable def c7 : Code := cl c6
noncomputable def o2 : Array Oper := rops c7
noncomputable def c8 : Code := cr c6
noncomputable def c9 : Code := cr c5
noncomputable def c10 : Code := cr c2
noncomputable def c11 : Code := cl c10
noncomputable def o3 : Array Oper := rops c11
noncomputable def c12 : Code := cr c10
noncomputable def c13 : Code := cl c12
noncomputable def o4 : Array Oper := rops c13
noncomputable def c14 : Code := cr c12
noncomputable def c15 : Code := cl c14
noncomputable def o5 : Array Oper := rops c15
noncomputable def c16 : Code := cr c14
noncomputable def c17 : Code := cl c16
noncomputable def c18 : Code := cl c17
noncomputable def o6 : Array Oper := rops c18
noncomputable def c19 : Code := cr c17
noncomputable def c20 : Code := cl c19
noncomputable def c21 : Code := cl c20
noncomputable def c22 : Code := cl c21
noncomputable def o7 : Array Oper := rops c22
noncomputable def c23 : Code := cr c21
noncomputable def c24 : Code := cl c23
noncomputable def c25 : Code := cl c24
noncomputable def c26 : Code := cr c24
noncomputable def c27 : Code := cr c23
noncomputable def c28 : Code := cl c27
noncomputable def c29 : Code := cl c28
noncomputable def c30 : Code := cl c29
noncomputable def o8 : Array Oper := rops c30
noncomputable def c31 : Code := cr c29
noncomputable def c32 : Code := cl c31
noncomputable def o9 : Array Oper := rops c32
noncomputable def c33 : Code := cr c31
noncomputable def c34 : Code := cl c33
noncomputable def o10 : Array Oper := rops c34
noncomputable def c35 : Code := cr c33
noncomputable def o11 : Array Oper := rops c35
noncomputable def c36 : Code := cr c27
noncomputable def o12 : Array Oper := rops c36
noncomputable def c37 : Code := cr c16
noncomputable def c38 : Code := cl c37
noncomputable def o13 : Array Oper := rops c38
noncomputable def c39 : Code := cr c37
noncomputable def c40 : Code := cl c39
noncomputable def o14 : Array Oper := rops c40
noncomputable def c41 : Code := cr c39
noncomputable def c42 : Code := cl c41
noncomputable def c43 : Code := cl c42
noncomputable def o15 : Array Oper := rops c43
noncomputable def c44 : Code := cr c42
noncomputable def c45 : Code := cl c44
noncomputable def c46 : Code := cl c45
noncomputable def o16 : Array Oper := rops c46
noncomputable def c47 : Code := cr c45
noncomputable def c48 : Code := cr c44
noncomputable def c49 : Code := cr c41
noncomputable def c50 : Code := cl c49
noncomputable def c51 : Code := cl c50
noncomputable def o17 : Array Oper := rops c51
noncomputable def c52 : Code := cr c50
noncomputable def c53 : Code := cl c52
noncomputable def c54 : Code := cl c53
noncomputable def c55 : Code := cl c54
noncomputable def o18 : Array Oper := rops c55
noncomputable def c56 : Code := cr c54
noncomputable def c57 : Code := cl c56
noncomputable def c58 : Code := cl c57
noncomputable def c59 : Code := cr c57
noncomputable def c60 : Code := cr c56
noncomputable def c61 : Code := cl c60
noncomputable def c62 : Code := cl c61
noncomputable def c63 : Code := cl c62
noncomputable def o19 : Array Oper := rops c63
noncomputable def c64 : Code := cr c62
noncomputable def c65 : Code := cl c64
noncomputable def c66 : Code := cl c65
noncomputable def o20 : Array Oper := rops c66
noncomputable def c67 : Code := cr c65
noncomputable def c68 : Code := cl c67
noncomputable def c69 : Code := cl c68
noncomputable def o21 : Array Oper := rops c69
noncomputable def c70 : Code := cr c68
noncomputable def c71 : Code := cr c67
noncomputable def c72 : Code := cr c64
noncomputable def c73 : Code := cl c72
noncomputable def o22 : Array Oper := rops c73
noncomputable def c74 : Code := cr c72
noncomputable def c75 : Code := cl c74
noncomputable def c76 : Code := cl c75
noncomputable def c77 : Code := cl c76
noncomputable def o23 : Array Oper := rops c77
noncomputable def c78 : Code := cr c76
noncomputable def c79 : Code := cl c78
noncomputable def c80 : Code := cl c79
noncomputable def c81 : Code := cr c79
noncomputable def c82 : Code := cr c78
noncomputable def c83 : Code := cl c82
noncomputable def c84 : Code := cl c83
noncomputable def c85 : Code := cl c84
noncomputable def o24 : Array Oper := rops c85
noncomputable def c86 : Code := cr c84
noncomputable def c87 : Code := cl c86
noncomputable def o25 : Array Oper := rops c87
noncomputable def c88 : Code := cr c86
noncomputable def c89 : Code := cl c88
noncomputable def c90 : Code := cl c89
noncomputable def o26 : Array Oper := rops c90
noncomputable def c91 : Code := cr c89
noncomputable def c92 : Code := cr c88
noncomputable def c93 : Code := cr c82
noncomputable def o27 : Array Oper := rops c93
noncomputable def c94 : Code := cr c60
noncomputable def o28 : Array Oper := rops c94
noncomputable def c95 : Code := cr c49
noncomputable def c96 : Code := cl c95
noncomputable def o29 : Array Oper := rops c96
noncomputable def c97 : Code := cr c95
end F7
/-- The statement's function answers true. -/
theorem componentNames_ok {w₀ : World} {C : Nat → Nat} {l : List Int} {vl : Value} {m : Nat} (hm : m < 256) (hF : Lim w₀ C) (hl : RV w₀ (Mc C) l vl) : Calls Try.prog 7 #[vl, .int .u8 (m : Int)] w₀ (Ret fun v w' => v = .bool true ∧ Stp [] w₀ C w' C) := by
  have hF0 := hF
  have hT := Stp.refl [2, 3, 4, 5, 6, 7, 8, 9] w₀ (col1 C)
  replace hF := hF.col1
  replace hl : RV w₀ (Mc (col1 C)) l vl := by rw [Mc_col1]; exact hl
  refine calls_start (c := F7.c0) (N := 150) [vl, .int .u8 (m : Int)] Try.func7 (by kernel_rfl) (by kernel_rfl) (by kernel_rfl) ?_
  show Run _ _ _ _ [(0, vl), (1, .int .u8 (m : Int))] _ _
  refine run_seq (x := F7.c1) (y := F7.c2) (by kernel_rfl) ?_
  refine run_plain (id := 0) (ops := F7.o0) [(0, true)] (by kernel_rfl) (by kernel_rfl) ?_
  refine yS (by kernel_rfl : opAt F7.o0 0 = some (some 4, .assign (.const (.bool false)), none)) rfl rfl (fun w' hS => val_assign rfl) ?_
  refine Sch.nil ?_
  refine run_seq (x := F7.c3) (y := F7.c10) (by kernel_rfl) ?_
  refine run_seq (x := F7.c4) (y := F7.c5) (by kernel_rfl) ?_
  refine run_plain (id := 1) (ops := F7.o1) [(0, false), (1, true), (2, true), (3, true), (4, false), (5, true), (6, true)] (by kernel_rfl) (by kernel_rfl) ?_
  refine cS (by kernel_rfl : opAt F7.o1 0 = some (some 15, .call { callee := .value (.func 8), args := #[], argTypes := #[] }, none)) rfl rfl (ent Try.call8 rfl) (awake_ok hF) ?_
  rintro vw1 w1 ⟨rfl, hs⟩
  refine ⟨trivial, ?_⟩
  replace hF := hF.st hs
  replace hT := hT.trans hs (by simp)
  replace hl := hl.st hs (by first | decide | (simp <;> omega))
  refine yS (by kernel_rfl : opAt F7.o1 1 = some (some 16, .unOp .not 4 (.tmp 15), none)) rfl rfl (fun w' hS => val_not rfl) ?_
  refine yS (by kernel_rfl : opAt F7.o1 2 = some (some 17, .move (.tmp 16), none)) rfl rfl (fun w' hS => val_move rfl) ?_
  refine yS (by kernel_rfl : opAt F7.o1 3 = some (some 18, .move (.tmp 0), (some (2, false)))) rfl rfl (fun w' hS => val_move rfl) ?_
  refine cS (by kernel_rfl : opAt F7.o1 4 = some (some 19, .call { callee := .value (.func 9), args := #[(.tmp 18)], argTypes := #[22] }, (some (2, false)))) rfl rfl (ent Try.call9 rfl) (few_any hl) ?_
  rintro vw2 w2 ⟨rfl, rfl⟩
  refine ⟨trivial, ?_⟩
  refine yS (by kernel_rfl : opAt F7.o1 5 = some (some 20, .unOp .not 4 (.tmp 19), (some (2, false)))) rfl rfl (fun w' hS => val_notd rfl) ?_
  refine yS (by kernel_rfl : opAt F7.o1 6 = some (some 21, .pick (.tmp 17) (.const (.bool true)) (.tmp 20), none)) rfl rfl (fun w' hS => val_pick_f rfl rfl) ?_
  refine Sch.nil ?_
  refine run_if (x := F7.c6) (y := F7.c9) (o := .tmp 21) (by kernel_rfl) rfl (fun h21 => ?_) (fun h21 => ?_)
  · skip
    refine run_seq (x := F7.c7) (y := F7.c8) (by kernel_rfl) ?_
    refine run_plain (id := 2) (ops := F7.o2) [(0, false), (1, true)] (by kernel_rfl) (by kernel_rfl) ?_
    refine cS (by kernel_rfl : opAt F7.o2 0 = some (some 22, .call { callee := .value (.func 8), args := #[], argTypes := #[] }, none)) rfl rfl (ent Try.call8 rfl) (awake_ok hF) ?_
    rintro vw3 w3 ⟨rfl, hs⟩
    refine ⟨trivial, ?_⟩
    replace hF := hF.st hs
    replace hT := hT.trans hs (by simp)
    replace hl := hl.st hs (by first | decide | (simp <;> omega))
    refine yS (by kernel_rfl : opAt F7.o2 1 = some (some 4, .assign (.tmp 22), none)) rfl rfl (fun w' hS => val_assign rfl) ?_
    refine Sch.nil ?_
    refine run_ret1 (by kernel_rfl) Try.func7 Try.results7 rfl ?_
    exact ⟨rfl, hT.out1 (by decide)⟩
  · skip
    refine run_skip (by kernel_rfl) ?_
    refine run_seq (x := F7.c11) (y := F7.c12) (by kernel_rfl) ?_
    refine run_plain (id := 3) (ops := F7.o3) [(0, true), (1, false), (2, true)] (by kernel_rfl) (by kernel_rfl) ?_
    refine yS (by kernel_rfl : opAt F7.o3 0 = some (some 23, .move (.tmp 0), none)) rfl rfl (fun w' hS => val_move rfl) ?_
    refine cS (by kernel_rfl : opAt F7.o3 1 = some (some 24, .call { callee := .value (.func 10), args := #[(.tmp 23)], argTypes := #[22] }, none)) rfl rfl (ent Try.call10 rfl) (new_any hF hl) ?_
    rintro vw4 w4 ⟨Cd, bd, rfl, hs, hF, hd⟩
    refine ⟨trivial, ?_⟩
    replace hT := hT.trans hs (by simp)
    replace hl := hl.st hs (by first | decide | (simp <;> omega))
    refine yS (by kernel_rfl : opAt F7.o3 2 = some (some 5, .assign (.tmp 24), none)) rfl rfl (fun w' hS => val_assign rfl) ?_
    refine Sch.nil ?_
    refine run_seq (x := F7.c13) (y := F7.c14) (by kernel_rfl) ?_
    refine run_plain (id := 4) (ops := F7.o4) [(0, true), (1, true), (2, false), (3, true), (4, false), (5, true)] (by kernel_rfl) (by kernel_rfl) ?_
    refine yS (by kernel_rfl : opAt F7.o4 0 = some (some 25, .move (.tmp 5), none)) rfl rfl (fun w' hS => val_move rfl) ?_
    refine yS (by kernel_rfl : opAt F7.o4 1 = some (some 26, .move (.tmp 5), none)) rfl rfl (fun w' hS => val_move rfl) ?_
    refine cS (by kernel_rfl : opAt F7.o4 2 = some (some 27, .call { callee := .value (.func 12), args := #[(.tmp 26), (.const (.int .i64 8))], argTypes := #[29, 3] }, none)) rfl rfl (ent Try.call12 rfl) (next_any (n := 8) hF (by decide) hd (by omega) (by omega)) ?_
    rintro vw5 w5 ⟨q, rfl, hq, hs, hd⟩
    refine ⟨trivial, ?_⟩
    replace hF := hF.st hs
    replace hT := hT.trans hs (by simp)
    replace hl := hl.st hs (by first | decide | (simp <;> omega))
    refine yS (by kernel_rfl : opAt F7.o4 3 = some (some 28, .binOp .add 3 (.const (.int .i64 4)) (.tmp 27) 3, none)) rfl rfl (fun w' hS => val_addi rfl rfl (by omega) (by omega)) ?_
    refine cS (by kernel_rfl : opAt F7.o4 4 = some (some 29, .call { callee := .value (.func 11), args := #[(.tmp 25), (.const (.int .i64 3)), (.const (.int .i64 4)), (.tmp 28)], argTypes := #[29, 3, 3, 3] }, none)) rfl rfl (ent Try.call11 rfl) (bonds_any (R := 3) (I := 4) (one := 4 + (q : Int)) hF (by decide) hd (by decide) (by decide) (by omega) (by omega)) ?_
    rintro vb w6 ⟨bl, hbl, ⟨hs, hb, hd⟩, _⟩
    refine ⟨trivial, ?_⟩
    replace hF := hF.st hs
    replace hT := hT.trans hs (by simp)
    replace hl := hl.st hs (by first | decide | (simp <;> omega))
    have hbv := hbl.vld (by decide) (by decide)
    have hck := hbv.check
    have hbL := hbl.2.2
    have hprl := parts_le bl
    have hrl2 := refsS_len bl
    refine yS (by kernel_rfl : opAt F7.o4 5 = some (some 6, .assign (.tmp 29), none)) rfl rfl (fun w' hS => val_assign rfl) ?_
    refine Sch.nil ?_
    refine run_seq (x := F7.c15) (y := F7.c16) (by kernel_rfl) ?_
    refine run_plain (id := 5) (ops := F7.o5) [(0, true), (1, false), (2, true)] (by kernel_rfl) (by kernel_rfl) ?_
    refine yS (by kernel_rfl : opAt F7.o5 0 = some (some 30, .move (.tmp 6), none)) rfl rfl (fun w' hS => val_move rfl) ?_
    refine aS (by kernel_rfl : opAt F7.o5 1 = some (some 31, .call { callee := .builtin .append, args := #[(.const (.slice none 0 0)), (.tmp 30)], argTypes := #[23, 23] }, none)) rfl rfl (a_append (e := 50) (bytes := 40) hF (by decide) rfl rfl (by kernel_rfl) (by decide) (OwnL.nil (α := Bond) (j := 5)) hb (by simp only [List.length_nil]; omega) (by simp only [List.length_nil]; omega)) ?_
    rintro v31 w7 ⟨Cw7, hs, hn, hF⟩
    refine ⟨trivial, ?_⟩
    replace hT := hT.trans hs (by simp)
    replace hl := hl.st hs (by first | decide | (simp <;> omega))
    replace hd := hd.st hs (by first | decide | (simp <;> omega)) (by first | decide | (simp <;> omega))
    replace hb := hb.st hs (by first | decide | (simp <;> omega))
    refine yS (by kernel_rfl : opAt F7.o5 2 = some (some 7, .assign (.tmp 31), none)) rfl rfl (fun w' hS => val_assign rfl) ?_
    refine Sch.nil ?_
    simp only [List.nil_append] at hn
    clear hd
    refine run_seq (x := F7.c17) (y := F7.c37) (by kernel_rfl) ?_
    refine run_seq (x := F7.c18) (y := F7.c19) (by kernel_rfl) ?_
    refine run_plain (id := 6) (ops := F7.o6) [(0, true), (1, true), (2, true)] (by kernel_rfl) (by kernel_rfl) ?_
    refine yS (by kernel_rfl : opAt F7.o6 0 = some (some 32, .move (.tmp 7), none)) rfl rfl (fun w' hS => val_move rfl) ?_
    refine yS (by kernel_rfl : opAt F7.o6 1 = some (some 33, .call { callee := .builtin .len, args := #[(.tmp 32)], argTypes := #[23] }, none)) rfl rfl (fun w' hS => hn.lenV rfl Try.underlying23 w' ) ?_
    refine yS (by kernel_rfl : opAt F7.o6 2 = some (some 34, .move (.const (.int .i64 0)), none)) rfl rfl (fun w' hS => val_move rfl) ?_
    refine Sch.nil ?_
    refine run_block (x := F7.c20) (id := 0) (by kernel_rfl) ?_
    
    refine run_loop (ι := Nat × (Nat → Nat)) (I := fun x w => x.1 ≤ bl.length ∧ Lim w x.2 ∧ Stp [2, 3, 4, 5, 6, 7, 8, 9] w₀ (col1 C) w x.2 ∧ RV w (Mc x.2) bl vb ∧ OwnL w x.2 5 50 v31 ((bl.take x.1).map (mapB (nameF m)) ++ bl.drop x.1)) (e := fun x => [(1, .int .u8 (m : Int)), (6, vb), (7, v31), (33, .int .i64 bl.length), (34, .int .i64 x.1)]) (m := fun x => bl.length - x.1) (x₀ := (0, Cw7)) (body := F7.c21) (by kernel_rfl) (sub_cons 1 rfl rfl (sub_cons 6 rfl rfl (sub_cons 7 rfl rfl (sub_cons 33 rfl rfl (sub_cons 34 rfl rfl (sub_nil _)))))) ?_ ?_
    · exact ⟨Nat.zero_le _, hF, hT, hb, by simpa using hn⟩
    intro ⟨i, C1⟩ w8 hI next
    obtain ⟨hi, hF, hT, hb, hn⟩ := hI
    try simp only at hi hF hT hb hn
    have next1 := next
    clear next
    show Run _ _ _ _ [(1, .int .u8 (m : Int)), (6, vb), (7, v31), (33, .int .i64 bl.length), (34, .int .i64 i)] _ _
    refine run_seq (x := F7.c22) (y := F7.c23) (by kernel_rfl) ?_
    refine run_plain (id := 7) (ops := F7.o7) [(0, true)] (by kernel_rfl) (by kernel_rfl) ?_
    refine yS (by kernel_rfl : opAt F7.o7 0 = some (some 35, .binOp .lss 3 (.tmp 34) (.tmp 33) 3, none)) rfl rfl (fun w' hS => val_lss rfl rfl) ?_
    refine Sch.nil ?_
    refine run_seq (x := F7.c24) (y := F7.c27) (by kernel_rfl) ?_
    refine run_if (x := F7.c25) (y := F7.c26) (o := .tmp 35) (by kernel_rfl) rfl (fun h35 => ?_) (fun h35 => ?_)
    · skip
      have hil : i < bl.length := by omega
      obtain ⟨y0, hy0⟩ : ∃ l, l = (bl.take i).map (mapB (nameF m)) ++ bl.drop i := ⟨_, rfl⟩
      rw [← hy0] at hn
      have hyl : y0.length = bl.length := by rw [hy0]; exact mapIn_len _ _ _
      have hyi : y0[i]'(by omega) = bl[i] := by subst hy0; exact mapIn_get _ hil _
      have hok := hbl.1 bl[i] (List.getElem_mem hil)
      unfold okR at hok
      refine run_skip (by kernel_rfl) ?_
      refine run_seq (x := F7.c28) (y := F7.c36) (by kernel_rfl) ?_
      refine run_block (x := F7.c29) (id := 1) (by kernel_rfl) ?_
      refine run_seq (x := F7.c30) (y := F7.c31) (by kernel_rfl) ?_
      refine run_plain (id := 8) (ops := F7.o8) [(0, true), (1, true)] (by kernel_rfl) (by kernel_rfl) ?_
      refine yS (by kernel_rfl : opAt F7.o8 0 = some (some 36, .move (.tmp 34), none)) rfl rfl (fun w' hS => val_move rfl) ?_
      refine yS (by kernel_rfl : opAt F7.o8 1 = some (some 8, .assign (.tmp 36), none)) rfl rfl (fun w' hS => val_assign rfl) ?_
      refine Sch.nil ?_
      refine run_seq (x := F7.c32) (y := F7.c33) (by kernel_rfl) ?_
      refine run_plain (id := 9) (ops := F7.o9) [(0, true), (1, true), (2, true), (3, true), (4, true), (5, true), (6, true), (7, false), (8, true), (9, true), (10, true), (11, true), (12, true), (13, true), (14, true), (15, false)] (by kernel_rfl) (by kernel_rfl) ?_
      refine yS (by kernel_rfl : opAt F7.o9 0 = some (some 37, .move (.tmp 7), none)) rfl rfl (fun w' hS => val_move rfl) ?_
      refine yS (by kernel_rfl : opAt F7.o9 1 = some (some 38, .move (.tmp 8), none)) rfl rfl (fun w' hS => val_move rfl) ?_
      refine yS (by kernel_rfl : opAt F7.o9 2 = some (some 39, .move (.tmp 7), none)) rfl rfl (fun w' hS => val_move rfl) ?_
      refine yS (by kernel_rfl : opAt F7.o9 3 = some (some 40, .move (.tmp 8), none)) rfl rfl (fun w' hS => val_move rfl) ?_
      refine oI (e' := 50) (by kernel_rfl : opAt F7.o9 4 = some (some 41, .indexAddr 23 (.tmp 39) (.tmp 40), none)) rfl rfl hn rfl (by kernel_rfl) rfl (by omega) (by omega) ?_
      intro g41 hg41
      try simp only [Int.toNat_natCast]
      refine yS (by kernel_rfl : opAt F7.o9 5 = some (some 42, .fieldAddr 50 (.tmp 41) 0, none)) rfl rfl (fun w' hS => val_fieldAddr (off := 0) (by kernel_rfl) rfl) ?_
      refine yS (by kernel_rfl : opAt F7.o9 6 = some (some 43, .fieldAddr 25 (.tmp 42) 1, none)) rfl rfl (fun w' hS => val_fieldAddr (off := 1) (by kernel_rfl) rfl) ?_
      refine nS (by kernel_rfl : opAt F7.o9 7 = some (some 44, .load 3 (.tmp 43), none)) rfl rfl trivial (OwnL.cell (off := 1) (u := .int .i64 bl[i].A.b) hn hg41 (by omega) (by decide) (by kernel_rfl) (fun vs hv => by rw [hyi] at hv; rw [rep_bond.1 hv]; rfl) rfl _ rfl) ?_
      refine yS (by kernel_rfl : opAt F7.o9 8 = some (some 45, .binOp .mul 3 (.const (.int .i64 3)) (.tmp 44) 3, none)) rfl rfl (fun w' hS => val_muli rfl rfl (by omega) (by omega)) ?_
      refine yS (by kernel_rfl : opAt F7.o9 9 = some (some 46, .move (.tmp 1), none)) rfl rfl (fun w' hS => val_move rfl) ?_
      refine yS (by kernel_rfl : opAt F7.o9 10 = some (some 47, .convert 5 3 (.tmp 46), none)) rfl rfl (fun w' hS => val_convE (r := (m : Int)) rfl ⟨_, Try.underlying5⟩ Try.underlying3 (wrap_i64 (by omega) (by omega))) ?_
      refine yS (by kernel_rfl : opAt F7.o9 11 = some (some 48, .binOp .add 3 (.tmp 45) (.tmp 47) 3, none)) rfl rfl (fun w' hS => val_addi rfl rfl (by omega) (by omega)) ?_
      refine oI (e' := 50) (by kernel_rfl : opAt F7.o9 12 = some (some 49, .indexAddr 23 (.tmp 37) (.tmp 38), none)) rfl rfl hn rfl (by kernel_rfl) rfl (by omega) (by omega) ?_
      intro g49 hg49
      try simp only [Int.toNat_natCast]
      refine yS (by kernel_rfl : opAt F7.o9 13 = some (some 50, .fieldAddr 50 (.tmp 49) 0, none)) rfl rfl (fun w' hS => val_fieldAddr (off := 0) (by kernel_rfl) rfl) ?_
      refine yS (by kernel_rfl : opAt F7.o9 14 = some (some 51, .fieldAddr 25 (.tmp 50) 1, none)) rfl rfl (fun w' hS => val_fieldAddr (off := 1) (by kernel_rfl) rfl) ?_
      refine aN (by kernel_rfl : opAt F7.o9 15 = some (none, .store 3 (.tmp 51) (.tmp 48), none)) rfl (a_storeF (off := 1) (k := 1) (us := [.int .i64 (3 * bl[i].A.b + (m : Int))]) (x0 := (⟨nameF m bl[i].A, bl[i].B, bl[i].w⟩ : Bond)) hn hg49 (by omega) rfl rfl (by kernel_rfl) rfl rfl (by intro u hu; rw [List.mem_singleton.1 hu]; rfl) (by decide) (fun vs hv => by rw [hyi] at hv; rw [rep_bond.1 hv]; exact rep_bond.2 rfl)) ?_
      rintro _ w9 ⟨rfl, hs, hn⟩
      refine ⟨trivial, ?_⟩
      replace hF := hF.st hs
      replace hT := hT.trans hs (by simp)
      replace hb := hb.st hs (by first | decide | (simp <;> omega))
      obtain ⟨y1, hy1⟩ : ∃ l, l = y0.set i (⟨nameF m bl[i].A, bl[i].B, bl[i].w⟩ : Bond) := ⟨_, rfl⟩
      rw [← hy1] at hn
      replace hyl : y1.length = bl.length := by rw [hy1, List.length_set]; exact hyl
      replace hyi : y1[i]'(by omega) = (⟨nameF m bl[i].A, bl[i].B, bl[i].w⟩ : Bond) := by subst hy1; exact List.getElem_set_self _
      refine Sch.nil ?_
      refine run_seq (x := F7.c34) (y := F7.c35) (by kernel_rfl) ?_
      refine run_plain (id := 10) (ops := F7.o10) [(0, true), (1, true), (2, true), (3, true), (4, true), (5, true), (6, true), (7, false), (8, true), (9, true), (10, true), (11, true), (12, true), (13, true), (14, true), (15, false)] (by kernel_rfl) (by kernel_rfl) ?_
      refine yS (by kernel_rfl : opAt F7.o10 0 = some (some 52, .move (.tmp 7), none)) rfl rfl (fun w' hS => val_move rfl) ?_
      refine yS (by kernel_rfl : opAt F7.o10 1 = some (some 53, .move (.tmp 8), none)) rfl rfl (fun w' hS => val_move rfl) ?_
      refine yS (by kernel_rfl : opAt F7.o10 2 = some (some 54, .move (.tmp 7), none)) rfl rfl (fun w' hS => val_move rfl) ?_
      refine yS (by kernel_rfl : opAt F7.o10 3 = some (some 55, .move (.tmp 8), none)) rfl rfl (fun w' hS => val_move rfl) ?_
      refine oI (e' := 50) (by kernel_rfl : opAt F7.o10 4 = some (some 56, .indexAddr 23 (.tmp 54) (.tmp 55), none)) rfl rfl hn rfl (by kernel_rfl) rfl (by omega) (by omega) ?_
      intro g56 hg56
      try simp only [Int.toNat_natCast]
      refine yS (by kernel_rfl : opAt F7.o10 5 = some (some 57, .fieldAddr 50 (.tmp 56) 1, none)) rfl rfl (fun w' hS => val_fieldAddr (off := 2) (by kernel_rfl) rfl) ?_
      refine yS (by kernel_rfl : opAt F7.o10 6 = some (some 58, .fieldAddr 25 (.tmp 57) 1, none)) rfl rfl (fun w' hS => val_fieldAddr (off := 1) (by kernel_rfl) rfl) ?_
      refine nS (by kernel_rfl : opAt F7.o10 7 = some (some 59, .load 3 (.tmp 58), none)) rfl rfl trivial (OwnL.cell (off := 3) (u := .int .i64 bl[i].B.b) hn hg56 (by omega) (by decide) (by kernel_rfl) (fun vs hv => by rw [hyi] at hv; rw [rep_bond.1 hv]; rfl) rfl _ rfl) ?_
      refine yS (by kernel_rfl : opAt F7.o10 8 = some (some 60, .binOp .mul 3 (.const (.int .i64 3)) (.tmp 59) 3, none)) rfl rfl (fun w' hS => val_muli rfl rfl (by omega) (by omega)) ?_
      refine yS (by kernel_rfl : opAt F7.o10 9 = some (some 61, .move (.tmp 1), none)) rfl rfl (fun w' hS => val_move rfl) ?_
      refine yS (by kernel_rfl : opAt F7.o10 10 = some (some 62, .convert 5 3 (.tmp 61), none)) rfl rfl (fun w' hS => val_convE (r := (m : Int)) rfl ⟨_, Try.underlying5⟩ Try.underlying3 (wrap_i64 (by omega) (by omega))) ?_
      refine yS (by kernel_rfl : opAt F7.o10 11 = some (some 63, .binOp .add 3 (.tmp 60) (.tmp 62) 3, none)) rfl rfl (fun w' hS => val_addi rfl rfl (by omega) (by omega)) ?_
      refine oI (e' := 50) (by kernel_rfl : opAt F7.o10 12 = some (some 64, .indexAddr 23 (.tmp 52) (.tmp 53), none)) rfl rfl hn rfl (by kernel_rfl) rfl (by omega) (by omega) ?_
      intro g64 hg64
      try simp only [Int.toNat_natCast]
      refine yS (by kernel_rfl : opAt F7.o10 13 = some (some 65, .fieldAddr 50 (.tmp 64) 1, none)) rfl rfl (fun w' hS => val_fieldAddr (off := 2) (by kernel_rfl) rfl) ?_
      refine yS (by kernel_rfl : opAt F7.o10 14 = some (some 66, .fieldAddr 25 (.tmp 65) 1, none)) rfl rfl (fun w' hS => val_fieldAddr (off := 1) (by kernel_rfl) rfl) ?_
      refine aN (by kernel_rfl : opAt F7.o10 15 = some (none, .store 3 (.tmp 66) (.tmp 63), none)) rfl (a_storeF (off := 3) (k := 1) (us := [.int .i64 (3 * bl[i].B.b + (m : Int))]) (x0 := (⟨nameF m bl[i].A, nameF m bl[i].B, bl[i].w⟩ : Bond)) hn hg64 (by omega) rfl rfl (by kernel_rfl) rfl rfl (by intro u hu; rw [List.mem_singleton.1 hu]; rfl) (by decide) (fun vs hv => by rw [hyi] at hv; rw [rep_bond.1 hv]; exact rep_bond.2 rfl)) ?_
      rintro _ w10 ⟨rfl, hs, hn⟩
      refine ⟨trivial, ?_⟩
      replace hF := hF.st hs
      replace hT := hT.trans hs (by simp)
      replace hb := hb.st hs (by first | decide | (simp <;> omega))
      obtain ⟨y2, hy2⟩ : ∃ l, l = y1.set i (⟨nameF m bl[i].A, nameF m bl[i].B, bl[i].w⟩ : Bond) := ⟨_, rfl⟩
      rw [← hy2] at hn
      replace hyl : y2.length = bl.length := by rw [hy2, List.length_set]; exact hyl
      replace hyi : y2[i]'(by omega) = (⟨nameF m bl[i].A, nameF m bl[i].B, bl[i].w⟩ : Bond) := by subst hy2; exact List.getElem_set_self _
      refine Sch.nil ?_
      refine run_plain (id := 11) (ops := F7.o11) [(0, true), (1, true), (2, true), (3, true), (4, false)] (by kernel_rfl) (by kernel_rfl) ?_
      refine yS (by kernel_rfl : opAt F7.o11 0 = some (some 67, .move (.tmp 7), none)) rfl rfl (fun w' hS => val_move rfl) ?_
      refine yS (by kernel_rfl : opAt F7.o11 1 = some (some 68, .move (.tmp 8), none)) rfl rfl (fun w' hS => val_move rfl) ?_
      refine oI (e' := 50) (by kernel_rfl : opAt F7.o11 2 = some (some 69, .indexAddr 23 (.tmp 67) (.tmp 68), none)) rfl rfl hn rfl (by kernel_rfl) rfl (by omega) (by omega) ?_
      intro g69 hg69
      try simp only [Int.toNat_natCast]
      refine yS (by kernel_rfl : opAt F7.o11 3 = some (some 70, .fieldAddr 50 (.tmp 69) 2, none)) rfl rfl (fun w' hS => val_fieldAddr (off := 4) (by kernel_rfl) rfl) ?_
      refine aN (by kernel_rfl : opAt F7.o11 4 = some (none, .store 3 (.tmp 70) (.const (.int .i64 1)), none)) rfl (a_storeF (off := 4) (k := 1) (us := [.int .i64 1]) (x0 := (mapB (nameF m) bl[i])) hn hg69 (by omega) rfl rfl (by kernel_rfl) rfl rfl (by intro u hu; rw [List.mem_singleton.1 hu]; rfl) (by decide) (fun vs hv => by rw [hyi] at hv; rw [rep_bond.1 hv]; exact rep_bond.2 rfl)) ?_
      rintro _ w11 ⟨rfl, hs, hn⟩
      refine ⟨trivial, ?_⟩
      replace hF := hF.st hs
      replace hT := hT.trans hs (by simp)
      replace hb := hb.st hs (by first | decide | (simp <;> omega))
      obtain ⟨y3, hy3⟩ : ∃ l, l = y2.set i (mapB (nameF m) bl[i]) := ⟨_, rfl⟩
      rw [← hy3] at hn
      replace hyl : y3.length = bl.length := by rw [hy3, List.length_set]; exact hyl
      replace hyi : y3[i]'(by omega) = (mapB (nameF m) bl[i]) := by subst hy3; exact List.getElem_set_self _
      refine Sch.nil ?_
      refine run_inBlock ?_
      refine run_plain (id := 12) (ops := F7.o12) [(0, true), (1, true)] (by kernel_rfl) (by kernel_rfl) ?_
      refine yS (by kernel_rfl : opAt F7.o12 0 = some (some 71, .binOp .add 3 (.tmp 34) (.const (.int .i64 1)) 3, none)) rfl rfl (fun w' hS => val_addi rfl rfl (by omega) (by omega)) ?_
      refine yS (by kernel_rfl : opAt F7.o12 1 = some (some 34, .move (.tmp 71), none)) rfl rfl (fun w' hS => val_move rfl) ?_
      refine Sch.nil ?_
      refine kp (sub_cons 1 rfl rfl (sub_cons 6 rfl rfl (sub_cons 7 rfl rfl (sub_cons 33 rfl rfl (sub_cons 34 rfl (eq_int (by simp)) (sub_nil _)))))) (next1 (i + 1, C1) _ ⟨(by first | omega | (simp only; omega)), hF, hT, hb, (by simp only; rw [← mapIn_set _ hil, ← hy0]; rw [hy3, hy2, hy1, List.set_set, List.set_set] at hn; exact hn)⟩ (by first | omega | (simp only; omega)))
    · skip
      have hil : i = bl.length := by omega
      subst hil
      rw [List.take_length, List.drop_length, List.append_nil] at hn
      obtain ⟨ol, hol⟩ : ∃ l, l = bl.map (mapB (nameF m)) := ⟨_, rfl⟩
      rw [← hol] at hn
      have holl : ol.length = bl.length := by rw [hol, List.length_map]
      have hcko : checkS ol = 0 := by rw [hol]; exact (names_vld hbl (by decide) (by decide) hm).check
      have hlaw : partsS ol = (partsS bl).map (List.map (nameF m)) := by rw [hol]; exact names_law (nameF_mono m) bl
      have hql : ((partsS bl).map (List.map (nameF m))).length = (partsS bl).length := List.length_map _
      replace hF := hF.frz 5
      replace hT := hT.frz (n := 5) (fun b => Nat.lt_of_lt_of_le (col1_lt2 C b) (by decide))
      replace hb := hb.frz 5
      have hO := hn.frz (n := 5) (by decide) (by omega)
      refine run_exit (id := 0) (by kernel_rfl) rfl ?_
      refine run_seq (x := F7.c38) (y := F7.c39) (by kernel_rfl) ?_
      refine run_plain (id := 13) (ops := F7.o13) [(0, true), (1, false), (2, true), (3, true), (4, true), (5, true), (6, true)] (by kernel_rfl) (by kernel_rfl) ?_
      refine yS (by kernel_rfl : opAt F7.o13 0 = some (some 73, .move (.tmp 6), none)) rfl rfl (fun w' hS => val_move rfl) ?_
      refine cS (by kernel_rfl : opAt F7.o13 1 = some (some 74, .call { callee := .value (.func 19), args := #[(.tmp 73)], argTypes := #[23] }, none)) rfl rfl (ent Try.call19 rfl) (of_ok hF hb (by omega)) ?_
      rintro vw12 w12 ⟨u, rfl, hs, _, hp⟩
      refine ⟨trivial, ?_⟩
      replace hF := hF.st hs
      replace hT := hT.trans hs (by simp)
      replace hb := hb.st hs (by first | decide | (simp <;> omega))
      replace hO := hO.st hs (by first | decide | (simp <;> omega))
      rw [if_pos hck] at hp
      rw [hck]
      refine yS (by kernel_rfl : opAt F7.o13 2 = some (some 72, .move (.tmp 74), none)) rfl rfl (fun w' hS => val_move rfl) ?_
      refine yS (by kernel_rfl : opAt F7.o13 3 = some (some 75, .extract (.tmp 72) 0, none)) rfl rfl (fun w' hS => val_extract rfl rfl) ?_
      refine yS (by kernel_rfl : opAt F7.o13 4 = some (some 76, .extract (.tmp 72) 1, none)) rfl rfl (fun w' hS => val_extract rfl rfl) ?_
      refine yS (by kernel_rfl : opAt F7.o13 5 = some (some 9, .assign (.tmp 75), none)) rfl rfl (fun w' hS => val_assign rfl) ?_
      refine yS (by kernel_rfl : opAt F7.o13 6 = some (some 10, .assign (.tmp 76), none)) rfl rfl (fun w' hS => val_assign rfl) ?_
      refine Sch.nil ?_
      refine run_seq (x := F7.c40) (y := F7.c41) (by kernel_rfl) ?_
      refine run_plain (id := 14) (ops := F7.o14) [(0, true), (1, false), (2, true), (3, true), (4, true), (5, true), (6, true)] (by kernel_rfl) (by kernel_rfl) ?_
      refine yS (by kernel_rfl : opAt F7.o14 0 = some (some 78, .move (.tmp 7), none)) rfl rfl (fun w' hS => val_move rfl) ?_
      refine cS (by kernel_rfl : opAt F7.o14 1 = some (some 79, .call { callee := .value (.func 19), args := #[(.tmp 78)], argTypes := #[23] }, none)) rfl rfl (ent Try.call19 rfl) (of_ok hF hO (by omega)) ?_
      rintro vw13 w13 ⟨uo, rfl, hs, _, hq⟩
      refine ⟨trivial, ?_⟩
      replace hF := hF.st hs
      replace hT := hT.trans hs (by simp)
      replace hb := hb.st hs (by first | decide | (simp <;> omega))
      replace hO := hO.st hs (by first | decide | (simp <;> omega))
      replace hp := hp.st hs (by first | decide | (simp <;> omega))
      rw [if_pos hcko] at hq
      rw [hcko]
      rw [hlaw] at hq
      refine yS (by kernel_rfl : opAt F7.o14 2 = some (some 77, .move (.tmp 79), none)) rfl rfl (fun w' hS => val_move rfl) ?_
      refine yS (by kernel_rfl : opAt F7.o14 3 = some (some 80, .extract (.tmp 77) 0, none)) rfl rfl (fun w' hS => val_extract rfl rfl) ?_
      refine yS (by kernel_rfl : opAt F7.o14 4 = some (some 81, .extract (.tmp 77) 1, none)) rfl rfl (fun w' hS => val_extract rfl rfl) ?_
      refine yS (by kernel_rfl : opAt F7.o14 5 = some (some 11, .assign (.tmp 80), none)) rfl rfl (fun w' hS => val_assign rfl) ?_
      refine yS (by kernel_rfl : opAt F7.o14 6 = some (some 12, .assign (.tmp 81), none)) rfl rfl (fun w' hS => val_assign rfl) ?_
      refine Sch.nil ?_
      refine run_seq (x := F7.c42) (y := F7.c49) (by kernel_rfl) ?_
      refine run_seq (x := F7.c43) (y := F7.c44) (by kernel_rfl) ?_
      refine run_plain (id := 15) (ops := F7.o15) [(0, true), (1, true), (2, true), (3, true), (4, true), (5, true), (6, true), (7, true), (8, true), (9, true), (10, true), (11, true), (12, true)] (by kernel_rfl) (by kernel_rfl) ?_
      refine yS (by kernel_rfl : opAt F7.o15 0 = some (some 82, .move (.tmp 10), none)) rfl rfl (fun w' hS => val_move rfl) ?_
      refine yS (by kernel_rfl : opAt F7.o15 1 = some (some 83, .binOp .neq 35 (.tmp 82) (.const (.int .i64 0)) 35, none)) rfl rfl (fun w' hS => val_F (val_neq rfl rfl) (fun e => e rfl)) ?_
      refine yS (by kernel_rfl : opAt F7.o15 2 = some (some 84, .move (.tmp 83), none)) rfl rfl (fun w' hS => val_move rfl) ?_
      refine yS (by kernel_rfl : opAt F7.o15 3 = some (some 85, .move (.tmp 12), (some (2, false)))) rfl rfl (fun w' hS => val_move rfl) ?_
      refine yS (by kernel_rfl : opAt F7.o15 4 = some (some 86, .binOp .neq 35 (.tmp 85) (.const (.int .i64 0)) 35, (some (2, false)))) rfl rfl (fun w' hS => val_F (val_neq rfl rfl) (fun e => e rfl)) ?_
      refine yS (by kernel_rfl : opAt F7.o15 5 = some (some 87, .pick (.tmp 84) (.const (.bool true)) (.tmp 86), none)) rfl rfl (fun w' hS => val_pick_f rfl rfl) ?_
      refine yS (by kernel_rfl : opAt F7.o15 6 = some (some 88, .move (.tmp 87), none)) rfl rfl (fun w' hS => val_move rfl) ?_
      refine yS (by kernel_rfl : opAt F7.o15 7 = some (some 89, .move (.tmp 9), (some (6, false)))) rfl rfl (fun w' hS => val_move rfl) ?_
      refine yS (by kernel_rfl : opAt F7.o15 8 = some (some 90, .call { callee := .builtin .len, args := #[(.tmp 89)], argTypes := #[26] }, (some (6, false)))) rfl rfl (fun w' hS => hp.lenV rfl Try.underlying26 w' ) ?_
      refine yS (by kernel_rfl : opAt F7.o15 9 = some (some 91, .move (.tmp 11), (some (6, false)))) rfl rfl (fun w' hS => val_move rfl) ?_
      refine yS (by kernel_rfl : opAt F7.o15 10 = some (some 92, .call { callee := .builtin .len, args := #[(.tmp 91)], argTypes := #[26] }, (some (6, false)))) rfl rfl (fun w' hS => hq.lenV rfl Try.underlying26 w' ) ?_
      refine yS (by kernel_rfl : opAt F7.o15 11 = some (some 93, .binOp .neq 3 (.tmp 90) (.tmp 92) 3, (some (6, false)))) rfl rfl (fun w' hS => val_F (val_neq rfl rfl) (fun e => e (by rw [hql]))) ?_
      refine yS (by kernel_rfl : opAt F7.o15 12 = some (some 94, .pick (.tmp 88) (.const (.bool true)) (.tmp 93), none)) rfl rfl (fun w' hS => val_pick_f rfl rfl) ?_
      refine Sch.nil ?_
      refine run_cond (x := F7.c45) (y := F7.c48) (o := .tmp 94) (b := false) (by kernel_rfl) rfl (fun h => by cases h) (fun _ => ?_)
      refine run_skip (by kernel_rfl) ?_
      refine run_seq (x := F7.c50) (y := F7.c95) (by kernel_rfl) ?_
      refine run_seq (x := F7.c51) (y := F7.c52) (by kernel_rfl) ?_
      refine run_plain (id := 17) (ops := F7.o17) [(0, true), (1, true), (2, true)] (by kernel_rfl) (by kernel_rfl) ?_
      refine yS (by kernel_rfl : opAt F7.o17 0 = some (some 95, .move (.tmp 9), none)) rfl rfl (fun w' hS => val_move rfl) ?_
      refine yS (by kernel_rfl : opAt F7.o17 1 = some (some 96, .call { callee := .builtin .len, args := #[(.tmp 95)], argTypes := #[26] }, none)) rfl rfl (fun w' hS => hp.lenV rfl Try.underlying26 w' ) ?_
      refine yS (by kernel_rfl : opAt F7.o17 2 = some (some 97, .move (.const (.int .i64 0)), none)) rfl rfl (fun w' hS => val_move rfl) ?_
      refine Sch.nil ?_
      refine run_block (x := F7.c53) (id := 2) (by kernel_rfl) ?_
      
      refine run_loop (ι := Nat × (Nat → Nat)) (I := fun x w => x.1 ≤ (partsS bl).length ∧ Lim w x.2 ∧ Stp [2, 3, 4, 5, 6, 7, 8, 9] w₀ (col1 C) w x.2 ∧ RV w (Mc x.2) (partsS bl) u ∧ RV w (Mc x.2) ((partsS bl).map (List.map (nameF m))) uo) (e := fun x => [(1, .int .u8 (m : Int)), (9, u), (11, uo), (96, .int .i64 (partsS bl).length), (97, .int .i64 x.1)]) (m := fun x => (partsS bl).length - x.1) (x₀ := (0, K.frz 5 C1)) (body := F7.c54) (by kernel_rfl) (sub_cons 1 rfl rfl (sub_cons 9 rfl rfl (sub_cons 11 rfl rfl (sub_cons 96 rfl rfl (sub_cons 97 rfl rfl (sub_nil _)))))) ?_ ?_
      · exact ⟨Nat.zero_le _, hF, hT, hp, hq⟩
      intro ⟨k, C1⟩ w14 hI next
      obtain ⟨hk, hF, hT, hp, hq⟩ := hI
      try simp only at hk hF hT hp hq
      have next2 := next
      clear next
      show Run _ _ _ _ [(1, .int .u8 (m : Int)), (9, u), (11, uo), (96, .int .i64 (partsS bl).length), (97, .int .i64 k)] _ _
      refine run_seq (x := F7.c55) (y := F7.c56) (by kernel_rfl) ?_
      refine run_plain (id := 18) (ops := F7.o18) [(0, true)] (by kernel_rfl) (by kernel_rfl) ?_
      refine yS (by kernel_rfl : opAt F7.o18 0 = some (some 98, .binOp .lss 3 (.tmp 97) (.tmp 96) 3, none)) rfl rfl (fun w' hS => val_lss rfl rfl) ?_
      refine Sch.nil ?_
      refine run_seq (x := F7.c57) (y := F7.c60) (by kernel_rfl) ?_
      refine run_if (x := F7.c58) (y := F7.c59) (o := .tmp 98) (by kernel_rfl) rfl (fun h98 => ?_) (fun h98 => ?_)
      · skip
        have hkl : k < (partsS bl).length := by omega
        have hpl : (((partsS bl).map (List.map (nameF m)))[k]'(by omega)).length = ((partsS bl)[k]'hkl).length := by simp
        have hin : ∀ r ∈ ((partsS bl)[k]'hkl), 1 ≤ r.b ∧ r.b ≤ 4 := fun r hr => by
          rw [partsS_get] at hr
          obtain ⟨x, hx, e⟩ := mem_refsS.1 (List.mem_filter.1 hr).1
          have := hbl.1 x hx
          unfold okR at this
          rcases e with rfl | rfl <;> omega
        refine run_skip (by kernel_rfl) ?_
        refine run_seq (x := F7.c61) (y := F7.c94) (by kernel_rfl) ?_
        refine run_block (x := F7.c62) (id := 3) (by kernel_rfl) ?_
        refine run_seq (x := F7.c63) (y := F7.c64) (by kernel_rfl) ?_
        refine run_plain (id := 19) (ops := F7.o19) [(0, true), (1, true)] (by kernel_rfl) (by kernel_rfl) ?_
        refine yS (by kernel_rfl : opAt F7.o19 0 = some (some 99, .move (.tmp 97), none)) rfl rfl (fun w' hS => val_move rfl) ?_
        refine yS (by kernel_rfl : opAt F7.o19 1 = some (some 13, .assign (.tmp 99), none)) rfl rfl (fun w' hS => val_assign rfl) ?_
        refine Sch.nil ?_
        refine run_seq (x := F7.c65) (y := F7.c72) (by kernel_rfl) ?_
        refine run_seq (x := F7.c66) (y := F7.c67) (by kernel_rfl) ?_
        refine run_draw (id := 20) (ops := F7.o20) [] (C1) [(0, true), (1, true), (2, true), (3, true), (4, true), (5, true), (6, true), (7, true), (8, true), (9, true), (10, true)] Try_mixed (by kernel_rfl) (by kernel_rfl) (by kernel_rfl) ?_
        intro w15 hs
        replace hF := hF.st hs
        replace hT := hT.trans hs (by simp)
        replace hp := hp.st hs (by first | decide | (simp <;> omega))
        replace hq := hq.st hs (by first | decide | (simp <;> omega))
        refine yS (by kernel_rfl : opAt F7.o20 0 = some (some 100, .move (.tmp 9), none)) rfl rfl (fun w' hS => val_move rfl) ?_
        refine yS (by kernel_rfl : opAt F7.o20 1 = some (some 101, .move (.tmp 13), none)) rfl rfl (fun w' hS => val_move rfl) ?_
        refine iS (e := 38) (by kernel_rfl : opAt F7.o20 2 = some (some 102, .indexAddr 26 (.tmp 100) (.tmp 101), none)) rfl rfl hp rfl (by kernel_rfl) rfl (by omega) (by omega) ?_
        intro b102 o102 h102
        try simp only [Int.toNat_natCast] at h102
        refine lS (by kernel_rfl : opAt F7.o20 3 = some (some 103, .load 38 (.tmp 102), none)) rfl rfl (fun w' hS => h102.stay hS (by decide)) h102 (by kernel_rfl) rfl rfl ?_
        intro v103 g103
        refine yS (by kernel_rfl : opAt F7.o20 4 = some (some 104, .call { callee := .builtin .len, args := #[(.tmp 103)], argTypes := #[38] }, none)) rfl rfl (fun w' hS => g103.lenV rfl Try.underlying38 w' ) ?_
        refine yS (by kernel_rfl : opAt F7.o20 5 = some (some 105, .move (.tmp 11), none)) rfl rfl (fun w' hS => val_move rfl) ?_
        refine yS (by kernel_rfl : opAt F7.o20 6 = some (some 106, .move (.tmp 13), none)) rfl rfl (fun w' hS => val_move rfl) ?_
        refine iS (e := 38) (by kernel_rfl : opAt F7.o20 7 = some (some 107, .indexAddr 26 (.tmp 105) (.tmp 106), none)) rfl rfl hq rfl (by kernel_rfl) rfl (by omega) (by omega) ?_
        intro b107 o107 h107
        try simp only [Int.toNat_natCast] at h107
        refine lS (by kernel_rfl : opAt F7.o20 8 = some (some 108, .load 38 (.tmp 107), none)) rfl rfl (fun w' hS => h107.stay hS (by decide)) h107 (by kernel_rfl) rfl rfl ?_
        intro v108 g108
        refine yS (by kernel_rfl : opAt F7.o20 9 = some (some 109, .call { callee := .builtin .len, args := #[(.tmp 108)], argTypes := #[38] }, none)) rfl rfl (fun w' hS => g108.lenV rfl Try.underlying38 w' ) ?_
        refine yS (by kernel_rfl : opAt F7.o20 10 = some (some 110, .binOp .neq 3 (.tmp 104) (.tmp 109) 3, none)) rfl rfl (fun w' hS => val_F (val_neq rfl rfl) (fun e => e (by rw [hpl]))) ?_
        refine Sch.nil ?_
        refine run_cond (x := F7.c68) (y := F7.c71) (o := .tmp 110) (b := false) (by kernel_rfl) rfl (fun h => by cases h) (fun _ => ?_)
        refine run_skip (by kernel_rfl) ?_
        refine run_seq (x := F7.c73) (y := F7.c74) (by kernel_rfl) ?_
        refine run_plain (id := 22) (ops := F7.o22) [(0, true), (1, true), (2, true), (3, false), (4, true), (5, true)] (by kernel_rfl) (by kernel_rfl) ?_
        refine yS (by kernel_rfl : opAt F7.o22 0 = some (some 111, .move (.tmp 9), none)) rfl rfl (fun w' hS => val_move rfl) ?_
        refine yS (by kernel_rfl : opAt F7.o22 1 = some (some 112, .move (.tmp 13), none)) rfl rfl (fun w' hS => val_move rfl) ?_
        refine iS (e := 38) (by kernel_rfl : opAt F7.o22 2 = some (some 113, .indexAddr 26 (.tmp 111) (.tmp 112), none)) rfl rfl hp rfl (by kernel_rfl) rfl (by omega) (by omega) ?_
        intro b113 o113 h113
        try simp only [Int.toNat_natCast] at h113
        refine lN (by kernel_rfl : opAt F7.o22 3 = some (some 114, .load 38 (.tmp 113), none)) rfl rfl trivial h113 (by kernel_rfl) rfl rfl ?_
        intro v114 g114
        refine yS (by kernel_rfl : opAt F7.o22 4 = some (some 115, .call { callee := .builtin .len, args := #[(.tmp 114)], argTypes := #[38] }, none)) rfl rfl (fun w' hS => g114.lenV rfl Try.underlying38 w' ) ?_
        refine yS (by kernel_rfl : opAt F7.o22 5 = some (some 116, .move (.const (.int .i64 0)), none)) rfl rfl (fun w' hS => val_move rfl) ?_
        refine Sch.nil ?_
        refine run_block (x := F7.c75) (id := 4) (by kernel_rfl) ?_
        have hgle := g114.le
        refine run_loop (ι := Nat × (Nat → Nat)) (I := fun x w => x.1 ≤ ((partsS bl)[k]'hkl).length ∧ Lim w x.2 ∧ Stp [2, 3, 4, 5, 6, 7, 8, 9] w₀ (col1 C) w x.2 ∧ RV w (Mc x.2) (partsS bl) u ∧ RV w (Mc x.2) ((partsS bl).map (List.map (nameF m))) uo) (e := fun x => [(1, .int .u8 (m : Int)), (9, u), (11, uo), (13, .int .i64 k), (96, .int .i64 (partsS bl).length), (97, .int .i64 k), (115, .int .i64 ((partsS bl)[k]'hkl).length), (116, .int .i64 x.1)]) (m := fun x => ((partsS bl)[k]'hkl).length - x.1) (x₀ := (0, C1)) (body := F7.c76) (by kernel_rfl) (sub_cons 1 rfl rfl (sub_cons 9 rfl rfl (sub_cons 11 rfl rfl (sub_cons 13 rfl rfl (sub_cons 96 rfl rfl (sub_cons 97 rfl rfl (sub_cons 115 rfl rfl (sub_cons 116 rfl rfl (sub_nil _))))))))) ?_ ?_
        · exact ⟨Nat.zero_le _, hF, hT, hp, hq⟩
        intro ⟨p, C1⟩ w16 hI next
        obtain ⟨hp0, hF, hT, hp, hq⟩ := hI
        try simp only at hp0 hF hT hp hq
        have next3 := next
        clear next
        show Run _ _ _ _ [(1, .int .u8 (m : Int)), (9, u), (11, uo), (13, .int .i64 k), (96, .int .i64 (partsS bl).length), (97, .int .i64 k), (115, .int .i64 ((partsS bl)[k]'hkl).length), (116, .int .i64 p)] _ _
        refine run_seq (x := F7.c77) (y := F7.c78) (by kernel_rfl) ?_
        refine run_plain (id := 23) (ops := F7.o23) [(0, true)] (by kernel_rfl) (by kernel_rfl) ?_
        refine yS (by kernel_rfl : opAt F7.o23 0 = some (some 117, .binOp .lss 3 (.tmp 116) (.tmp 115) 3, none)) rfl rfl (fun w' hS => val_lss rfl rfl) ?_
        refine Sch.nil ?_
        refine run_seq (x := F7.c79) (y := F7.c82) (by kernel_rfl) ?_
        refine run_if (x := F7.c80) (y := F7.c81) (o := .tmp 117) (by kernel_rfl) rfl (fun h117 => ?_) (fun h117 => ?_)
        · skip
          have hpl2 : p < ((partsS bl)[k]'hkl).length := by omega
          have hrb := hin (((partsS bl)[k]'hkl)[p]'hpl2) (List.getElem_mem hpl2)
          refine run_skip (by kernel_rfl) ?_
          refine run_seq (x := F7.c83) (y := F7.c93) (by kernel_rfl) ?_
          refine run_block (x := F7.c84) (id := 5) (by kernel_rfl) ?_
          refine run_seq (x := F7.c85) (y := F7.c86) (by kernel_rfl) ?_
          refine run_plain (id := 24) (ops := F7.o24) [(0, true), (1, true)] (by kernel_rfl) (by kernel_rfl) ?_
          refine yS (by kernel_rfl : opAt F7.o24 0 = some (some 118, .move (.tmp 116), none)) rfl rfl (fun w' hS => val_move rfl) ?_
          refine yS (by kernel_rfl : opAt F7.o24 1 = some (some 14, .assign (.tmp 118), none)) rfl rfl (fun w' hS => val_assign rfl) ?_
          refine Sch.nil ?_
          refine run_seq (x := F7.c87) (y := F7.c88) (by kernel_rfl) ?_
          refine run_draw (id := 25) (ops := F7.o25) [] (C1) [(0, true), (1, true), (2, true), (3, true), (4, true), (5, true), (6, true), (7, true), (8, true), (9, true), (10, true), (11, true), (12, true), (13, true), (14, true), (15, true), (16, true), (17, true), (18, true), (19, true), (20, true), (21, true), (22, true), (23, true), (24, true), (25, true), (26, true), (27, true), (28, true)] Try_mixed (by kernel_rfl) (by kernel_rfl) (by kernel_rfl) ?_
          intro w17 hs
          replace hF := hF.st hs
          replace hT := hT.trans hs (by simp)
          replace hp := hp.st hs (by first | decide | (simp <;> omega))
          replace hq := hq.st hs (by first | decide | (simp <;> omega))
          refine yS (by kernel_rfl : opAt F7.o25 0 = some (some 119, .move (.tmp 11), none)) rfl rfl (fun w' hS => val_move rfl) ?_
          refine yS (by kernel_rfl : opAt F7.o25 1 = some (some 120, .move (.tmp 13), none)) rfl rfl (fun w' hS => val_move rfl) ?_
          refine iS (e := 38) (by kernel_rfl : opAt F7.o25 2 = some (some 121, .indexAddr 26 (.tmp 119) (.tmp 120), none)) rfl rfl hq rfl (by kernel_rfl) rfl (by omega) (by omega) ?_
          intro b121 o121 h121
          try simp only [Int.toNat_natCast] at h121
          refine lS (by kernel_rfl : opAt F7.o25 3 = some (some 122, .load 38 (.tmp 121), none)) rfl rfl (fun w' hS => h121.stay hS (by decide)) h121 (by kernel_rfl) rfl rfl ?_
          intro v122 g122
          refine yS (by kernel_rfl : opAt F7.o25 4 = some (some 123, .move (.tmp 14), none)) rfl rfl (fun w' hS => val_move rfl) ?_
          refine iS (e := 25) (by kernel_rfl : opAt F7.o25 5 = some (some 124, .indexAddr 38 (.tmp 122) (.tmp 123), none)) rfl rfl g122 rfl (by kernel_rfl) rfl (by omega) (by omega) ?_
          intro b124 o124 h124
          try simp only [Int.toNat_natCast] at h124
          refine lSA (by kernel_rfl : opAt F7.o25 6 = some (some 125, .load 25 (.tmp 124), none)) rfl rfl (fun w' hS => h124.stay hS (by decide)) h124 (by kernel_rfl) (by kernel_rfl) rfl rfl ?_
          intro v125 g125
          obtain rfl := rv_couple.1 g125
          refine yS (by kernel_rfl : opAt F7.o25 7 = some (some 126, .move (.tmp 9), none)) rfl rfl (fun w' hS => val_move rfl) ?_
          refine yS (by kernel_rfl : opAt F7.o25 8 = some (some 127, .move (.tmp 13), none)) rfl rfl (fun w' hS => val_move rfl) ?_
          refine iS (e := 38) (by kernel_rfl : opAt F7.o25 9 = some (some 128, .indexAddr 26 (.tmp 126) (.tmp 127), none)) rfl rfl hp rfl (by kernel_rfl) rfl (by omega) (by omega) ?_
          intro b128 o128 h128
          try simp only [Int.toNat_natCast] at h128
          refine lS (by kernel_rfl : opAt F7.o25 10 = some (some 129, .load 38 (.tmp 128), none)) rfl rfl (fun w' hS => h128.stay hS (by decide)) h128 (by kernel_rfl) rfl rfl ?_
          intro v129 g129
          refine yS (by kernel_rfl : opAt F7.o25 11 = some (some 130, .move (.tmp 14), none)) rfl rfl (fun w' hS => val_move rfl) ?_
          refine iS (e := 25) (by kernel_rfl : opAt F7.o25 12 = some (some 131, .indexAddr 38 (.tmp 129) (.tmp 130), none)) rfl rfl g129 rfl (by kernel_rfl) rfl (by omega) (by omega) ?_
          intro b131 o131 h131
          try simp only [Int.toNat_natCast] at h131
          have h132 := RA.ca h131
          refine yS (by kernel_rfl : opAt F7.o25 13 = some (some 132, .fieldAddr 25 (.tmp 131) 0, none)) rfl rfl (fun w' hS => val_fieldAddr (off := 0) (by kernel_rfl) rfl) ?_
          refine lS (by kernel_rfl : opAt F7.o25 14 = some (some 133, .load 3 (.tmp 132), none)) rfl rfl (fun w' hS => h132.stay hS (by decide)) h132 (by kernel_rfl) rfl rfl ?_
          intro v133 g133
          first | (obtain rfl := rv_nat.1 g133) | (obtain rfl := rv_int.1 g133)
          refine yS (by kernel_rfl : opAt F7.o25 15 = some (some 134, .move (.tmp 9), none)) rfl rfl (fun w' hS => val_move rfl) ?_
          refine yS (by kernel_rfl : opAt F7.o25 16 = some (some 135, .move (.tmp 13), none)) rfl rfl (fun w' hS => val_move rfl) ?_
          refine iS (e := 38) (by kernel_rfl : opAt F7.o25 17 = some (some 136, .indexAddr 26 (.tmp 134) (.tmp 135), none)) rfl rfl hp rfl (by kernel_rfl) rfl (by omega) (by omega) ?_
          intro b136 o136 h136
          try simp only [Int.toNat_natCast] at h136
          refine lS (by kernel_rfl : opAt F7.o25 18 = some (some 137, .load 38 (.tmp 136), none)) rfl rfl (fun w' hS => h136.stay hS (by decide)) h136 (by kernel_rfl) rfl rfl ?_
          intro v137 g137
          refine yS (by kernel_rfl : opAt F7.o25 19 = some (some 138, .move (.tmp 14), none)) rfl rfl (fun w' hS => val_move rfl) ?_
          refine iS (e := 25) (by kernel_rfl : opAt F7.o25 20 = some (some 139, .indexAddr 38 (.tmp 137) (.tmp 138), none)) rfl rfl g137 rfl (by kernel_rfl) rfl (by omega) (by omega) ?_
          intro b139 o139 h139
          try simp only [Int.toNat_natCast] at h139
          have h140 := RA.cb h139
          refine yS (by kernel_rfl : opAt F7.o25 21 = some (some 140, .fieldAddr 25 (.tmp 139) 1, none)) rfl rfl (fun w' hS => val_fieldAddr (off := 1) (by kernel_rfl) rfl) ?_
          refine lS (by kernel_rfl : opAt F7.o25 22 = some (some 141, .load 3 (.tmp 140), none)) rfl rfl (fun w' hS => h140.stay hS (by decide)) h140 (by kernel_rfl) rfl rfl ?_
          intro v141 g141
          first | (obtain rfl := rv_nat.1 g141) | (obtain rfl := rv_int.1 g141)
          refine yS (by kernel_rfl : opAt F7.o25 23 = some (some 142, .binOp .mul 3 (.const (.int .i64 3)) (.tmp 141) 3, none)) rfl rfl (fun w' hS => val_muli rfl rfl (by omega) (by omega)) ?_
          refine yS (by kernel_rfl : opAt F7.o25 24 = some (some 143, .move (.tmp 1), none)) rfl rfl (fun w' hS => val_move rfl) ?_
          refine yS (by kernel_rfl : opAt F7.o25 25 = some (some 144, .convert 5 3 (.tmp 143), none)) rfl rfl (fun w' hS => val_convE (r := (m : Int)) rfl ⟨_, Try.underlying5⟩ Try.underlying3 (wrap_i64 (by omega) (by omega))) ?_
          refine yS (by kernel_rfl : opAt F7.o25 26 = some (some 145, .binOp .add 3 (.tmp 142) (.tmp 144) 3, none)) rfl rfl (fun w' hS => val_addi rfl rfl (by omega) (by omega)) ?_
          refine yS (by kernel_rfl : opAt F7.o25 27 = some (some 146, .build 25 #[(0, (.tmp 133)), (1, (.tmp 145))], none)) rfl rfl (fun w' hS => val_build (zs := [.int .i64 0, .int .i64 0]) (ps := [(0, 1), (1, 1)]) (qs := [(0, [.int .i64 (((partsS bl)[k]'hkl)[p]'hpl2).a]), (1, [.int .i64 (3 * (((partsS bl)[k]'hkl)[p]'hpl2).b + (m : Int))])]) (cs := encR (nameF m (((partsS bl)[k]'hkl)[p]'hpl2))) (by kernel_rfl) (by kernel_rfl) ⟨rfl, ⟨_, rfl, rfl⟩, rfl, ⟨_, rfl, rfl⟩, trivial⟩ rfl) ?_
          refine yS (by kernel_rfl : opAt F7.o25 28 = some (some 147, .binOp .neq 25 (.tmp 125) (.tmp 146) 25, none)) rfl rfl (fun w' hS => val_F (val_neC (a := _) (b := (nameF m (((partsS bl)[k]'hkl)[p]'hpl2))) Try.underlying25 (by decide) (by decide) (by kernel_rfl) Try.underlying3 rfl rfl) (fun e => e (by simp))) ?_
          refine Sch.nil ?_
          refine run_cond (x := F7.c89) (y := F7.c92) (o := .tmp 147) (b := false) (by kernel_rfl) rfl (fun h => by cases h) (fun _ => ?_)
          refine run_skip (by kernel_rfl) ?_
          refine run_inBlock ?_
          refine run_plain (id := 27) (ops := F7.o27) [(0, true), (1, true)] (by kernel_rfl) (by kernel_rfl) ?_
          refine yS (by kernel_rfl : opAt F7.o27 0 = some (some 148, .binOp .add 3 (.tmp 116) (.const (.int .i64 1)) 3, none)) rfl rfl (fun w' hS => val_addi rfl rfl (by omega) (by omega)) ?_
          refine yS (by kernel_rfl : opAt F7.o27 1 = some (some 116, .move (.tmp 148), none)) rfl rfl (fun w' hS => val_move rfl) ?_
          refine Sch.nil ?_
          refine kp (sub_cons 1 rfl rfl (sub_cons 9 rfl rfl (sub_cons 11 rfl rfl (sub_cons 13 rfl rfl (sub_cons 96 rfl rfl (sub_cons 97 rfl rfl (sub_cons 115 rfl rfl (sub_cons 116 rfl (eq_int (by simp)) (sub_nil _))))))))) (next3 (p + 1, C1) _ ⟨(by first | omega | (simp only; omega)), hF, hT, hp, hq⟩ (by first | omega | (simp only; omega)))
        · skip
          refine run_exit (id := 4) (by kernel_rfl) rfl ?_
          refine run_inBlock ?_
          refine run_plain (id := 28) (ops := F7.o28) [(0, true), (1, true)] (by kernel_rfl) (by kernel_rfl) ?_
          refine yS (by kernel_rfl : opAt F7.o28 0 = some (some 149, .binOp .add 3 (.tmp 97) (.const (.int .i64 1)) 3, none)) rfl rfl (fun w' hS => val_addi rfl rfl (by omega) (by omega)) ?_
          refine yS (by kernel_rfl : opAt F7.o28 1 = some (some 97, .move (.tmp 149), none)) rfl rfl (fun w' hS => val_move rfl) ?_
          refine Sch.nil ?_
          refine kp (sub_cons 1 rfl rfl (sub_cons 9 rfl rfl (sub_cons 11 rfl rfl (sub_cons 96 rfl rfl (sub_cons 97 rfl (eq_int (by simp)) (sub_nil _)))))) (next2 (k + 1, C1) _ ⟨(by first | omega | (simp only; omega)), hF, hT, hp, hq⟩ (by first | omega | (simp only; omega)))
      · skip
        refine run_exit (id := 2) (by kernel_rfl) rfl ?_
        refine run_seq (x := F7.c96) (y := F7.c97) (by kernel_rfl) ?_
        refine run_plain (id := 29) (ops := F7.o29) [(0, true)] (by kernel_rfl) (by kernel_rfl) ?_
        refine yS (by kernel_rfl : opAt F7.o29 0 = some (some 4, .assign (.const (.bool true)), none)) rfl rfl (fun w' hS => val_assign rfl) ?_
        refine Sch.nil ?_
        refine run_ret1 (by kernel_rfl) Try.func7 Try.results7 rfl ?_
        exact ⟨rfl, hT.out1 (by decide)⟩
end Go.Proofs.Ytfmdkdfhnkennaa

