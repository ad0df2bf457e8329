/- Steps through functions of the program. -/
import Derived.Test.YtfmdkdfhnkennaaKCA
set_option linter.unusedVariables false
set_option linter.unusedSimpArgs false
set_option maxRecDepth 100000
set_option maxHeartbeats 400000
namespace Go.Proofs.Ytfmdkdfhnkennaa
open Go.K Go.K.Rep

namespace F6
noncomputable def c0 : Code := bodyOf Try.f6
noncomputable def c1 : Code := cl c0
noncomputable def o0 : Array Oper := rops c1
noncomputable def c2 : Code := cr c0
noncomputable def c3 : Code := cl c2
noncomputable def c4 : Code := cl c3
noncomputable def o1 : Array Oper := rops c4
noncomputable def c5 : Code := cr c3
noncomputable def c6 : Code := cl c5
noncomputable def c7 : Code := cl c6
noncomputable def o2 : Array Oper := rops c7
noncomputable def c8 : Code := cr c6
noncomputable def c9 : Code := cr c5
noncomputable def c10 : Code := cr c2
noncomputable def c11 : Code := cl c10
noncomputable def o3 : Array Oper := rops c11
noncomputable def c12 : Code := cr c10
noncomputable def c13 : Code := cl c12
noncomputable def o4 : Array Oper := rops c13
noncomputable def c14 : Code := cr c12
noncomputable def c15 : Code := cl c14
noncomputable def c16 : Code := cl c15
noncomputable def o5 : Array Oper := rops c16
noncomputable def c17 : Code := cr c15
noncomputable def c18 : Code := cl c17
noncomputable def c19 : Code := cl c18
noncomputable def o6 : Array Oper := rops c19
noncomputable def c20 : Code := cr c18
noncomputable def c21 : Code := cr c17
noncomputable def c22 : Code := cr c14
noncomputable def c23 : Code := cl c22
noncomputable def o7 : Array Oper := rops c23
noncomputable def c24 : Code := cr c22
noncomputable def c25 : Code := cl c24
noncomputable def o8 : Array Oper := rops c25
noncomputable def c26 : Code := cr c24
noncomputable def c27 : Code := cl c26
noncomputable def o9 : Array Oper := rops c27
noncomputable def c28 : Code := cr c26
noncomputable def c29 : Code := cl c28
noncomputable def o10 : Array Oper := rops c29
noncomputable def c30 : Code := cr c28
noncomputable def c31 : Code := cl c30
noncomputable def c32 : Code := cl c31
noncomputable def o11 : Array Oper := rops c32
noncomputable def c33 : Code := cr c31
noncomputable def c34 : Code := cl c33
noncomputable def c35 : Code := cl c34
noncomputable def o12 : Array Oper := rops c35
noncomputable def c36 : Code := cr c34
noncomputable def c37 : Code := cr c33
noncomputable def c38 : Code := cr c30
noncomputable def c39 : Code := cl c38
noncomputable def o13 : Array Oper := rops c39
noncomputable def c40 : Code := cr c38
noncomputable def c41 : Code := cl c40
noncomputable def o14 : Array Oper := rops c41
noncomputable def c42 : Code := cr c40
end F6
/-- The statement's function answers true. -/
theorem componentJoins_ok {w₀ : World} {C : Nat → Nat} {l : List Int} {vl : Value} (hF : Lim w₀ C) (hl : RV w₀ (Mc C) l vl) : Calls Try.prog 6 #[vl] w₀ (Ret fun v w' => v = .bool true ∧ Stp [] w₀ C w' C) := by
  have hF0 := hF
  have hT := Stp.refl [2, 3, 4, 5, 6, 7, 8, 9] w₀ (col1 C)
  replace hF := hF.col1
  replace hl : RV w₀ (Mc (col1 C)) l vl := by rw [Mc_col1]; exact hl
  refine calls_start (c := F6.c0) (N := 84) [vl] Try.func6 (by kernel_rfl) (by kernel_rfl) (by kernel_rfl) ?_
  show Run _ _ _ _ [(0, vl)] _ _
  refine run_seq (x := F6.c1) (y := F6.c2) (by kernel_rfl) ?_
  refine run_plain (id := 0) (ops := F6.o0) [(0, true)] (by kernel_rfl) (by kernel_rfl) ?_
  refine yS (by kernel_rfl : opAt F6.o0 0 = some (some 2, .assign (.const (.bool false)), none)) rfl rfl (fun w' hS => val_assign rfl) ?_
  refine Sch.nil ?_
  refine run_seq (x := F6.c3) (y := F6.c10) (by kernel_rfl) ?_
  refine run_seq (x := F6.c4) (y := F6.c5) (by kernel_rfl) ?_
  refine run_plain (id := 1) (ops := F6.o1) [(0, false), (1, true), (2, true), (3, true), (4, false), (5, true), (6, true)] (by kernel_rfl) (by kernel_rfl) ?_
  refine cS (by kernel_rfl : opAt F6.o1 0 = some (some 12, .call { callee := .value (.func 8), args := #[], argTypes := #[] }, none)) rfl rfl (ent Try.call8 rfl) (awake_ok hF) ?_
  rintro vw1 w1 ⟨rfl, hs⟩
  refine ⟨trivial, ?_⟩
  replace hF := hF.st hs
  replace hT := hT.trans hs (by simp)
  replace hl := hl.st hs (by first | decide | (simp <;> omega))
  refine yS (by kernel_rfl : opAt F6.o1 1 = some (some 13, .unOp .not 4 (.tmp 12), none)) rfl rfl (fun w' hS => val_not rfl) ?_
  refine yS (by kernel_rfl : opAt F6.o1 2 = some (some 14, .move (.tmp 13), none)) rfl rfl (fun w' hS => val_move rfl) ?_
  refine yS (by kernel_rfl : opAt F6.o1 3 = some (some 15, .move (.tmp 0), (some (2, false)))) rfl rfl (fun w' hS => val_move rfl) ?_
  refine cS (by kernel_rfl : opAt F6.o1 4 = some (some 16, .call { callee := .value (.func 9), args := #[(.tmp 15)], argTypes := #[22] }, (some (2, false)))) rfl rfl (ent Try.call9 rfl) (few_any hl) ?_
  rintro vw2 w2 ⟨rfl, rfl⟩
  refine ⟨trivial, ?_⟩
  refine yS (by kernel_rfl : opAt F6.o1 5 = some (some 17, .unOp .not 4 (.tmp 16), (some (2, false)))) rfl rfl (fun w' hS => val_notd rfl) ?_
  refine yS (by kernel_rfl : opAt F6.o1 6 = some (some 18, .pick (.tmp 14) (.const (.bool true)) (.tmp 17), none)) rfl rfl (fun w' hS => val_pick_f rfl rfl) ?_
  refine Sch.nil ?_
  refine run_if (x := F6.c6) (y := F6.c9) (o := .tmp 18) (by kernel_rfl) rfl (fun h18 => ?_) (fun h18 => ?_)
  · skip
    refine run_seq (x := F6.c7) (y := F6.c8) (by kernel_rfl) ?_
    refine run_plain (id := 2) (ops := F6.o2) [(0, false), (1, true)] (by kernel_rfl) (by kernel_rfl) ?_
    refine cS (by kernel_rfl : opAt F6.o2 0 = some (some 19, .call { callee := .value (.func 8), args := #[], argTypes := #[] }, none)) rfl rfl (ent Try.call8 rfl) (awake_ok hF) ?_
    rintro vw3 w3 ⟨rfl, hs⟩
    refine ⟨trivial, ?_⟩
    replace hF := hF.st hs
    replace hT := hT.trans hs (by simp)
    replace hl := hl.st hs (by first | decide | (simp <;> omega))
    refine yS (by kernel_rfl : opAt F6.o2 1 = some (some 2, .assign (.tmp 19), none)) rfl rfl (fun w' hS => val_assign rfl) ?_
    refine Sch.nil ?_
    refine run_ret1 (by kernel_rfl) Try.func6 Try.results6 rfl ?_
    exact ⟨rfl, hT.out1 (by decide)⟩
  · skip
    refine run_skip (by kernel_rfl) ?_
    refine run_seq (x := F6.c11) (y := F6.c12) (by kernel_rfl) ?_
    refine run_plain (id := 3) (ops := F6.o3) [(0, true), (1, false), (2, true)] (by kernel_rfl) (by kernel_rfl) ?_
    refine yS (by kernel_rfl : opAt F6.o3 0 = some (some 20, .move (.tmp 0), none)) rfl rfl (fun w' hS => val_move rfl) ?_
    refine cS (by kernel_rfl : opAt F6.o3 1 = some (some 21, .call { callee := .value (.func 10), args := #[(.tmp 20)], argTypes := #[22] }, none)) rfl rfl (ent Try.call10 rfl) (new_any hF hl) ?_
    rintro vw4 w4 ⟨Cd, bd, rfl, hs, hF, hd⟩
    refine ⟨trivial, ?_⟩
    replace hT := hT.trans hs (by simp)
    replace hl := hl.st hs (by first | decide | (simp <;> omega))
    refine yS (by kernel_rfl : opAt F6.o3 2 = some (some 3, .assign (.tmp 21), none)) rfl rfl (fun w' hS => val_assign rfl) ?_
    refine Sch.nil ?_
    refine run_seq (x := F6.c13) (y := F6.c14) (by kernel_rfl) ?_
    refine run_plain (id := 4) (ops := F6.o4) [(0, true), (1, false), (2, true)] (by kernel_rfl) (by kernel_rfl) ?_
    refine yS (by kernel_rfl : opAt F6.o4 0 = some (some 22, .move (.tmp 3), none)) rfl rfl (fun w' hS => val_move rfl) ?_
    refine cS (by kernel_rfl : opAt F6.o4 1 = some (some 23, .call { callee := .value (.func 11), args := #[(.tmp 22), (.const (.int .i64 3)), (.const (.int .i64 3)), (.const (.int .i64 4))], argTypes := #[29, 3, 3, 3] }, none)) rfl rfl (ent Try.call11 rfl) (bonds_any (R := 3) (I := 3) (one := 4) hF (by decide) hd (by decide) (by decide) (by omega) (by omega)) ?_
    rintro vb w5 ⟨bl, hbl, ⟨hs, hb, hd⟩, _⟩
    refine ⟨trivial, ?_⟩
    replace hF := hF.st hs
    replace hT := hT.trans hs (by simp)
    replace hl := hl.st hs (by first | decide | (simp <;> omega))
    have hbv := hbl.vld (by decide) (by decide)
    have hck := hbv.check
    have hbL := hbl.2.2
    have hprl := parts_le bl
    have hrl2 := refsS_len bl
    refine yS (by kernel_rfl : opAt F6.o4 2 = some (some 4, .assign (.tmp 23), none)) rfl rfl (fun w' hS => val_assign rfl) ?_
    refine Sch.nil ?_
    refine run_seq (x := F6.c15) (y := F6.c22) (by kernel_rfl) ?_
    refine run_seq (x := F6.c16) (y := F6.c17) (by kernel_rfl) ?_
    refine run_plain (id := 5) (ops := F6.o5) [(0, true), (1, true), (2, true)] (by kernel_rfl) (by kernel_rfl) ?_
    refine yS (by kernel_rfl : opAt F6.o5 0 = some (some 24, .move (.tmp 4), none)) rfl rfl (fun w' hS => val_move rfl) ?_
    refine yS (by kernel_rfl : opAt F6.o5 1 = some (some 25, .call { callee := .builtin .len, args := #[(.tmp 24)], argTypes := #[23] }, none)) rfl rfl (fun w' hS => hb.lenV rfl Try.underlying23 w' ) ?_
    refine yS (by kernel_rfl : opAt F6.o5 2 = some (some 26, .binOp .eql 3 (.tmp 25) (.const (.int .i64 0)) 3, none)) rfl rfl (fun w' hS => val_eql rfl rfl) ?_
    refine Sch.nil ?_
    refine run_if (x := F6.c18) (y := F6.c21) (o := .tmp 26) (by kernel_rfl) rfl (fun h26 => ?_) (fun h26 => ?_)
    · skip
      refine run_seq (x := F6.c19) (y := F6.c20) (by kernel_rfl) ?_
      refine run_plain (id := 6) (ops := F6.o6) [(0, true)] (by kernel_rfl) (by kernel_rfl) ?_
      refine yS (by kernel_rfl : opAt F6.o6 0 = some (some 2, .assign (.const (.bool true)), none)) rfl rfl (fun w' hS => val_assign rfl) ?_
      refine Sch.nil ?_
      refine run_ret1 (by kernel_rfl) Try.func6 Try.results6 rfl ?_
      exact ⟨rfl, hT.out1 (by decide)⟩
    · skip
      have hbp : 0 < bl.length := by omega
      refine run_skip (by kernel_rfl) ?_
      refine run_seq (x := F6.c23) (y := F6.c24) (by kernel_rfl) ?_
      refine run_plain (id := 7) (ops := F6.o7) [(0, true), (1, true), (2, true), (3, false), (4, true)] (by kernel_rfl) (by kernel_rfl) ?_
      refine yS (by kernel_rfl : opAt F6.o7 0 = some (some 27, .move (.tmp 3), none)) rfl rfl (fun w' hS => val_move rfl) ?_
      refine yS (by kernel_rfl : opAt F6.o7 1 = some (some 28, .move (.tmp 4), none)) rfl rfl (fun w' hS => val_move rfl) ?_
      refine yS (by kernel_rfl : opAt F6.o7 2 = some (some 29, .call { callee := .builtin .len, args := #[(.tmp 28)], argTypes := #[23] }, none)) rfl rfl (fun w' hS => hb.lenV rfl Try.underlying23 w' ) ?_
      refine cS (by kernel_rfl : opAt F6.o7 3 = some (some 30, .call { callee := .value (.func 12), args := #[(.tmp 27), (.tmp 29)], argTypes := #[29, 3] }, none)) rfl rfl (ent Try.call12 rfl) (next_any (n := (bl.length : Int)) hF (by decide) hd (by omega) (by omega)) ?_
      rintro vw6 w6 ⟨z, rfl, hz, hs, hd⟩
      refine ⟨trivial, ?_⟩
      replace hF := hF.st hs
      replace hT := hT.trans hs (by simp)
      replace hl := hl.st hs (by first | decide | (simp <;> omega))
      replace hb := hb.st hs (by first | decide | (simp <;> omega))
      refine yS (by kernel_rfl : opAt F6.o7 4 = some (some 5, .assign (.tmp 30), none)) rfl rfl (fun w' hS => val_assign rfl) ?_
      refine Sch.nil ?_
      refine run_seq (x := F6.c25) (y := F6.c26) (by kernel_rfl) ?_
      refine run_draw (id := 8) (ops := F6.o8) [5] (Cd) [(0, true), (1, true), (2, true), (4, true), (5, true), (6, true), (7, true), (3, false), (8, false), (9, true)] Try_mixed (by kernel_rfl) (by kernel_rfl) (by kernel_rfl) ?_
      intro w7 hs
      replace hF := hF.st hs
      replace hT := hT.trans hs (by simp)
      replace hl := hl.st hs (by first | decide | (simp <;> omega))
      replace hd := hd.st hs (by first | decide | (simp <;> omega)) (by first | decide | (simp <;> omega))
      replace hb := hb.st hs (by first | decide | (simp <;> omega))
      have hR := Stp.refl [5] w7 (Cd)
      refine yS (by kernel_rfl : opAt F6.o8 0 = some (some 31, .move (.tmp 4), none)) rfl rfl (fun w' hS => val_move rfl) ?_
      refine yS (by kernel_rfl : opAt F6.o8 1 = some (some 32, .move (.tmp 5), none)) rfl rfl (fun w' hS => val_move rfl) ?_
      refine sTR (e' := 50) (by kernel_rfl : opAt F6.o8 2 = some (some 33, .slice 23 (.tmp 31) none (some (.tmp 32)) none, none)) rfl rfl hb rfl (by kernel_rfl) rfl (by omega) (by omega) ?_
      intro v33 h33
      try simp only [Int.toNat_natCast] at h33
      refine yS (by kernel_rfl : opAt F6.o8 4 = some (some 35, .move (.tmp 4), none)) rfl rfl (fun w' hS => val_move rfl) ?_
      refine yS (by kernel_rfl : opAt F6.o8 5 = some (some 36, .move (.tmp 5), none)) rfl rfl (fun w' hS => val_move rfl) ?_
      refine yS (by kernel_rfl : opAt F6.o8 6 = some (some 37, .binOp .add 3 (.tmp 36) (.const (.int .i64 1)) 3, none)) rfl rfl (fun w' hS => val_addi rfl rfl (by omega) (by omega)) ?_
      refine sFR (e' := 50) (by kernel_rfl : opAt F6.o8 7 = some (some 38, .slice 23 (.tmp 35) (some (.tmp 37)) none none, none)) rfl rfl hb rfl (by kernel_rfl) rfl (by omega) (by omega) ?_
      intro v38 h38
      try simp only [Int.toNat_natCast] at h38
      rw [show ((z : Int) + 1).toNat = z + 1 from by omega] at h38
      refine aS (by kernel_rfl : opAt F6.o8 3 = some (some 34, .call { callee := .builtin .append, args := #[(.const (.slice none 0 0)), (.tmp 33)], argTypes := #[23, 23] }, none)) rfl rfl (a_append (e := 50) (bytes := 40) hF (by decide) rfl rfl (by kernel_rfl) (by decide) (OwnL.nil (α := Bond) (j := 5)) h33 (by simp only [List.length_take, List.length_nil]; omega) (by simp only [List.length_take, List.length_nil]; omega)) ?_
      rintro v34 w8 ⟨Cw8, hs, hn, hF⟩
      refine ⟨(hR.trans hs (by simp)).ext, ?_⟩
      replace hT := hT.trans hs (by simp)
      replace hl := hl.st hs (by first | decide | (simp <;> omega))
      replace hd := hd.st hs (by first | decide | (simp <;> omega)) (by first | decide | (simp <;> omega))
      replace hb := hb.st hs (by first | decide | (simp <;> omega))
      replace hR := hR.trans hs (by simp)
      replace h33 := h33.st hs (by first | decide | (simp <;> omega))
      replace h38 := h38.st hs (by first | decide | (simp <;> omega))
      refine aS (by kernel_rfl : opAt F6.o8 8 = some (some 39, .call { callee := .builtin .append, args := #[(.tmp 34), (.tmp 38)], argTypes := #[23, 23] }, none)) rfl rfl (a_append (e := 50) (bytes := 40) hF (by decide) rfl rfl (by kernel_rfl) (by decide) hn h38 (by simp only [List.length_append, List.length_take, List.length_nil, List.length_drop]; omega) (by simp only [List.length_append, List.length_take, List.length_nil, List.length_drop]; omega)) ?_
      rintro v39 w9 ⟨Cw9, hs, hn, hF⟩
      refine ⟨(hR.trans hs (by simp)).ext, ?_⟩
      replace hT := hT.trans hs (by simp)
      replace hl := hl.st hs (by first | decide | (simp <;> omega))
      replace hd := hd.st hs (by first | decide | (simp <;> omega)) (by first | decide | (simp <;> omega))
      replace hb := hb.st hs (by first | decide | (simp <;> omega))
      replace hR := hR.trans hs (by simp)
      replace h33 := h33.st hs (by first | decide | (simp <;> omega))
      replace h38 := h38.st hs (by first | decide | (simp <;> omega))
      refine yS (by kernel_rfl : opAt F6.o8 9 = some (some 6, .assign (.tmp 39), none)) rfl rfl (fun w' hS => val_assign rfl) ?_
      refine Sch.nil ?_
      simp only [List.nil_append] at hn
      have hzl : z < bl.length := by omega
      obtain ⟨fw, hfe⟩ : ∃ l, l = bl.take z ++ bl.drop (z + 1) := ⟨_, rfl⟩
      rw [← hfe] at hn
      have hsub : fw.Sublist bl := by rw [hfe, ← List.eraseIdx_eq_take_drop_succ]; exact List.eraseIdx_sublist _ _
      have hfl := hsub.length_le
      have hme : ∀ y, y ∈ bl ↔ y ∈ fw ∨ y = bl[z] := fun y => by
        have e : bl.take z ++ bl[z] :: bl.drop (z + 1) = bl := by rw [List.getElem_cons_drop, List.take_append_drop]
        have : y ∈ bl.take z ++ bl[z] :: bl.drop (z + 1) ↔ y ∈ fw ∨ y = bl[z] := by
          rw [hfe]
          simp only [List.mem_append, List.mem_cons]
          constructor
          · rintro (h | h | h) <;> simp [h]
          · rintro ((h | h) | h) <;> simp [h]
        rwa [e] at this
      have hckf := (hbv.sub hsub).check
      have hpfl := parts_le fw
      have hrf2 := refsS_len fw
      replace hF := hF.frz 5
      replace hT := hT.frz (n := 5) (fun b => Nat.lt_of_lt_of_le (col1_lt2 C b) (by decide))
      replace hl := hl.frz 5
      replace hd := hd.frz (n := 5) (by decide)
      replace hb := hb.frz 5
      clear h33
      clear h38
      have hfw := hn.frz (n := 5) (by decide) (by omega)
      refine run_seq (x := F6.c27) (y := F6.c28) (by kernel_rfl) ?_
      refine run_plain (id := 9) (ops := F6.o9) [(0, true), (1, false), (2, true), (3, true), (4, true), (5, true), (6, true)] (by kernel_rfl) (by kernel_rfl) ?_
      refine yS (by kernel_rfl : opAt F6.o9 0 = some (some 41, .move (.tmp 4), none)) rfl rfl (fun w' hS => val_move rfl) ?_
      refine cS (by kernel_rfl : opAt F6.o9 1 = some (some 42, .call { callee := .value (.func 19), args := #[(.tmp 41)], argTypes := #[23] }, none)) rfl rfl (ent Try.call19 rfl) (of_ok hF hb (by omega)) ?_
      rintro vw10 w10 ⟨u, rfl, hs, _, hp⟩
      refine ⟨trivial, ?_⟩
      replace hF := hF.st hs
      replace hT := hT.trans hs (by simp)
      replace hl := hl.st hs (by first | decide | (simp <;> omega))
      replace hd := hd.st hs (by first | decide | (simp <;> omega)) (by first | decide | (simp <;> omega))
      replace hb := hb.st hs (by first | decide | (simp <;> omega))
      replace hfw := hfw.st hs (by first | decide | (simp <;> omega))
      rw [if_pos hck] at hp
      rw [hck]
      refine yS (by kernel_rfl : opAt F6.o9 2 = some (some 40, .move (.tmp 42), none)) rfl rfl (fun w' hS => val_move rfl) ?_
      refine yS (by kernel_rfl : opAt F6.o9 3 = some (some 43, .extract (.tmp 40) 0, none)) rfl rfl (fun w' hS => val_extract rfl rfl) ?_
      refine yS (by kernel_rfl : opAt F6.o9 4 = some (some 44, .extract (.tmp 40) 1, none)) rfl rfl (fun w' hS => val_extract rfl rfl) ?_
      refine yS (by kernel_rfl : opAt F6.o9 5 = some (some 7, .assign (.tmp 43), none)) rfl rfl (fun w' hS => val_assign rfl) ?_
      refine yS (by kernel_rfl : opAt F6.o9 6 = some (some 8, .assign (.tmp 44), none)) rfl rfl (fun w' hS => val_assign rfl) ?_
      refine Sch.nil ?_
      refine run_seq (x := F6.c29) (y := F6.c30) (by kernel_rfl) ?_
      refine run_plain (id := 10) (ops := F6.o10) [(0, true), (1, false), (2, true), (3, true), (4, true), (5, true), (6, true)] (by kernel_rfl) (by kernel_rfl) ?_
      refine yS (by kernel_rfl : opAt F6.o10 0 = some (some 46, .move (.tmp 6), none)) rfl rfl (fun w' hS => val_move rfl) ?_
      refine cS (by kernel_rfl : opAt F6.o10 1 = some (some 47, .call { callee := .value (.func 19), args := #[(.tmp 46)], argTypes := #[23] }, none)) rfl rfl (ent Try.call19 rfl) (of_ok hF hfw (by omega)) ?_
      rintro vw11 w11 ⟨uf, rfl, hs, _, hq⟩
      refine ⟨trivial, ?_⟩
      replace hF := hF.st hs
      replace hT := hT.trans hs (by simp)
      replace hl := hl.st hs (by first | decide | (simp <;> omega))
      replace hd := hd.st hs (by first | decide | (simp <;> omega)) (by first | decide | (simp <;> omega))
      replace hb := hb.st hs (by first | decide | (simp <;> omega))
      replace hfw := hfw.st hs (by first | decide | (simp <;> omega))
      replace hp := hp.st hs (by first | decide | (simp <;> omega))
      rw [if_pos hckf] at hq
      rw [hckf]
      refine yS (by kernel_rfl : opAt F6.o10 2 = some (some 45, .move (.tmp 47), none)) rfl rfl (fun w' hS => val_move rfl) ?_
      refine yS (by kernel_rfl : opAt F6.o10 3 = some (some 48, .extract (.tmp 45) 0, none)) rfl rfl (fun w' hS => val_extract rfl rfl) ?_
      refine yS (by kernel_rfl : opAt F6.o10 4 = some (some 49, .extract (.tmp 45) 1, none)) rfl rfl (fun w' hS => val_extract rfl rfl) ?_
      refine yS (by kernel_rfl : opAt F6.o10 5 = some (some 9, .assign (.tmp 48), none)) rfl rfl (fun w' hS => val_assign rfl) ?_
      refine yS (by kernel_rfl : opAt F6.o10 6 = some (some 10, .assign (.tmp 49), none)) rfl rfl (fun w' hS => val_assign rfl) ?_
      refine Sch.nil ?_
      refine run_seq (x := F6.c31) (y := F6.c38) (by kernel_rfl) ?_
      refine run_seq (x := F6.c32) (y := F6.c33) (by kernel_rfl) ?_
      refine run_draw (id := 11) (ops := F6.o11) [] (K.frz 5 Cw9) [(0, true), (1, true), (2, true), (3, true), (4, true), (5, true), (6, true), (7, true), (8, true), (9, true), (10, true), (11, true), (12, true), (14, true), (15, true), (16, true), (17, true), (18, true), (19, true), (13, false), (20, false), (21, true), (22, true)] Try_mixed (by kernel_rfl) (by kernel_rfl) (by kernel_rfl) ?_
      intro w12 hs
      replace hF := hF.st hs
      replace hT := hT.trans hs (by simp)
      replace hl := hl.st hs (by first | decide | (simp <;> omega))
      replace hd := hd.st hs (by first | decide | (simp <;> omega)) (by first | decide | (simp <;> omega))
      replace hb := hb.st hs (by first | decide | (simp <;> omega))
      replace hfw := hfw.st hs (by first | decide | (simp <;> omega))
      replace hp := hp.st hs (by first | decide | (simp <;> omega))
      replace hq := hq.st hs (by first | decide | (simp <;> omega))
      have hR := Stp.refl [] w12 (K.frz 5 Cw9)
      have hrA : (bl[z]).A ∈ refsS bl := mem_refsS.2 ⟨_, List.getElem_mem hzl, .inl rfl⟩
      have hrB : (bl[z]).B ∈ refsS bl := mem_refsS.2 ⟨_, List.getElem_mem hzl, .inr rfl⟩
      have hfq : findS (partsS bl) (bl[z]).A = findS (partsS bl) (bl[z]).B := (find_same hrA hrB).2 (rho_edge (List.getElem_mem hzl))
      refine yS (by kernel_rfl : opAt F6.o11 0 = some (some 50, .move (.tmp 8), none)) rfl rfl (fun w' hS => val_move rfl) ?_
      refine yS (by kernel_rfl : opAt F6.o11 1 = some (some 51, .binOp .neq 35 (.tmp 50) (.const (.int .i64 0)) 35, none)) rfl rfl (fun w' hS => val_F (val_neq rfl rfl) (fun e => e rfl)) ?_
      refine yS (by kernel_rfl : opAt F6.o11 2 = some (some 52, .move (.tmp 51), none)) rfl rfl (fun w' hS => val_move rfl) ?_
      refine yS (by kernel_rfl : opAt F6.o11 3 = some (some 53, .move (.tmp 10), (some (2, false)))) rfl rfl (fun w' hS => val_move rfl) ?_
      refine yS (by kernel_rfl : opAt F6.o11 4 = some (some 54, .binOp .neq 35 (.tmp 53) (.const (.int .i64 0)) 35, (some (2, false)))) rfl rfl (fun w' hS => val_F (val_neq rfl rfl) (fun e => e rfl)) ?_
      refine yS (by kernel_rfl : opAt F6.o11 5 = some (some 55, .pick (.tmp 52) (.const (.bool true)) (.tmp 54), none)) rfl rfl (fun w' hS => val_pick_f rfl rfl) ?_
      refine yS (by kernel_rfl : opAt F6.o11 6 = some (some 56, .move (.tmp 55), none)) rfl rfl (fun w' hS => val_move rfl) ?_
      refine yS (by kernel_rfl : opAt F6.o11 7 = some (some 57, .move (.tmp 7), (some (6, false)))) rfl rfl (fun w' hS => val_move rfl) ?_
      refine yS (by kernel_rfl : opAt F6.o11 8 = some (some 58, .move (.tmp 4), (some (6, false)))) rfl rfl (fun w' hS => val_move rfl) ?_
      refine yS (by kernel_rfl : opAt F6.o11 9 = some (some 59, .move (.tmp 5), (some (6, false)))) rfl rfl (fun w' hS => val_move rfl) ?_
      refine iS (e := 50) (by kernel_rfl : opAt F6.o11 10 = some (some 60, .indexAddr 23 (.tmp 58) (.tmp 59), (some (6, false)))) rfl rfl hb rfl (by kernel_rfl) rfl (by omega) (by omega) ?_
      intro b60 o60 h60
      try simp only [Int.toNat_natCast] at h60
      have h61 := RA.bA h60
      refine yS (by kernel_rfl : opAt F6.o11 11 = some (some 61, .fieldAddr 50 (.tmp 60) 0, (some (6, false)))) rfl rfl (fun w' hS => val_fieldAddr (off := 0) (by kernel_rfl) rfl) ?_
      refine lSA (by kernel_rfl : opAt F6.o11 12 = some (some 62, .load 25 (.tmp 61), (some (6, false)))) rfl rfl (fun w' hS => h61.stay hS (by decide)) h61 (by kernel_rfl) (by kernel_rfl) rfl rfl ?_
      intro v62 g62
      obtain rfl := rv_couple.1 g62
      refine yS (by kernel_rfl : opAt F6.o11 14 = some (some 64, .move (.tmp 7), (some (6, false)))) rfl rfl (fun w' hS => val_move rfl) ?_
      refine yS (by kernel_rfl : opAt F6.o11 15 = some (some 65, .move (.tmp 4), (some (6, false)))) rfl rfl (fun w' hS => val_move rfl) ?_
      refine yS (by kernel_rfl : opAt F6.o11 16 = some (some 66, .move (.tmp 5), (some (6, false)))) rfl rfl (fun w' hS => val_move rfl) ?_
      refine iS (e := 50) (by kernel_rfl : opAt F6.o11 17 = some (some 67, .indexAddr 23 (.tmp 65) (.tmp 66), (some (6, false)))) rfl rfl hb rfl (by kernel_rfl) rfl (by omega) (by omega) ?_
      intro b67 o67 h67
      try simp only [Int.toNat_natCast] at h67
      have h68 := RA.bB h67
      refine yS (by kernel_rfl : opAt F6.o11 18 = some (some 68, .fieldAddr 50 (.tmp 67) 1, (some (6, false)))) rfl rfl (fun w' hS => val_fieldAddr (off := 2) (by kernel_rfl) rfl) ?_
      refine lSA (by kernel_rfl : opAt F6.o11 19 = some (some 69, .load 25 (.tmp 68), (some (6, false)))) rfl rfl (fun w' hS => h68.stay hS (by decide)) h68 (by kernel_rfl) (by kernel_rfl) rfl rfl ?_
      intro v69 g69
      obtain rfl := rv_couple.1 g69
      refine cS (by kernel_rfl : opAt F6.o11 13 = some (some 63, .call { callee := .value (.func 22), args := #[(.tmp 57), (.tmp 62)], argTypes := #[26, 25] }, (some (6, false)))) rfl rfl (ent Try.call22 rfl) (find_ok (c := (bl[z]).A) hF hp) ?_
      rintro vw13 w13 ⟨rfl, hs⟩
      refine ⟨(hR.trans hs (by simp)).ext, ?_⟩
      replace hF := hF.st hs
      replace hT := hT.trans hs (by simp)
      replace hl := hl.st hs (by first | decide | (simp <;> omega))
      replace hd := hd.st hs (by first | decide | (simp <;> omega)) (by first | decide | (simp <;> omega))
      replace hb := hb.st hs (by first | decide | (simp <;> omega))
      replace hfw := hfw.st hs (by first | decide | (simp <;> omega))
      replace hp := hp.st hs (by first | decide | (simp <;> omega))
      replace hq := hq.st hs (by first | decide | (simp <;> omega))
      replace hR := hR.trans hs (by simp)
      replace h60 := h60.st hs (by first | decide | (simp <;> omega))
      replace h61 := h61.st hs (by first | decide | (simp <;> omega))
      replace g62 := g62.st hs (by first | decide | (simp <;> omega))
      replace h67 := h67.st hs (by first | decide | (simp <;> omega))
      replace h68 := h68.st hs (by first | decide | (simp <;> omega))
      replace g69 := g69.st hs (by first | decide | (simp <;> omega))
      refine cS (by kernel_rfl : opAt F6.o11 20 = some (some 70, .call { callee := .value (.func 22), args := #[(.tmp 64), (.tmp 69)], argTypes := #[26, 25] }, (some (6, false)))) rfl rfl (ent Try.call22 rfl) (find_ok (c := (bl[z]).B) hF hp) ?_
      rintro vw14 w14 ⟨rfl, hs⟩
      refine ⟨(hR.trans hs (by simp)).ext, ?_⟩
      replace hF := hF.st hs
      replace hT := hT.trans hs (by simp)
      replace hl := hl.st hs (by first | decide | (simp <;> omega))
      replace hd := hd.st hs (by first | decide | (simp <;> omega)) (by first | decide | (simp <;> omega))
      replace hb := hb.st hs (by first | decide | (simp <;> omega))
      replace hfw := hfw.st hs (by first | decide | (simp <;> omega))
      replace hp := hp.st hs (by first | decide | (simp <;> omega))
      replace hq := hq.st hs (by first | decide | (simp <;> omega))
      replace hR := hR.trans hs (by simp)
      replace h60 := h60.st hs (by first | decide | (simp <;> omega))
      replace h61 := h61.st hs (by first | decide | (simp <;> omega))
      replace g62 := g62.st hs (by first | decide | (simp <;> omega))
      replace h67 := h67.st hs (by first | decide | (simp <;> omega))
      replace h68 := h68.st hs (by first | decide | (simp <;> omega))
      replace g69 := g69.st hs (by first | decide | (simp <;> omega))
      refine yS (by kernel_rfl : opAt F6.o11 21 = some (some 71, .binOp .neq 3 (.tmp 63) (.tmp 70) 3, (some (6, false)))) rfl rfl (fun w' hS => val_F (val_neq rfl rfl) (fun e => e hfq)) ?_
      refine yS (by kernel_rfl : opAt F6.o11 22 = some (some 72, .pick (.tmp 56) (.const (.bool true)) (.tmp 71), none)) rfl rfl (fun w' hS => val_pick_f rfl rfl) ?_
      refine Sch.nil ?_
      refine run_cond (x := F6.c34) (y := F6.c37) (o := .tmp 72) (b := false) (by kernel_rfl) rfl (fun h => by cases h) (fun _ => ?_)
      refine run_skip (by kernel_rfl) ?_
      refine run_seq (x := F6.c39) (y := F6.c40) (by kernel_rfl) ?_
      refine run_plain (id := 13) (ops := F6.o13) [(0, true), (1, true), (2, true), (3, true), (4, true), (5, true)] (by kernel_rfl) (by kernel_rfl) ?_
      refine yS (by kernel_rfl : opAt F6.o13 0 = some (some 73, .move (.tmp 7), none)) rfl rfl (fun w' hS => val_move rfl) ?_
      refine yS (by kernel_rfl : opAt F6.o13 1 = some (some 74, .call { callee := .builtin .len, args := #[(.tmp 73)], argTypes := #[26] }, none)) rfl rfl (fun w' hS => hp.lenV rfl Try.underlying26 w' ) ?_
      refine yS (by kernel_rfl : opAt F6.o13 2 = some (some 75, .move (.tmp 9), none)) rfl rfl (fun w' hS => val_move rfl) ?_
      refine yS (by kernel_rfl : opAt F6.o13 3 = some (some 76, .call { callee := .builtin .len, args := #[(.tmp 75)], argTypes := #[26] }, none)) rfl rfl (fun w' hS => hq.lenV rfl Try.underlying26 w' ) ?_
      refine yS (by kernel_rfl : opAt F6.o13 4 = some (some 77, .binOp .sub 3 (.tmp 74) (.tmp 76) 3, none)) rfl rfl (fun w' hS => val_subi rfl rfl (by omega) (by omega)) ?_
      refine yS (by kernel_rfl : opAt F6.o13 5 = some (some 11, .assign (.tmp 77), none)) rfl rfl (fun w' hS => val_assign rfl) ?_
      refine Sch.nil ?_
      refine run_seq (x := F6.c41) (y := F6.c42) (by kernel_rfl) ?_
      refine run_plain (id := 14) (ops := F6.o14) [(0, true), (1, true), (2, true), (3, true), (4, true), (5, true), (6, true)] (by kernel_rfl) (by kernel_rfl) ?_
      have hj := joins_law (List.getElem_mem hzl) hme
      refine yS (by kernel_rfl : opAt F6.o14 0 = some (some 78, .move (.tmp 11), none)) rfl rfl (fun w' hS => val_move rfl) ?_
      refine yS (by kernel_rfl : opAt F6.o14 1 = some (some 79, .binOp .geq 3 (.tmp 78) (.const (.int .i64 (-1))) 3, none)) rfl rfl (fun w' hS => val_T (val_geq rfl rfl) (by omega)) ?_
      refine yS (by kernel_rfl : opAt F6.o14 2 = some (some 80, .move (.tmp 79), none)) rfl rfl (fun w' hS => val_move rfl) ?_
      refine yS (by kernel_rfl : opAt F6.o14 3 = some (some 81, .move (.tmp 11), (some (2, true)))) rfl rfl (fun w' hS => val_move rfl) ?_
      refine yS (by kernel_rfl : opAt F6.o14 4 = some (some 82, .binOp .leq 3 (.tmp 81) (.const (.int .i64 1)) 3, (some (2, true)))) rfl rfl (fun w' hS => val_T (val_leq rfl rfl) (by omega)) ?_
      refine yS (by kernel_rfl : opAt F6.o14 5 = some (some 83, .pick (.tmp 80) (.tmp 82) (.const (.bool false)), none)) rfl rfl (fun w' hS => val_pick_t rfl rfl) ?_
      refine yS (by kernel_rfl : opAt F6.o14 6 = some (some 2, .assign (.tmp 83), none)) rfl rfl (fun w' hS => val_assign rfl) ?_
      refine Sch.nil ?_
      refine run_ret1 (by kernel_rfl) Try.func6 Try.results6 rfl ?_
      exact ⟨rfl, hT.out1 (by decide)⟩
namespace F6B
noncomputable def c0 : Code := bodyOf Try.f6
noncomputable def c1 : Code := cl c0
noncomputable def o0 : Array Oper := rops c1
noncomputable def c2 : Code := cr c0
noncomputable def c3 : Code := cl c2
noncomputable def c4 : Code := cl c3
noncomputable def o1 : Array Oper := rops c4
noncomputable def c5 : Code := cr c3
noncomputable def c6 : Code := cl c5
noncomputable def c7 : Code := cl c6
noncomputable def o2 : Array Oper := rops c7
noncomputable def c8 : Code := cr c6
noncomputable def c9 : Code := cr c5
noncomputable def c10 : Code := cr c2
noncomputable def c11 : Code := cl c10
noncomputable def o3 : Array Oper := rops c11
noncomputable def c12 : Code := cr c10
noncomputable def c13 : Code := cl c12
noncomputable def o4 : Array Oper := rops c13
noncomputable def c14 : Code := cr c12
noncomputable def c15 : Code := cl c14
noncomputable def c16 : Code := cl c15
noncomputable def o5 : Array Oper := rops c16
noncomputable def c17 : Code := cr c15
noncomputable def c18 : Code := cl c17
noncomputable def c19 : Code := cl c18
noncomputable def o6 : Array Oper := rops c19
noncomputable def c20 : Code := cr c18
noncomputable def c21 : Code := cr c17
noncomputable def c22 : Code := cr c14
noncomputable def c23 : Code := cl c22
noncomputable def o7 : Array Oper := rops c23
noncomputable def c24 : Code := cr c22
noncomputable def c25 : Code := cl c24
noncomputable def o8 : Array Oper := rops c25
noncomputable def c26 : Code := cr c24
noncomputable def c27 : Code := cl c26
noncomputable def o9 : Array Oper := rops c27
noncomputable def c28 : Code := cr c26
noncomputable def c29 : Code := cl c28
noncomputable def o10 : Array Oper := rops c29
noncomputable def c30 : Code := cr c28
noncomputable def c31 : Code := cl c30
noncomputable def c32 : Code := cl c31
noncomputable def o11 : Array Oper := rops c32
noncomputable def c33 : Code := cr c31
noncomputable def c34 : Code := cl c33
noncomputable def c35 : Code := cl c34
noncomputable def o12 : Array Oper := rops c35
noncomputable def c36 : Code := cr c34
noncomputable def c37 : Code := cr c33
noncomputable def c38 : Code := cr c30
noncomputable def c39 : Code := cl c38
noncomputable def o13 : Array Oper := rops c39
noncomputable def c40 : Code := cr c38
noncomputable def c41 : Code := cl c40
noncomputable def o14 : Array Oper := rops c41
noncomputable def c42 : Code := cr c40
end F6B
/-- .. where more is handed than it looks at. -/
theorem componentJoins_big {w₀ : World} {C : Nat → Nat} {p : Option Addr} {n c : Nat} (hF : Lim w₀ C) (hn : 400 < n) : Calls Try.prog 6 #[.slice p n c] w₀ (Ret fun v w' => v = .bool true ∧ Stp [] w₀ C w' C) := by
  have hF0 := hF
  have hT := Stp.refl [2, 3, 4, 5, 6, 7, 8, 9] w₀ (col1 C)
  replace hF := hF.col1
  refine calls_start (c := F6B.c0) (N := 84) [.slice p n c] Try.func6 (by kernel_rfl) (by kernel_rfl) (by kernel_rfl) ?_
  show Run _ _ _ _ [(0, .slice p n c)] _ _
  refine run_seq (x := F6B.c1) (y := F6B.c2) (by kernel_rfl) ?_
  refine run_plain (id := 0) (ops := F6B.o0) [(0, true)] (by kernel_rfl) (by kernel_rfl) ?_
  refine yS (by kernel_rfl : opAt F6B.o0 0 = some (some 2, .assign (.const (.bool false)), none)) rfl rfl (fun w' hS => val_assign rfl) ?_
  refine Sch.nil ?_
  refine run_seq (x := F6B.c3) (y := F6B.c10) (by kernel_rfl) ?_
  refine run_seq (x := F6B.c4) (y := F6B.c5) (by kernel_rfl) ?_
  refine run_plain (id := 1) (ops := F6B.o1) [(0, false), (1, true), (2, true), (3, true), (4, false), (5, true), (6, true)] (by kernel_rfl) (by kernel_rfl) ?_
  refine cS (by kernel_rfl : opAt F6B.o1 0 = some (some 12, .call { callee := .value (.func 8), args := #[], argTypes := #[] }, none)) rfl rfl (ent Try.call8 rfl) (awake_ok hF) ?_
  rintro vw1 w1 ⟨rfl, hs⟩
  refine ⟨trivial, ?_⟩
  replace hF := hF.st hs
  replace hT := hT.trans hs (by simp)
  refine yS (by kernel_rfl : opAt F6B.o1 1 = some (some 13, .unOp .not 4 (.tmp 12), none)) rfl rfl (fun w' hS => val_not rfl) ?_
  refine yS (by kernel_rfl : opAt F6B.o1 2 = some (some 14, .move (.tmp 13), none)) rfl rfl (fun w' hS => val_move rfl) ?_
  refine yS (by kernel_rfl : opAt F6B.o1 3 = some (some 15, .move (.tmp 0), (some (2, false)))) rfl rfl (fun w' hS => val_move rfl) ?_
  refine cS (by kernel_rfl : opAt F6B.o1 4 = some (some 16, .call { callee := .value (.func 9), args := #[(.tmp 15)], argTypes := #[22] }, (some (2, false)))) rfl rfl (ent Try.call9 rfl) (few_ok _ _ _ _) ?_
  rintro vw2 w2 ⟨rfl, rfl⟩
  refine ⟨trivial, ?_⟩
  rw [decide_eq_false (show ¬ (n : Int) ≤ 400 by omega)]
  refine yS (by kernel_rfl : opAt F6B.o1 5 = some (some 17, .unOp .not 4 (.tmp 16), (some (2, false)))) rfl rfl (fun w' hS => val_not rfl) ?_
  refine yS (by kernel_rfl : opAt F6B.o1 6 = some (some 18, .pick (.tmp 14) (.const (.bool true)) (.tmp 17), none)) rfl rfl (fun w' hS => val_pick_f rfl rfl) ?_
  refine Sch.nil ?_
  refine run_cond (x := F6B.c6) (y := F6B.c9) (o := .tmp 18) (b := true) (by kernel_rfl) rfl (fun _ => ?_) (fun h => by cases h)
  refine run_seq (x := F6B.c7) (y := F6B.c8) (by kernel_rfl) ?_
  refine run_plain (id := 2) (ops := F6B.o2) [(0, false), (1, true)] (by kernel_rfl) (by kernel_rfl) ?_
  refine cS (by kernel_rfl : opAt F6B.o2 0 = some (some 19, .call { callee := .value (.func 8), args := #[], argTypes := #[] }, none)) rfl rfl (ent Try.call8 rfl) (awake_ok hF) ?_
  rintro vw3 w3 ⟨rfl, hs⟩
  refine ⟨trivial, ?_⟩
  replace hF := hF.st hs
  replace hT := hT.trans hs (by simp)
  refine yS (by kernel_rfl : opAt F6B.o2 1 = some (some 2, .assign (.tmp 19), none)) rfl rfl (fun w' hS => val_assign rfl) ?_
  refine Sch.nil ?_
  refine run_ret1 (by kernel_rfl) Try.func6 Try.results6 rfl ?_
  exact ⟨rfl, hT.out1 (by decide)⟩
end Go.Proofs.Ytfmdkdfhnkennaa

