/- Steps through functions of the program. -/
import Derived.Test.YtfmdkdfhnkennaaKCC
set_option linter.unusedVariables false
set_option linter.unusedSimpArgs false
set_option maxRecDepth 100000
set_option maxHeartbeats 400000
namespace Go.Proofs.Ytfmdkdfhnkennaa
open Go.K Go.K.Rep

namespace F15
noncomputable def c0 : Code := bodyOf Try.f15
noncomputable def c1 : Code := cl c0
noncomputable def o0 : Array Oper := rops c1
noncomputable def c2 : Code := cr c0
noncomputable def c3 : Code := cl c2
noncomputable def c4 : Code := cl c3
noncomputable def o1 : Array Oper := rops c4
noncomputable def c5 : Code := cr c3
noncomputable def c6 : Code := cl c5
noncomputable def c7 : Code := cl c6
noncomputable def o2 : Array Oper := rops c7
noncomputable def c8 : Code := cr c6
noncomputable def c9 : Code := cr c5
noncomputable def c10 : Code := cr c2
noncomputable def c11 : Code := cl c10
noncomputable def c12 : Code := cl c11
noncomputable def o3 : Array Oper := rops c12
noncomputable def c13 : Code := cr c11
noncomputable def c14 : Code := cl c13
noncomputable def c15 : Code := cl c14
noncomputable def c16 : Code := cl c15
noncomputable def c17 : Code := cl c16
noncomputable def o4 : Array Oper := rops c17
noncomputable def c18 : Code := cr c16
noncomputable def c19 : Code := cl c18
noncomputable def c20 : Code := cr c18
noncomputable def c21 : Code := cr c15
noncomputable def c22 : Code := cl c21
noncomputable def c23 : Code := cl c22
noncomputable def c24 : Code := cl c23
noncomputable def o6 : Array Oper := rops c24
noncomputable def c25 : Code := cr c23
noncomputable def c26 : Code := cl c25
noncomputable def c27 : Code := cl c26
noncomputable def o7 : Array Oper := rops c27
noncomputable def c28 : Code := cr c26
noncomputable def c29 : Code := cl c28
noncomputable def c30 : Code := cl c29
noncomputable def o8 : Array Oper := rops c30
noncomputable def c31 : Code := cr c29
noncomputable def c32 : Code := cr c28
noncomputable def c33 : Code := cr c25
noncomputable def c34 : Code := cl c33
noncomputable def c35 : Code := cl c34
noncomputable def o9 : Array Oper := rops c35
noncomputable def c36 : Code := cr c34
noncomputable def c37 : Code := cl c36
noncomputable def c38 : Code := cl c37
noncomputable def o10 : Array Oper := rops c38
noncomputable def c39 : Code := cr c37
noncomputable def c40 : Code := cr c36
noncomputable def c41 : Code := cr c33
noncomputable def c42 : Code := cl c41
noncomputable def o11 : Array Oper := rops c42
noncomputable def c43 : Code := cr c41
noncomputable def c44 : Code := cl c43
noncomputable def c45 : Code := cl c44
noncomputable def o12 : Array Oper := rops c45
noncomputable def c46 : Code := cr c44
noncomputable def c47 : Code := cr c43
noncomputable def c48 : Code := cr c21
noncomputable def o5 : Array Oper := rops c48
noncomputable def c49 : Code := cr c10
noncomputable def c50 : Code := cl c49
noncomputable def o13 : Array Oper := rops c50
noncomputable def c51 : Code := cr c49
end F15
theorem refCheck_ok {w₀ : World} {C : Nat → Nat} {l : List Bond} {vl : Value} (hF : Lim w₀ C) (hl : RV w₀ (Mc C) l vl) : Calls Try.prog 15 #[vl] w₀ (Ret fun v w' => v = .int .i64 (checkS l) ∧ Stp [] w₀ C w' C) := by
  have hF0 := hF
  have hT := Stp.refl [2, 3, 4, 5, 6, 7, 8, 9] w₀ (col1 C)
  replace hF := hF.col1
  replace hl : RV w₀ (Mc (col1 C)) l vl := by rw [Mc_col1]; exact hl
  refine calls_start (c := F15.c0) (N := 81) [vl] Try.func15 (by kernel_rfl) (by kernel_rfl) (by kernel_rfl) ?_
  show Run _ _ _ _ [(0, vl)] _ _
  refine run_seq (x := F15.c1) (y := F15.c2) (by kernel_rfl) ?_
  refine run_plain (id := 0) (ops := F15.o0) [(0, true)] (by kernel_rfl) (by kernel_rfl) ?_
  refine yS (by kernel_rfl : opAt F15.o0 0 = some (some 2, .assign (.const (.int .i64 0)), none)) rfl rfl (fun w' hS => val_assign rfl) ?_
  refine Sch.nil ?_
  refine run_seq (x := F15.c3) (y := F15.c10) (by kernel_rfl) ?_
  refine run_seq (x := F15.c4) (y := F15.c5) (by kernel_rfl) ?_
  refine run_plain (id := 1) (ops := F15.o1) [(0, true), (1, true), (2, true)] (by kernel_rfl) (by kernel_rfl) ?_
  refine yS (by kernel_rfl : opAt F15.o1 0 = some (some 5, .move (.tmp 0), none)) rfl rfl (fun w' hS => val_move rfl) ?_
  refine yS (by kernel_rfl : opAt F15.o1 1 = some (some 6, .call { callee := .builtin .len, args := #[(.tmp 5)], argTypes := #[23] }, none)) rfl rfl (fun w' hS => hl.lenV rfl Try.underlying23 w' ) ?_
  refine yS (by kernel_rfl : opAt F15.o1 2 = some (some 7, .binOp .gtr 3 (.tmp 6) (.const (.int .i64 4096)) 3, none)) rfl rfl (fun w' hS => val_gtr rfl rfl) ?_
  refine Sch.nil ?_
  refine run_if (x := F15.c6) (y := F15.c9) (o := .tmp 7) (by kernel_rfl) rfl (fun h7 => ?_) (fun h7 => ?_)
  · skip
    refine run_seq (x := F15.c7) (y := F15.c8) (by kernel_rfl) ?_
    refine run_plain (id := 2) (ops := F15.o2) [(0, true)] (by kernel_rfl) (by kernel_rfl) ?_
    refine yS (by kernel_rfl : opAt F15.o2 0 = some (some 2, .assign (.const (.int .i64 1)), none)) rfl rfl (fun w' hS => val_assign rfl) ?_
    refine Sch.nil ?_
    refine run_ret1 (by kernel_rfl) Try.func15 Try.results15 rfl ?_
    exact ⟨by rw [checkS_lim (by omega)], hT.out1 (by decide)⟩
  · skip
    have hlim : l.length ≤ 4096 := by omega
    refine run_skip (by kernel_rfl) ?_
    refine run_seq (x := F15.c11) (y := F15.c49) (by kernel_rfl) ?_
    refine run_seq (x := F15.c12) (y := F15.c13) (by kernel_rfl) ?_
    refine run_plain (id := 3) (ops := F15.o3) [(0, true)] (by kernel_rfl) (by kernel_rfl) ?_
    refine yS (by kernel_rfl : opAt F15.o3 0 = some (some 3, .assign (.const (.int .i64 0)), none)) rfl rfl (fun w' hS => val_assign rfl) ?_
    refine Sch.nil ?_
    refine run_block (x := F15.c14) (id := 0) (by kernel_rfl) ?_
    
    refine run_loop (ι := Nat × (Nat → Nat)) (I := fun x w => x.1 ≤ l.length ∧ (∀ k, k < x.1 → errAt l k = 0) ∧ Lim w x.2 ∧ Stp [2, 3, 4, 5, 6, 7, 8, 9] w₀ (col1 C) w x.2 ∧ RV w (Mc x.2) l vl) (e := fun x => [(0, vl), (3, .int .i64 x.1)]) (m := fun x => l.length - x.1) (x₀ := (0, col1 C)) (body := F15.c15) (by kernel_rfl) (sub_cons 0 rfl rfl (sub_cons 3 rfl rfl (sub_nil _))) ?_ ?_
    · exact ⟨Nat.zero_le _, fun k hk => by simp at hk, hF, hT, hl⟩
    intro ⟨i, C1⟩ w1 hI next
    obtain ⟨hi, h0, hF, hT, hl⟩ := hI
    try simp only at hi h0 hF hT hl
    have next1 := next
    clear next
    show Run _ _ _ _ [(0, vl), (3, .int .i64 i)] _ _
    refine run_seq (x := F15.c16) (y := F15.c21) (by kernel_rfl) ?_
    refine run_seq (x := F15.c17) (y := F15.c18) (by kernel_rfl) ?_
    refine run_plain (id := 4) (ops := F15.o4) [(0, true), (1, true), (2, true), (3, true)] (by kernel_rfl) (by kernel_rfl) ?_
    refine yS (by kernel_rfl : opAt F15.o4 0 = some (some 8, .move (.tmp 3), none)) rfl rfl (fun w' hS => val_move rfl) ?_
    refine yS (by kernel_rfl : opAt F15.o4 1 = some (some 9, .move (.tmp 0), none)) rfl rfl (fun w' hS => val_move rfl) ?_
    refine yS (by kernel_rfl : opAt F15.o4 2 = some (some 10, .call { callee := .builtin .len, args := #[(.tmp 9)], argTypes := #[23] }, none)) rfl rfl (fun w' hS => hl.lenV rfl Try.underlying23 w' ) ?_
    refine yS (by kernel_rfl : opAt F15.o4 3 = some (some 11, .binOp .lss 3 (.tmp 8) (.tmp 10) 3, none)) rfl rfl (fun w' hS => val_lss rfl rfl) ?_
    refine Sch.nil ?_
    refine run_if (x := F15.c19) (y := F15.c20) (o := .tmp 11) (by kernel_rfl) rfl (fun h11 => ?_) (fun h11 => ?_)
    · skip
      have hil : i < l.length := by omega
      have hE := errAt_val hil
      refine run_skip (by kernel_rfl) ?_
      refine run_seq (x := F15.c22) (y := F15.c48) (by kernel_rfl) ?_
      refine run_block (x := F15.c23) (id := 1) (by kernel_rfl) ?_
      refine run_seq (x := F15.c24) (y := F15.c25) (by kernel_rfl) ?_
      refine run_plain (id := 6) (ops := F15.o6) [(0, true), (1, true), (2, true), (3, false), (4, false), (5, false)] (by kernel_rfl) (by kernel_rfl) ?_
      refine yS (by kernel_rfl : opAt F15.o6 0 = some (some 14, .move (.tmp 0), none)) rfl rfl (fun w' hS => val_move rfl) ?_
      refine yS (by kernel_rfl : opAt F15.o6 1 = some (some 15, .move (.tmp 3), none)) rfl rfl (fun w' hS => val_move rfl) ?_
      refine iS (e := 50) (by kernel_rfl : opAt F15.o6 2 = some (some 16, .indexAddr 23 (.tmp 14) (.tmp 15), none)) rfl rfl hl rfl (by kernel_rfl) rfl (by omega) (by omega) ?_
      intro b16 o16 h16
      try simp only [Int.toNat_natCast] at h16
      refine lNA (by kernel_rfl : opAt F15.o6 3 = some (some 17, .load 50 (.tmp 16), none)) rfl rfl trivial h16 (by kernel_rfl) (by kernel_rfl) rfl rfl ?_
      intro v17 g17
      obtain rfl := rv_bond.1 g17
      refine aS (by kernel_rfl : opAt F15.o6 4 = some (some 4, .alloc 50, none)) rfl rfl (a_alloc (cs := [.int .i64 0, .int .i64 0, .int .i64 0, .int .i64 0, .int .i64 0]) hF 4 (by kernel_rfl)) ?_
      rintro _ w2 ⟨Cw2, bw2, rfl, hs, hx, hF⟩
      refine ⟨trivial, ?_⟩
      replace hT := hT.trans hs (by simp)
      replace hl := hl.st hs (by first | decide | (simp <;> omega))
      replace h16 := h16.st hs (by first | decide | (simp <;> omega))
      refine aN (by kernel_rfl : opAt F15.o6 5 = some (none, .store 50 (.tmp 4) (.tmp 17), none)) rfl (a_storeAll (vs := encB (l[i]'hil)) (n := 5) rfl rfl (by kernel_rfl) rfl rfl (by intro u hu; simp only [encB, List.mem_cons, List.not_mem_nil, or_false] at hu; rcases hu with rfl | rfl | rfl | rfl | rfl <;> rfl) hx rfl) ?_
      rintro _ w3 ⟨rfl, hs, hx⟩
      refine ⟨trivial, ?_⟩
      replace hF := hF.st hs
      replace hT := hT.trans hs (by simp)
      replace hl := hl.st hs (by first | decide | (simp <;> omega))
      replace h16 := h16.st hs (by first | decide | (simp <;> omega))
      refine Sch.nil ?_
      refine run_seq (x := F15.c26) (y := F15.c33) (by kernel_rfl) ?_
      refine run_seq (x := F15.c27) (y := F15.c28) (by kernel_rfl) ?_
      refine run_cut 36 (!cplOK (l[i]'hil).A (l[i]'hil).B) (Cw2) ?_ ?_
      · intro hcut
        by_cases hA : refOK (l[i]'hil).A = true
        · skip
          by_cases hB : refOK (l[i]'hil).B = true
          · skip
            by_cases hC : (l[i]'hil).B.a ≤ (l[i]'hil).A.a
            · skip
              refine run_plain (id := 7) (ops := F15.o7) [(0, true), (1, false), (2, false), (3, true), (4, true), (5, true), (6, false), (7, false), (8, true), (9, true), (10, true), (11, true), (12, true), (13, false), (14, true), (15, true), (16, false), (17, true), (18, true)] (by kernel_rfl) (by kernel_rfl) ?_
              have hcs := Stp.reflF hF
              refine yS (by kernel_rfl : opAt F15.o7 0 = some (some 18, .fieldAddr 50 (.tmp 4) 0, none)) rfl rfl (fun w' hS => val_fieldAddr (off := 0) (by kernel_rfl) rfl) ?_
              refine nS (by kernel_rfl : opAt F15.o7 1 = some (some 19, .load 25 (.tmp 18), none)) rfl rfl trivial (val_loadOwnAgg (n := 2) (vs := encR (l[i]'hil).A) hx.at_ (by kernel_rfl) (by kernel_rfl) rfl rfl rfl) ?_
              refine cS (by kernel_rfl : opAt F15.o7 2 = some (some 20, .call { callee := .value (.func 33), args := #[(.tmp 19)], argTypes := #[25] }, none)) rfl rfl (ent Try.call33 rfl) (ref27_ok (x := (l[i]'hil).A) hF) ?_
              rintro vw4 w4 ⟨rfl, hs⟩
              rw [hA]
              refine ⟨trivial, ?_⟩
              replace hF := hF.st hs
              replace hT := hT.trans hs (by simp)
              replace hl := hl.st hs (by first | decide | (simp <;> omega))
              replace h16 := h16.st hs (by first | decide | (simp <;> omega))
              replace hx := hx.st hs (by first | decide | (simp <;> omega))
              replace hcs := hcs.trans hs (by simp)
              refine yS (by kernel_rfl : opAt F15.o7 3 = some (some 21, .unOp .not 4 (.tmp 20), none)) rfl rfl (fun w' hS => val_not rfl) ?_
              refine yS (by kernel_rfl : opAt F15.o7 4 = some (some 22, .move (.tmp 21), none)) rfl rfl (fun w' hS => val_move rfl) ?_
              refine yS (by kernel_rfl : opAt F15.o7 5 = some (some 23, .fieldAddr 50 (.tmp 4) 1, (some (4, false)))) rfl rfl (fun w' hS => val_fieldAddr (off := 2) (by kernel_rfl) rfl) ?_
              refine nS (by kernel_rfl : opAt F15.o7 6 = some (some 24, .load 25 (.tmp 23), (some (4, false)))) rfl rfl trivial (val_loadOwnAgg (n := 2) (vs := encR (l[i]'hil).B) hx.at_ (by kernel_rfl) (by kernel_rfl) rfl rfl rfl) ?_
              refine cS (by kernel_rfl : opAt F15.o7 7 = some (some 25, .call { callee := .value (.func 33), args := #[(.tmp 24)], argTypes := #[25] }, (some (4, false)))) rfl rfl (ent Try.call33 rfl) (ref27_ok (x := (l[i]'hil).B) hF) ?_
              rintro vw5 w5 ⟨rfl, hs⟩
              rw [hB]
              refine ⟨trivial, ?_⟩
              replace hF := hF.st hs
              replace hT := hT.trans hs (by simp)
              replace hl := hl.st hs (by first | decide | (simp <;> omega))
              replace h16 := h16.st hs (by first | decide | (simp <;> omega))
              replace hx := hx.st hs (by first | decide | (simp <;> omega))
              replace hcs := hcs.trans hs (by simp)
              refine yS (by kernel_rfl : opAt F15.o7 8 = some (some 26, .unOp .not 4 (.tmp 25), (some (4, false)))) rfl rfl (fun w' hS => val_not rfl) ?_
              refine yS (by kernel_rfl : opAt F15.o7 9 = some (some 27, .pick (.tmp 22) (.const (.bool true)) (.tmp 26), none)) rfl rfl (fun w' hS => val_pick_f rfl rfl) ?_
              refine yS (by kernel_rfl : opAt F15.o7 10 = some (some 28, .move (.tmp 27), none)) rfl rfl (fun w' hS => val_move rfl) ?_
              refine yS (by kernel_rfl : opAt F15.o7 11 = some (some 29, .fieldAddr 50 (.tmp 4) 0, (some (10, false)))) rfl rfl (fun w' hS => val_fieldAddr (off := 0) (by kernel_rfl) rfl) ?_
              refine yS (by kernel_rfl : opAt F15.o7 12 = some (some 30, .fieldAddr 25 (.tmp 29) 0, (some (10, false)))) rfl rfl (fun w' hS => val_fieldAddr (off := 0) (by kernel_rfl) rfl) ?_
              refine nS (by kernel_rfl : opAt F15.o7 13 = some (some 31, .load 3 (.tmp 30), (some (10, false)))) rfl rfl trivial (val_loadOwn hx.at_ (by kernel_rfl) rfl rfl) ?_
              refine yS (by kernel_rfl : opAt F15.o7 14 = some (some 32, .fieldAddr 50 (.tmp 4) 1, (some (10, false)))) rfl rfl (fun w' hS => val_fieldAddr (off := 2) (by kernel_rfl) rfl) ?_
              refine yS (by kernel_rfl : opAt F15.o7 15 = some (some 33, .fieldAddr 25 (.tmp 32) 0, (some (10, false)))) rfl rfl (fun w' hS => val_fieldAddr (off := 0) (by kernel_rfl) rfl) ?_
              refine nS (by kernel_rfl : opAt F15.o7 16 = some (some 34, .load 3 (.tmp 33), (some (10, false)))) rfl rfl trivial (val_loadOwn hx.at_ (by kernel_rfl) rfl rfl) ?_
              refine yS (by kernel_rfl : opAt F15.o7 17 = some (some 35, .binOp .geq 3 (.tmp 31) (.tmp 34) 3, (some (10, false)))) rfl rfl (fun w' hS => val_T (val_geq rfl rfl) hC) ?_
              refine yS (by kernel_rfl : opAt F15.o7 18 = some (some 36, .pick (.tmp 28) (.const (.bool true)) (.tmp 35), none)) rfl rfl (fun w' hS => val_pick_f rfl rfl) ?_
              exact Sch.nil (hcut _ _ _ hcs rfl (by unfold cplOK; rw [hA, hB, decide_eq_false (by omega)]; rfl) (sub_skip rfl (sub_skip rfl (sub_skip rfl (sub_skip rfl (sub_skip rfl (sub_skip rfl (sub_skip rfl (sub_skip rfl (sub_skip rfl (sub_skip rfl (sub_skip rfl (sub_skip rfl (sub_skip rfl (sub_skip rfl (sub_skip rfl (sub_skip rfl (sub_skip rfl (sub_skip rfl (sub_skip rfl (Sub.refl _)))))))))))))))))))))
            · skip
              refine run_plain (id := 7) (ops := F15.o7) [(0, true), (1, false), (2, false), (3, true), (4, true), (5, true), (6, false), (7, false), (8, true), (9, true), (10, true), (11, true), (12, true), (13, false), (14, true), (15, true), (16, false), (17, true), (18, true)] (by kernel_rfl) (by kernel_rfl) ?_
              have hcs := Stp.reflF hF
              refine yS (by kernel_rfl : opAt F15.o7 0 = some (some 18, .fieldAddr 50 (.tmp 4) 0, none)) rfl rfl (fun w' hS => val_fieldAddr (off := 0) (by kernel_rfl) rfl) ?_
              refine nS (by kernel_rfl : opAt F15.o7 1 = some (some 19, .load 25 (.tmp 18), none)) rfl rfl trivial (val_loadOwnAgg (n := 2) (vs := encR (l[i]'hil).A) hx.at_ (by kernel_rfl) (by kernel_rfl) rfl rfl rfl) ?_
              refine cS (by kernel_rfl : opAt F15.o7 2 = some (some 20, .call { callee := .value (.func 33), args := #[(.tmp 19)], argTypes := #[25] }, none)) rfl rfl (ent Try.call33 rfl) (ref27_ok (x := (l[i]'hil).A) hF) ?_
              rintro vw6 w6 ⟨rfl, hs⟩
              rw [hA]
              refine ⟨trivial, ?_⟩
              replace hF := hF.st hs
              replace hT := hT.trans hs (by simp)
              replace hl := hl.st hs (by first | decide | (simp <;> omega))
              replace h16 := h16.st hs (by first | decide | (simp <;> omega))
              replace hx := hx.st hs (by first | decide | (simp <;> omega))
              replace hcs := hcs.trans hs (by simp)
              refine yS (by kernel_rfl : opAt F15.o7 3 = some (some 21, .unOp .not 4 (.tmp 20), none)) rfl rfl (fun w' hS => val_not rfl) ?_
              refine yS (by kernel_rfl : opAt F15.o7 4 = some (some 22, .move (.tmp 21), none)) rfl rfl (fun w' hS => val_move rfl) ?_
              refine yS (by kernel_rfl : opAt F15.o7 5 = some (some 23, .fieldAddr 50 (.tmp 4) 1, (some (4, false)))) rfl rfl (fun w' hS => val_fieldAddr (off := 2) (by kernel_rfl) rfl) ?_
              refine nS (by kernel_rfl : opAt F15.o7 6 = some (some 24, .load 25 (.tmp 23), (some (4, false)))) rfl rfl trivial (val_loadOwnAgg (n := 2) (vs := encR (l[i]'hil).B) hx.at_ (by kernel_rfl) (by kernel_rfl) rfl rfl rfl) ?_
              refine cS (by kernel_rfl : opAt F15.o7 7 = some (some 25, .call { callee := .value (.func 33), args := #[(.tmp 24)], argTypes := #[25] }, (some (4, false)))) rfl rfl (ent Try.call33 rfl) (ref27_ok (x := (l[i]'hil).B) hF) ?_
              rintro vw7 w7 ⟨rfl, hs⟩
              rw [hB]
              refine ⟨trivial, ?_⟩
              replace hF := hF.st hs
              replace hT := hT.trans hs (by simp)
              replace hl := hl.st hs (by first | decide | (simp <;> omega))
              replace h16 := h16.st hs (by first | decide | (simp <;> omega))
              replace hx := hx.st hs (by first | decide | (simp <;> omega))
              replace hcs := hcs.trans hs (by simp)
              refine yS (by kernel_rfl : opAt F15.o7 8 = some (some 26, .unOp .not 4 (.tmp 25), (some (4, false)))) rfl rfl (fun w' hS => val_not rfl) ?_
              refine yS (by kernel_rfl : opAt F15.o7 9 = some (some 27, .pick (.tmp 22) (.const (.bool true)) (.tmp 26), none)) rfl rfl (fun w' hS => val_pick_f rfl rfl) ?_
              refine yS (by kernel_rfl : opAt F15.o7 10 = some (some 28, .move (.tmp 27), none)) rfl rfl (fun w' hS => val_move rfl) ?_
              refine yS (by kernel_rfl : opAt F15.o7 11 = some (some 29, .fieldAddr 50 (.tmp 4) 0, (some (10, false)))) rfl rfl (fun w' hS => val_fieldAddr (off := 0) (by kernel_rfl) rfl) ?_
              refine yS (by kernel_rfl : opAt F15.o7 12 = some (some 30, .fieldAddr 25 (.tmp 29) 0, (some (10, false)))) rfl rfl (fun w' hS => val_fieldAddr (off := 0) (by kernel_rfl) rfl) ?_
              refine nS (by kernel_rfl : opAt F15.o7 13 = some (some 31, .load 3 (.tmp 30), (some (10, false)))) rfl rfl trivial (val_loadOwn hx.at_ (by kernel_rfl) rfl rfl) ?_
              refine yS (by kernel_rfl : opAt F15.o7 14 = some (some 32, .fieldAddr 50 (.tmp 4) 1, (some (10, false)))) rfl rfl (fun w' hS => val_fieldAddr (off := 2) (by kernel_rfl) rfl) ?_
              refine yS (by kernel_rfl : opAt F15.o7 15 = some (some 33, .fieldAddr 25 (.tmp 32) 0, (some (10, false)))) rfl rfl (fun w' hS => val_fieldAddr (off := 0) (by kernel_rfl) rfl) ?_
              refine nS (by kernel_rfl : opAt F15.o7 16 = some (some 34, .load 3 (.tmp 33), (some (10, false)))) rfl rfl trivial (val_loadOwn hx.at_ (by kernel_rfl) rfl rfl) ?_
              refine yS (by kernel_rfl : opAt F15.o7 17 = some (some 35, .binOp .geq 3 (.tmp 31) (.tmp 34) 3, (some (10, false)))) rfl rfl (fun w' hS => val_F (val_geq rfl rfl) hC) ?_
              refine yS (by kernel_rfl : opAt F15.o7 18 = some (some 36, .pick (.tmp 28) (.const (.bool true)) (.tmp 35), none)) rfl rfl (fun w' hS => val_pick_f rfl rfl) ?_
              exact Sch.nil (hcut _ _ _ hcs rfl (by unfold cplOK; rw [hA, hB, decide_eq_true (by omega)]; rfl) (sub_skip rfl (sub_skip rfl (sub_skip rfl (sub_skip rfl (sub_skip rfl (sub_skip rfl (sub_skip rfl (sub_skip rfl (sub_skip rfl (sub_skip rfl (sub_skip rfl (sub_skip rfl (sub_skip rfl (sub_skip rfl (sub_skip rfl (sub_skip rfl (sub_skip rfl (sub_skip rfl (sub_skip rfl (Sub.refl _)))))))))))))))))))))
          · skip
            refine run_plain (id := 7) (ops := F15.o7) [(0, true), (1, false), (2, false), (3, true), (4, true), (5, true), (6, false), (7, false), (8, true), (9, true), (10, true), (11, true), (12, true), (13, false), (14, true), (15, true), (16, false), (17, true), (18, true)] (by kernel_rfl) (by kernel_rfl) ?_
            have hcs := Stp.reflF hF
            refine yS (by kernel_rfl : opAt F15.o7 0 = some (some 18, .fieldAddr 50 (.tmp 4) 0, none)) rfl rfl (fun w' hS => val_fieldAddr (off := 0) (by kernel_rfl) rfl) ?_
            refine nS (by kernel_rfl : opAt F15.o7 1 = some (some 19, .load 25 (.tmp 18), none)) rfl rfl trivial (val_loadOwnAgg (n := 2) (vs := encR (l[i]'hil).A) hx.at_ (by kernel_rfl) (by kernel_rfl) rfl rfl rfl) ?_
            refine cS (by kernel_rfl : opAt F15.o7 2 = some (some 20, .call { callee := .value (.func 33), args := #[(.tmp 19)], argTypes := #[25] }, none)) rfl rfl (ent Try.call33 rfl) (ref27_ok (x := (l[i]'hil).A) hF) ?_
            rintro vw8 w8 ⟨rfl, hs⟩
            rw [hA]
            refine ⟨trivial, ?_⟩
            replace hF := hF.st hs
            replace hT := hT.trans hs (by simp)
            replace hl := hl.st hs (by first | decide | (simp <;> omega))
            replace h16 := h16.st hs (by first | decide | (simp <;> omega))
            replace hx := hx.st hs (by first | decide | (simp <;> omega))
            replace hcs := hcs.trans hs (by simp)
            refine yS (by kernel_rfl : opAt F15.o7 3 = some (some 21, .unOp .not 4 (.tmp 20), none)) rfl rfl (fun w' hS => val_not rfl) ?_
            refine yS (by kernel_rfl : opAt F15.o7 4 = some (some 22, .move (.tmp 21), none)) rfl rfl (fun w' hS => val_move rfl) ?_
            refine yS (by kernel_rfl : opAt F15.o7 5 = some (some 23, .fieldAddr 50 (.tmp 4) 1, (some (4, false)))) rfl rfl (fun w' hS => val_fieldAddr (off := 2) (by kernel_rfl) rfl) ?_
            refine nS (by kernel_rfl : opAt F15.o7 6 = some (some 24, .load 25 (.tmp 23), (some (4, false)))) rfl rfl trivial (val_loadOwnAgg (n := 2) (vs := encR (l[i]'hil).B) hx.at_ (by kernel_rfl) (by kernel_rfl) rfl rfl rfl) ?_
            refine cS (by kernel_rfl : opAt F15.o7 7 = some (some 25, .call { callee := .value (.func 33), args := #[(.tmp 24)], argTypes := #[25] }, (some (4, false)))) rfl rfl (ent Try.call33 rfl) (ref27_ok (x := (l[i]'hil).B) hF) ?_
            rintro vw9 w9 ⟨rfl, hs⟩
            rw [Bool.eq_false_iff.2 hB]
            refine ⟨trivial, ?_⟩
            replace hF := hF.st hs
            replace hT := hT.trans hs (by simp)
            replace hl := hl.st hs (by first | decide | (simp <;> omega))
            replace h16 := h16.st hs (by first | decide | (simp <;> omega))
            replace hx := hx.st hs (by first | decide | (simp <;> omega))
            replace hcs := hcs.trans hs (by simp)
            refine yS (by kernel_rfl : opAt F15.o7 8 = some (some 26, .unOp .not 4 (.tmp 25), (some (4, false)))) rfl rfl (fun w' hS => val_not rfl) ?_
            refine yS (by kernel_rfl : opAt F15.o7 9 = some (some 27, .pick (.tmp 22) (.const (.bool true)) (.tmp 26), none)) rfl rfl (fun w' hS => val_pick_f rfl rfl) ?_
            refine yS (by kernel_rfl : opAt F15.o7 10 = some (some 28, .move (.tmp 27), none)) rfl rfl (fun w' hS => val_move rfl) ?_
            refine pS (by kernel_rfl : opAt F15.o7 11 = some (some 29, .fieldAddr 50 (.tmp 4) 0, (some (10, false)))) rfl rfl ?_
            refine pS (by kernel_rfl : opAt F15.o7 12 = some (some 30, .fieldAddr 25 (.tmp 29) 0, (some (10, false)))) rfl rfl ?_
            refine pW (by kernel_rfl : opAt F15.o7 13 = some (some 31, .load 3 (.tmp 30), (some (10, false)))) rfl rfl trivial ?_
            refine pS (by kernel_rfl : opAt F15.o7 14 = some (some 32, .fieldAddr 50 (.tmp 4) 1, (some (10, false)))) rfl rfl ?_
            refine pS (by kernel_rfl : opAt F15.o7 15 = some (some 33, .fieldAddr 25 (.tmp 32) 0, (some (10, false)))) rfl rfl ?_
            refine pW (by kernel_rfl : opAt F15.o7 16 = some (some 34, .load 3 (.tmp 33), (some (10, false)))) rfl rfl trivial ?_
            refine pS (by kernel_rfl : opAt F15.o7 17 = some (some 35, .binOp .geq 3 (.tmp 31) (.tmp 34) 3, (some (10, false)))) rfl rfl ?_
            refine yS (by kernel_rfl : opAt F15.o7 18 = some (some 36, .pick (.tmp 28) (.const (.bool true)) (.tmp 35), none)) rfl rfl (fun w' hS => val_pick_t rfl rfl) ?_
            exact Sch.nil (hcut _ _ _ hcs rfl (by unfold cplOK; rw [hA, Bool.eq_false_iff.2 hB]; rfl) (sub_skip rfl (sub_skip rfl (sub_skip rfl (sub_skip rfl (sub_skip rfl (sub_skip rfl (sub_skip rfl (sub_skip rfl (sub_skip rfl (sub_skip rfl (sub_skip rfl (sub_skip rfl (sub_skip rfl (sub_skip rfl (sub_skip rfl (sub_skip rfl (sub_skip rfl (sub_skip rfl (sub_skip rfl (Sub.refl _)))))))))))))))))))))
        · skip
          refine run_plain (id := 7) (ops := F15.o7) [(0, true), (1, false), (2, false), (3, true), (4, true), (5, true), (6, false), (7, false), (8, true), (9, true), (10, true), (11, true), (12, true), (13, false), (14, true), (15, true), (16, false), (17, true), (18, true)] (by kernel_rfl) (by kernel_rfl) ?_
          have hcs := Stp.reflF hF
          refine yS (by kernel_rfl : opAt F15.o7 0 = some (some 18, .fieldAddr 50 (.tmp 4) 0, none)) rfl rfl (fun w' hS => val_fieldAddr (off := 0) (by kernel_rfl) rfl) ?_
          refine nS (by kernel_rfl : opAt F15.o7 1 = some (some 19, .load 25 (.tmp 18), none)) rfl rfl trivial (val_loadOwnAgg (n := 2) (vs := encR (l[i]'hil).A) hx.at_ (by kernel_rfl) (by kernel_rfl) rfl rfl rfl) ?_
          refine cS (by kernel_rfl : opAt F15.o7 2 = some (some 20, .call { callee := .value (.func 33), args := #[(.tmp 19)], argTypes := #[25] }, none)) rfl rfl (ent Try.call33 rfl) (ref27_ok (x := (l[i]'hil).A) hF) ?_
          rintro vw10 w10 ⟨rfl, hs⟩
          rw [Bool.eq_false_iff.2 hA]
          refine ⟨trivial, ?_⟩
          replace hF := hF.st hs
          replace hT := hT.trans hs (by simp)
          replace hl := hl.st hs (by first | decide | (simp <;> omega))
          replace h16 := h16.st hs (by first | decide | (simp <;> omega))
          replace hx := hx.st hs (by first | decide | (simp <;> omega))
          replace hcs := hcs.trans hs (by simp)
          refine yS (by kernel_rfl : opAt F15.o7 3 = some (some 21, .unOp .not 4 (.tmp 20), none)) rfl rfl (fun w' hS => val_not rfl) ?_
          refine yS (by kernel_rfl : opAt F15.o7 4 = some (some 22, .move (.tmp 21), none)) rfl rfl (fun w' hS => val_move rfl) ?_
          refine pS (by kernel_rfl : opAt F15.o7 5 = some (some 23, .fieldAddr 50 (.tmp 4) 1, (some (4, false)))) rfl rfl ?_
          refine pW (by kernel_rfl : opAt F15.o7 6 = some (some 24, .load 25 (.tmp 23), (some (4, false)))) rfl rfl trivial ?_
          refine pW (by kernel_rfl : opAt F15.o7 7 = some (some 25, .call { callee := .value (.func 33), args := #[(.tmp 24)], argTypes := #[25] }, (some (4, false)))) rfl rfl trivial ?_
          refine pS (by kernel_rfl : opAt F15.o7 8 = some (some 26, .unOp .not 4 (.tmp 25), (some (4, false)))) rfl rfl ?_
          refine yS (by kernel_rfl : opAt F15.o7 9 = some (some 27, .pick (.tmp 22) (.const (.bool true)) (.tmp 26), none)) rfl rfl (fun w' hS => val_pick_t rfl rfl) ?_
          refine yS (by kernel_rfl : opAt F15.o7 10 = some (some 28, .move (.tmp 27), none)) rfl rfl (fun w' hS => val_move rfl) ?_
          refine pS (by kernel_rfl : opAt F15.o7 11 = some (some 29, .fieldAddr 50 (.tmp 4) 0, (some (10, false)))) rfl rfl ?_
          refine pS (by kernel_rfl : opAt F15.o7 12 = some (some 30, .fieldAddr 25 (.tmp 29) 0, (some (10, false)))) rfl rfl ?_
          refine pW (by kernel_rfl : opAt F15.o7 13 = some (some 31, .load 3 (.tmp 30), (some (10, false)))) rfl rfl trivial ?_
          refine pS (by kernel_rfl : opAt F15.o7 14 = some (some 32, .fieldAddr 50 (.tmp 4) 1, (some (10, false)))) rfl rfl ?_
          refine pS (by kernel_rfl : opAt F15.o7 15 = some (some 33, .fieldAddr 25 (.tmp 32) 0, (some (10, false)))) rfl rfl ?_
          refine pW (by kernel_rfl : opAt F15.o7 16 = some (some 34, .load 3 (.tmp 33), (some (10, false)))) rfl rfl trivial ?_
          refine pS (by kernel_rfl : opAt F15.o7 17 = some (some 35, .binOp .geq 3 (.tmp 31) (.tmp 34) 3, (some (10, false)))) rfl rfl ?_
          refine yS (by kernel_rfl : opAt F15.o7 18 = some (some 36, .pick (.tmp 28) (.const (.bool true)) (.tmp 35), none)) rfl rfl (fun w' hS => val_pick_t rfl rfl) ?_
          exact Sch.nil (hcut _ _ _ hcs rfl (by unfold cplOK; rw [Bool.eq_false_iff.2 hA]; rfl) (sub_skip rfl (sub_skip rfl (sub_skip rfl (sub_skip rfl (sub_skip rfl (sub_skip rfl (sub_skip rfl (sub_skip rfl (sub_skip rfl (sub_skip rfl (sub_skip rfl (sub_skip rfl (sub_skip rfl (sub_skip rfl (sub_skip rfl (sub_skip rfl (sub_skip rfl (sub_skip rfl (sub_skip rfl (Sub.refl _)))))))))))))))))))))
      intro w11 hs
      replace hF := hF.st hs
      replace hT := hT.trans hs (by simp)
      replace hl := hl.st hs (by first | decide | (simp <;> omega))
      replace h16 := h16.st hs (by first | decide | (simp <;> omega))
      replace hx := hx.st hs (by first | decide | (simp <;> omega))
      refine run_cond (x := F15.c29) (y := F15.c32) (o := .tmp 36) (by kernel_rfl) rfl (fun h36 => ?_) (fun h36 => ?_)
      · skip
        refine run_seq (x := F15.c30) (y := F15.c31) (by kernel_rfl) ?_
        refine run_plain (id := 8) (ops := F15.o8) [(0, true)] (by kernel_rfl) (by kernel_rfl) ?_
        refine yS (by kernel_rfl : opAt F15.o8 0 = some (some 2, .assign (.const (.int .i64 41)), none)) rfl rfl (fun w' hS => val_assign rfl) ?_
        refine Sch.nil ?_
        refine run_ret1 (by kernel_rfl) Try.func15 Try.results15 rfl ?_
        rw [if_pos (by simpa using h36)] at hE
        exact ⟨by rw [checkS_at hlim hil h0 (by rw [hE]; decide), hE], hT.out1 (by decide)⟩
      · skip
        refine run_skip (by kernel_rfl) ?_
        refine run_seq (x := F15.c34) (y := F15.c41) (by kernel_rfl) ?_
        refine run_seq (x := F15.c35) (y := F15.c36) (by kernel_rfl) ?_
        refine run_cut 44 (decide ((l[i]'hil).w < 1 ∨ 1048576 < (l[i]'hil).w)) (Cw2) ?_ ?_
        · intro hcut
          by_cases hA : (l[i]'hil).w < 1
          · skip
            refine run_plain (id := 9) (ops := F15.o9) [(0, true), (1, false), (2, true), (3, true), (4, true), (5, false), (6, true), (7, true)] (by kernel_rfl) (by kernel_rfl) ?_
            refine yS (by kernel_rfl : opAt F15.o9 0 = some (some 37, .fieldAddr 50 (.tmp 4) 2, none)) rfl rfl (fun w' hS => val_fieldAddr (off := 4) (by kernel_rfl) rfl) ?_
            refine nS (by kernel_rfl : opAt F15.o9 1 = some (some 38, .load 3 (.tmp 37), none)) rfl rfl trivial (val_loadOwn hx.at_ (by kernel_rfl) rfl rfl) ?_
            refine yS (by kernel_rfl : opAt F15.o9 2 = some (some 39, .binOp .lss 3 (.tmp 38) (.const (.int .i64 1)) 3, none)) rfl rfl (fun w' hS => val_T (val_lss rfl rfl) hA) ?_
            refine yS (by kernel_rfl : opAt F15.o9 3 = some (some 40, .move (.tmp 39), none)) rfl rfl (fun w' hS => val_move rfl) ?_
            refine pS (by kernel_rfl : opAt F15.o9 4 = some (some 41, .fieldAddr 50 (.tmp 4) 2, (some (3, false)))) rfl rfl ?_
            refine pW (by kernel_rfl : opAt F15.o9 5 = some (some 42, .load 3 (.tmp 41), (some (3, false)))) rfl rfl trivial ?_
            refine pS (by kernel_rfl : opAt F15.o9 6 = some (some 43, .binOp .gtr 3 (.tmp 42) (.const (.int .i64 1048576)) 3, (some (3, false)))) rfl rfl ?_
            refine yS (by kernel_rfl : opAt F15.o9 7 = some (some 44, .pick (.tmp 40) (.const (.bool true)) (.tmp 43), none)) rfl rfl (fun w' hS => val_pick_t rfl rfl) ?_
            exact Sch.nil (hcut _ _ _ (Stp.refl _ _ _) rfl (by rw [decide_eq_true (Or.inl hA)]) (sub_skip rfl (sub_skip rfl (sub_skip rfl (sub_skip rfl (sub_skip rfl (sub_skip rfl (sub_skip rfl (sub_skip rfl (Sub.refl _))))))))))
          · skip
            refine run_plain (id := 9) (ops := F15.o9) [(0, true), (1, false), (2, true), (3, true), (4, true), (5, false), (6, true), (7, true)] (by kernel_rfl) (by kernel_rfl) ?_
            refine yS (by kernel_rfl : opAt F15.o9 0 = some (some 37, .fieldAddr 50 (.tmp 4) 2, none)) rfl rfl (fun w' hS => val_fieldAddr (off := 4) (by kernel_rfl) rfl) ?_
            refine nS (by kernel_rfl : opAt F15.o9 1 = some (some 38, .load 3 (.tmp 37), none)) rfl rfl trivial (val_loadOwn hx.at_ (by kernel_rfl) rfl rfl) ?_
            refine yS (by kernel_rfl : opAt F15.o9 2 = some (some 39, .binOp .lss 3 (.tmp 38) (.const (.int .i64 1)) 3, none)) rfl rfl (fun w' hS => val_F (val_lss rfl rfl) hA) ?_
            refine yS (by kernel_rfl : opAt F15.o9 3 = some (some 40, .move (.tmp 39), none)) rfl rfl (fun w' hS => val_move rfl) ?_
            refine yS (by kernel_rfl : opAt F15.o9 4 = some (some 41, .fieldAddr 50 (.tmp 4) 2, (some (3, false)))) rfl rfl (fun w' hS => val_fieldAddr (off := 4) (by kernel_rfl) rfl) ?_
            refine nS (by kernel_rfl : opAt F15.o9 5 = some (some 42, .load 3 (.tmp 41), (some (3, false)))) rfl rfl trivial (val_loadOwn hx.at_ (by kernel_rfl) rfl rfl) ?_
            refine yS (by kernel_rfl : opAt F15.o9 6 = some (some 43, .binOp .gtr 3 (.tmp 42) (.const (.int .i64 1048576)) 3, (some (3, false)))) rfl rfl (fun w' hS => val_gtr rfl rfl) ?_
            refine yS (by kernel_rfl : opAt F15.o9 7 = some (some 44, .pick (.tmp 40) (.const (.bool true)) (.tmp 43), none)) rfl rfl (fun w' hS => val_pick_f rfl rfl) ?_
            exact Sch.nil (hcut _ _ _ (Stp.refl _ _ _) rfl (by congr 1; apply decide_eq_decide.2; omega) (sub_skip rfl (sub_skip rfl (sub_skip rfl (sub_skip rfl (sub_skip rfl (sub_skip rfl (sub_skip rfl (sub_skip rfl (Sub.refl _))))))))))
        intro w12 hs
        replace hF := hF.st hs
        replace hT := hT.trans hs (by simp)
        replace hl := hl.st hs (by first | decide | (simp <;> omega))
        replace h16 := h16.st hs (by first | decide | (simp <;> omega))
        replace hx := hx.st hs (by first | decide | (simp <;> omega))
        refine run_if (x := F15.c37) (y := F15.c40) (o := .tmp 44) (by kernel_rfl) rfl (fun h44 => ?_) (fun h44 => ?_)
        · skip
          refine run_seq (x := F15.c38) (y := F15.c39) (by kernel_rfl) ?_
          refine run_plain (id := 10) (ops := F15.o10) [(0, true)] (by kernel_rfl) (by kernel_rfl) ?_
          refine yS (by kernel_rfl : opAt F15.o10 0 = some (some 2, .assign (.const (.int .i64 40)), none)) rfl rfl (fun w' hS => val_assign rfl) ?_
          refine Sch.nil ?_
          refine run_ret1 (by kernel_rfl) Try.func15 Try.results15 rfl ?_
          rw [if_neg (by simpa using h36), if_pos h44] at hE
          exact ⟨by rw [checkS_at hlim hil h0 (by rw [hE]; decide), hE], hT.out1 (by decide)⟩
        · skip
          refine run_skip (by kernel_rfl) ?_
          refine run_seq (x := F15.c42) (y := F15.c43) (by kernel_rfl) ?_
          refine run_cut 80 (decide (0 < i ∧ ¬ lt2 (l[i-1]'(by omega)) (l[i]'hil))) (Cw2) ?_ ?_
          · intro hcut
            by_cases hA : (0 : Int) < i
            · skip
              by_cases hB : ltP (l[((i : Int) - 1).toNat]'(by omega)).A (l[i]'hil).A
              · skip
                refine run_draw (id := 11) (ops := F15.o11) [] (Cw2) [(0, true), (1, true), (2, true), (3, true), (4, true), (5, true), (6, true), (7, true), (8, true), (9, true), (10, true), (11, false), (12, true), (13, true), (14, true), (15, true), (16, true), (17, true), (18, true), (19, true), (20, true), (21, true), (22, true), (23, true), (24, true), (25, true), (26, true), (27, true), (28, true), (29, true), (30, true), (31, false), (32, true), (33, true), (34, true), (35, true)] Try_mixed (by kernel_rfl) (by kernel_rfl) (by kernel_rfl) ?_
                intro w13 hs
                replace hF := hF.st hs
                replace hT := hT.trans hs (by simp)
                replace hl := hl.st hs (by first | decide | (simp <;> omega))
                replace h16 := h16.st hs (by first | decide | (simp <;> omega))
                replace hx := hx.st hs (by first | decide | (simp <;> omega))
                have hcs := hs
                have hR := Stp.refl [] w13 (Cw2)
                have hx0 := hx
                have hl_b := hl
                refine yS (by kernel_rfl : opAt F15.o11 0 = some (some 45, .move (.tmp 3), none)) rfl rfl (fun w' hS => val_move rfl) ?_
                refine yS (by kernel_rfl : opAt F15.o11 1 = some (some 46, .binOp .gtr 3 (.tmp 45) (.const (.int .i64 0)) 3, none)) rfl rfl (fun w' hS => val_T (val_gtr rfl rfl) hA) ?_
                refine yS (by kernel_rfl : opAt F15.o11 2 = some (some 47, .move (.tmp 46), none)) rfl rfl (fun w' hS => val_move rfl) ?_
                refine yS (by kernel_rfl : opAt F15.o11 3 = some (some 48, .move (.tmp 0), (some (2, true)))) rfl rfl (fun w' hS => val_move rfl) ?_
                refine yS (by kernel_rfl : opAt F15.o11 4 = some (some 49, .move (.tmp 3), (some (2, true)))) rfl rfl (fun w' hS => val_move rfl) ?_
                refine yS (by kernel_rfl : opAt F15.o11 5 = some (some 50, .binOp .sub 3 (.tmp 49) (.const (.int .i64 1)) 3, (some (2, true)))) rfl rfl (fun w' hS => val_subi rfl rfl (by omega) (by omega)) ?_
                refine iS (e := 50) (by kernel_rfl : opAt F15.o11 6 = some (some 51, .indexAddr 23 (.tmp 48) (.tmp 50), (some (2, true)))) rfl rfl hl_b rfl (by kernel_rfl) rfl (by omega) (by omega) ?_
                intro b51 o51 h51
                try simp only [Int.toNat_natCast] at h51
                have h52 := RA.bA h51
                refine yS (by kernel_rfl : opAt F15.o11 7 = some (some 52, .fieldAddr 50 (.tmp 51) 0, (some (2, true)))) rfl rfl (fun w' hS => val_fieldAddr (off := 0) (by kernel_rfl) rfl) ?_
                refine lSA (by kernel_rfl : opAt F15.o11 8 = some (some 53, .load 25 (.tmp 52), (some (2, true)))) rfl rfl (fun w' hS => h52.stay hS (by decide)) h52 (by kernel_rfl) (by kernel_rfl) rfl rfl ?_
                intro v53 g53
                have gb53 := g53
                replace g53 := g53.st hR (by first | decide | (simp <;> omega))
                obtain rfl := rv_couple.1 g53
                refine yS (by kernel_rfl : opAt F15.o11 9 = some (some 54, .fieldAddr 50 (.tmp 4) 0, (some (2, true)))) rfl rfl (fun w' hS => val_fieldAddr (off := 0) (by kernel_rfl) rfl) ?_
                refine yS (by kernel_rfl : opAt F15.o11 10 = some (some 55, .load 25 (.tmp 54), (some (2, true)))) rfl rfl (fun w' hS => val_loadOwnAgg (n := 2) (vs := encR (l[i]'hil).A) (hx0.stay hS (by decide)) (by kernel_rfl) (by kernel_rfl) rfl rfl rfl) ?_
                refine cS (by kernel_rfl : opAt F15.o11 11 = some (some 56, .call { callee := .value (.func 27), args := #[(.tmp 53), (.tmp 55)], argTypes := #[25, 25] }, (some (2, true)))) rfl rfl (ent Try.call27 rfl) (less30_ok (x := (l[((i : Int) - 1).toNat]'(by omega)).A) (y := (l[i]'hil).A) hF) ?_
                rintro vw14 w14 ⟨rfl, hs⟩
                rw [decide_eq_true hB]
                refine ⟨(hR.trans hs (by simp)).ext, ?_⟩
                replace hF := hF.st hs
                replace hT := hT.trans hs (by simp)
                replace hl := hl.st hs (by first | decide | (simp <;> omega))
                replace h16 := h16.st hs (by first | decide | (simp <;> omega))
                replace hx := hx.st hs (by first | decide | (simp <;> omega))
                replace hcs := hcs.trans hs (by simp)
                replace hR := hR.trans hs (by simp)
                replace g53 := g53.st hs (by first | decide | (simp <;> omega))
                refine yS (by kernel_rfl : opAt F15.o11 12 = some (some 57, .move (.tmp 56), (some (2, true)))) rfl rfl (fun w' hS => val_move rfl) ?_
                refine pS (by kernel_rfl : opAt F15.o11 13 = some (some 58, .move (.tmp 0), (some (12, false)))) rfl rfl ?_
                refine pS (by kernel_rfl : opAt F15.o11 14 = some (some 59, .move (.tmp 3), (some (12, false)))) rfl rfl ?_
                refine pS (by kernel_rfl : opAt F15.o11 15 = some (some 60, .binOp .sub 3 (.tmp 59) (.const (.int .i64 1)) 3, (some (12, false)))) rfl rfl ?_
                refine pS (by kernel_rfl : opAt F15.o11 16 = some (some 61, .indexAddr 23 (.tmp 58) (.tmp 60), (some (12, false)))) rfl rfl ?_
                refine pS (by kernel_rfl : opAt F15.o11 17 = some (some 62, .fieldAddr 50 (.tmp 61) 0, (some (12, false)))) rfl rfl ?_
                refine pS (by kernel_rfl : opAt F15.o11 18 = some (some 63, .load 25 (.tmp 62), (some (12, false)))) rfl rfl ?_
                refine pS (by kernel_rfl : opAt F15.o11 19 = some (some 64, .fieldAddr 50 (.tmp 4) 0, (some (12, false)))) rfl rfl ?_
                refine pS (by kernel_rfl : opAt F15.o11 20 = some (some 65, .load 25 (.tmp 64), (some (12, false)))) rfl rfl ?_
                refine pS (by kernel_rfl : opAt F15.o11 21 = some (some 66, .binOp .eql 25 (.tmp 63) (.tmp 65) 25, (some (12, false)))) rfl rfl ?_
                refine pS (by kernel_rfl : opAt F15.o11 22 = some (some 67, .move (.tmp 66), (some (12, false)))) rfl rfl ?_
                refine pS (by kernel_rfl : opAt F15.o11 23 = some (some 68, .move (.tmp 0), (some (22, true)))) rfl rfl ?_
                refine pS (by kernel_rfl : opAt F15.o11 24 = some (some 69, .move (.tmp 3), (some (22, true)))) rfl rfl ?_
                refine pS (by kernel_rfl : opAt F15.o11 25 = some (some 70, .binOp .sub 3 (.tmp 69) (.const (.int .i64 1)) 3, (some (22, true)))) rfl rfl ?_
                refine pS (by kernel_rfl : opAt F15.o11 26 = some (some 71, .indexAddr 23 (.tmp 68) (.tmp 70), (some (22, true)))) rfl rfl ?_
                refine pS (by kernel_rfl : opAt F15.o11 27 = some (some 72, .fieldAddr 50 (.tmp 71) 1, (some (22, true)))) rfl rfl ?_
                refine pS (by kernel_rfl : opAt F15.o11 28 = some (some 73, .load 25 (.tmp 72), (some (22, true)))) rfl rfl ?_
                refine pS (by kernel_rfl : opAt F15.o11 29 = some (some 74, .fieldAddr 50 (.tmp 4) 1, (some (22, true)))) rfl rfl ?_
                refine pS (by kernel_rfl : opAt F15.o11 30 = some (some 75, .load 25 (.tmp 74), (some (22, true)))) rfl rfl ?_
                refine pW (by kernel_rfl : opAt F15.o11 31 = some (some 76, .call { callee := .value (.func 27), args := #[(.tmp 73), (.tmp 75)], argTypes := #[25, 25] }, (some (22, true)))) rfl rfl hR.ext ?_
                refine pS (by kernel_rfl : opAt F15.o11 32 = some (some 77, .pick (.tmp 67) (.tmp 76) (.const (.bool false)), (some (12, false)))) rfl rfl ?_
                refine yS (by kernel_rfl : opAt F15.o11 33 = some (some 78, .pick (.tmp 57) (.const (.bool true)) (.tmp 77), (some (2, true)))) rfl rfl (fun w' hS => val_pick_t rfl rfl) ?_
                refine yS (by kernel_rfl : opAt F15.o11 34 = some (some 79, .unOp .not 4 (.tmp 78), (some (2, true)))) rfl rfl (fun w' hS => val_not rfl) ?_
                refine yS (by kernel_rfl : opAt F15.o11 35 = some (some 80, .pick (.tmp 47) (.tmp 79) (.const (.bool false)), none)) rfl rfl (fun w' hS => val_pick_t rfl rfl) ?_
                exact Sch.nil (hcut _ _ _ hcs rfl (by
  have e1 : ((i : Int) - 1).toNat = i - 1 := by omega
  simp only [e1] at hB
  rw [decide_eq_false (fun e => e.2 (Or.inl hB))]; rfl) (sub_skip rfl (sub_skip rfl (sub_skip rfl (sub_skip rfl (sub_skip rfl (sub_skip rfl (sub_skip rfl (sub_skip rfl (sub_skip rfl (sub_skip rfl (sub_skip rfl (sub_skip rfl (sub_skip rfl (sub_skip rfl (sub_skip rfl (sub_skip rfl (sub_skip rfl (sub_skip rfl (sub_skip rfl (sub_skip rfl (sub_skip rfl (sub_skip rfl (sub_skip rfl (sub_skip rfl (sub_skip rfl (sub_skip rfl (sub_skip rfl (sub_skip rfl (sub_skip rfl (sub_skip rfl (sub_skip rfl (sub_skip rfl (sub_skip rfl (sub_skip rfl (sub_skip rfl (sub_skip rfl (Sub.refl _))))))))))))))))))))))))))))))))))))))
              · skip
                by_cases hC : (l[((i : Int) - 1).toNat]'(by omega)).A = (l[i]'hil).A
                · skip
                  refine run_draw (id := 11) (ops := F15.o11) [] (Cw2) [(0, true), (1, true), (2, true), (3, true), (4, true), (5, true), (6, true), (7, true), (8, true), (9, true), (10, true), (11, false), (12, true), (13, true), (14, true), (15, true), (16, true), (17, true), (18, true), (19, true), (20, true), (21, true), (22, true), (23, true), (24, true), (25, true), (26, true), (27, true), (28, true), (29, true), (30, true), (31, false), (32, true), (33, true), (34, true), (35, true)] Try_mixed (by kernel_rfl) (by kernel_rfl) (by kernel_rfl) ?_
                  intro w15 hs
                  replace hF := hF.st hs
                  replace hT := hT.trans hs (by simp)
                  replace hl := hl.st hs (by first | decide | (simp <;> omega))
                  replace h16 := h16.st hs (by first | decide | (simp <;> omega))
                  replace hx := hx.st hs (by first | decide | (simp <;> omega))
                  have hcs := hs
                  have hR := Stp.refl [] w15 (Cw2)
                  have hx0 := hx
                  have hl_b := hl
                  refine yS (by kernel_rfl : opAt F15.o11 0 = some (some 45, .move (.tmp 3), none)) rfl rfl (fun w' hS => val_move rfl) ?_
                  refine yS (by kernel_rfl : opAt F15.o11 1 = some (some 46, .binOp .gtr 3 (.tmp 45) (.const (.int .i64 0)) 3, none)) rfl rfl (fun w' hS => val_T (val_gtr rfl rfl) hA) ?_
                  refine yS (by kernel_rfl : opAt F15.o11 2 = some (some 47, .move (.tmp 46), none)) rfl rfl (fun w' hS => val_move rfl) ?_
                  refine yS (by kernel_rfl : opAt F15.o11 3 = some (some 48, .move (.tmp 0), (some (2, true)))) rfl rfl (fun w' hS => val_move rfl) ?_
                  refine yS (by kernel_rfl : opAt F15.o11 4 = some (some 49, .move (.tmp 3), (some (2, true)))) rfl rfl (fun w' hS => val_move rfl) ?_
                  refine yS (by kernel_rfl : opAt F15.o11 5 = some (some 50, .binOp .sub 3 (.tmp 49) (.const (.int .i64 1)) 3, (some (2, true)))) rfl rfl (fun w' hS => val_subi rfl rfl (by omega) (by omega)) ?_
                  refine iS (e := 50) (by kernel_rfl : opAt F15.o11 6 = some (some 51, .indexAddr 23 (.tmp 48) (.tmp 50), (some (2, true)))) rfl rfl hl_b rfl (by kernel_rfl) rfl (by omega) (by omega) ?_
                  intro b51 o51 h51
                  try simp only [Int.toNat_natCast] at h51
                  have h52 := RA.bA h51
                  refine yS (by kernel_rfl : opAt F15.o11 7 = some (some 52, .fieldAddr 50 (.tmp 51) 0, (some (2, true)))) rfl rfl (fun w' hS => val_fieldAddr (off := 0) (by kernel_rfl) rfl) ?_
                  refine lSA (by kernel_rfl : opAt F15.o11 8 = some (some 53, .load 25 (.tmp 52), (some (2, true)))) rfl rfl (fun w' hS => h52.stay hS (by decide)) h52 (by kernel_rfl) (by kernel_rfl) rfl rfl ?_
                  intro v53 g53
                  have gb53 := g53
                  replace g53 := g53.st hR (by first | decide | (simp <;> omega))
                  obtain rfl := rv_couple.1 g53
                  refine yS (by kernel_rfl : opAt F15.o11 9 = some (some 54, .fieldAddr 50 (.tmp 4) 0, (some (2, true)))) rfl rfl (fun w' hS => val_fieldAddr (off := 0) (by kernel_rfl) rfl) ?_
                  refine yS (by kernel_rfl : opAt F15.o11 10 = some (some 55, .load 25 (.tmp 54), (some (2, true)))) rfl rfl (fun w' hS => val_loadOwnAgg (n := 2) (vs := encR (l[i]'hil).A) (hx0.stay hS (by decide)) (by kernel_rfl) (by kernel_rfl) rfl rfl rfl) ?_
                  refine cS (by kernel_rfl : opAt F15.o11 11 = some (some 56, .call { callee := .value (.func 27), args := #[(.tmp 53), (.tmp 55)], argTypes := #[25, 25] }, (some (2, true)))) rfl rfl (ent Try.call27 rfl) (less30_ok (x := (l[((i : Int) - 1).toNat]'(by omega)).A) (y := (l[i]'hil).A) hF) ?_
                  rintro vw16 w16 ⟨rfl, hs⟩
                  rw [decide_eq_false hB]
                  refine ⟨(hR.trans hs (by simp)).ext, ?_⟩
                  replace hF := hF.st hs
                  replace hT := hT.trans hs (by simp)
                  replace hl := hl.st hs (by first | decide | (simp <;> omega))
                  replace h16 := h16.st hs (by first | decide | (simp <;> omega))
                  replace hx := hx.st hs (by first | decide | (simp <;> omega))
                  replace hcs := hcs.trans hs (by simp)
                  replace hR := hR.trans hs (by simp)
                  replace g53 := g53.st hs (by first | decide | (simp <;> omega))
                  refine yS (by kernel_rfl : opAt F15.o11 12 = some (some 57, .move (.tmp 56), (some (2, true)))) rfl rfl (fun w' hS => val_move rfl) ?_
                  refine yS (by kernel_rfl : opAt F15.o11 13 = some (some 58, .move (.tmp 0), (some (12, false)))) rfl rfl (fun w' hS => val_move rfl) ?_
                  refine yS (by kernel_rfl : opAt F15.o11 14 = some (some 59, .move (.tmp 3), (some (12, false)))) rfl rfl (fun w' hS => val_move rfl) ?_
                  refine yS (by kernel_rfl : opAt F15.o11 15 = some (some 60, .binOp .sub 3 (.tmp 59) (.const (.int .i64 1)) 3, (some (12, false)))) rfl rfl (fun w' hS => val_subi rfl rfl (by omega) (by omega)) ?_
                  refine iS (e := 50) (by kernel_rfl : opAt F15.o11 16 = some (some 61, .indexAddr 23 (.tmp 58) (.tmp 60), (some (12, false)))) rfl rfl hl_b rfl (by kernel_rfl) rfl (by omega) (by omega) ?_
                  intro b61 o61 h61
                  try simp only [Int.toNat_natCast] at h61
                  have h62 := RA.bA h61
                  refine yS (by kernel_rfl : opAt F15.o11 17 = some (some 62, .fieldAddr 50 (.tmp 61) 0, (some (12, false)))) rfl rfl (fun w' hS => val_fieldAddr (off := 0) (by kernel_rfl) rfl) ?_
                  refine lSA (by kernel_rfl : opAt F15.o11 18 = some (some 63, .load 25 (.tmp 62), (some (12, false)))) rfl rfl (fun w' hS => h62.stay hS (by decide)) h62 (by kernel_rfl) (by kernel_rfl) rfl rfl ?_
                  intro v63 g63
                  have gb63 := g63
                  replace g63 := g63.st hR (by first | decide | (simp <;> omega))
                  obtain rfl := rv_couple.1 g63
                  refine yS (by kernel_rfl : opAt F15.o11 19 = some (some 64, .fieldAddr 50 (.tmp 4) 0, (some (12, false)))) rfl rfl (fun w' hS => val_fieldAddr (off := 0) (by kernel_rfl) rfl) ?_
                  refine yS (by kernel_rfl : opAt F15.o11 20 = some (some 65, .load 25 (.tmp 64), (some (12, false)))) rfl rfl (fun w' hS => val_loadOwnAgg (n := 2) (vs := encR (l[i]'hil).A) (hx0.stay hS (by decide)) (by kernel_rfl) (by kernel_rfl) rfl rfl rfl) ?_
                  refine yS (by kernel_rfl : opAt F15.o11 21 = some (some 66, .binOp .eql 25 (.tmp 63) (.tmp 65) 25, (some (12, false)))) rfl rfl (fun w' hS => val_T (val_eqC (a := (l[((i : Int) - 1).toNat]'(by omega)).A) (b := ((l[i]'hil).A)) Try.underlying25 (by decide) (by decide) (by kernel_rfl) Try.underlying3 rfl rfl) hC) ?_
                  refine yS (by kernel_rfl : opAt F15.o11 22 = some (some 67, .move (.tmp 66), (some (12, false)))) rfl rfl (fun w' hS => val_move rfl) ?_
                  refine yS (by kernel_rfl : opAt F15.o11 23 = some (some 68, .move (.tmp 0), (some (22, true)))) rfl rfl (fun w' hS => val_move rfl) ?_
                  refine yS (by kernel_rfl : opAt F15.o11 24 = some (some 69, .move (.tmp 3), (some (22, true)))) rfl rfl (fun w' hS => val_move rfl) ?_
                  refine yS (by kernel_rfl : opAt F15.o11 25 = some (some 70, .binOp .sub 3 (.tmp 69) (.const (.int .i64 1)) 3, (some (22, true)))) rfl rfl (fun w' hS => val_subi rfl rfl (by omega) (by omega)) ?_
                  refine iS (e := 50) (by kernel_rfl : opAt F15.o11 26 = some (some 71, .indexAddr 23 (.tmp 68) (.tmp 70), (some (22, true)))) rfl rfl hl_b rfl (by kernel_rfl) rfl (by omega) (by omega) ?_
                  intro b71 o71 h71
                  try simp only [Int.toNat_natCast] at h71
                  have h72 := RA.bB h71
                  refine yS (by kernel_rfl : opAt F15.o11 27 = some (some 72, .fieldAddr 50 (.tmp 71) 1, (some (22, true)))) rfl rfl (fun w' hS => val_fieldAddr (off := 2) (by kernel_rfl) rfl) ?_
                  refine lSA (by kernel_rfl : opAt F15.o11 28 = some (some 73, .load 25 (.tmp 72), (some (22, true)))) rfl rfl (fun w' hS => h72.stay hS (by decide)) h72 (by kernel_rfl) (by kernel_rfl) rfl rfl ?_
                  intro v73 g73
                  have gb73 := g73
                  replace g73 := g73.st hR (by first | decide | (simp <;> omega))
                  obtain rfl := rv_couple.1 g73
                  refine yS (by kernel_rfl : opAt F15.o11 29 = some (some 74, .fieldAddr 50 (.tmp 4) 1, (some (22, true)))) rfl rfl (fun w' hS => val_fieldAddr (off := 2) (by kernel_rfl) rfl) ?_
                  refine yS (by kernel_rfl : opAt F15.o11 30 = some (some 75, .load 25 (.tmp 74), (some (22, true)))) rfl rfl (fun w' hS => val_loadOwnAgg (n := 2) (vs := encR (l[i]'hil).B) (hx0.stay hS (by decide)) (by kernel_rfl) (by kernel_rfl) rfl rfl rfl) ?_
                  refine cS (by kernel_rfl : opAt F15.o11 31 = some (some 76, .call { callee := .value (.func 27), args := #[(.tmp 73), (.tmp 75)], argTypes := #[25, 25] }, (some (22, true)))) rfl rfl (ent Try.call27 rfl) (less30_ok (x := (l[((i : Int) - 1).toNat]'(by omega)).B) (y := (l[i]'hil).B) hF) ?_
                  rintro vw17 w17 ⟨rfl, hs⟩
                  refine ⟨(hR.trans hs (by simp)).ext, ?_⟩
                  replace hF := hF.st hs
                  replace hT := hT.trans hs (by simp)
                  replace hl := hl.st hs (by first | decide | (simp <;> omega))
                  replace h16 := h16.st hs (by first | decide | (simp <;> omega))
                  replace hx := hx.st hs (by first | decide | (simp <;> omega))
                  replace hcs := hcs.trans hs (by simp)
                  replace hR := hR.trans hs (by simp)
                  replace g53 := g53.st hs (by first | decide | (simp <;> omega))
                  replace g63 := g63.st hs (by first | decide | (simp <;> omega))
                  replace g73 := g73.st hs (by first | decide | (simp <;> omega))
                  refine yS (by kernel_rfl : opAt F15.o11 32 = some (some 77, .pick (.tmp 67) (.tmp 76) (.const (.bool false)), (some (12, false)))) rfl rfl (fun w' hS => val_pick_t rfl rfl) ?_
                  refine yS (by kernel_rfl : opAt F15.o11 33 = some (some 78, .pick (.tmp 57) (.const (.bool true)) (.tmp 77), (some (2, true)))) rfl rfl (fun w' hS => val_pick_f rfl rfl) ?_
                  refine yS (by kernel_rfl : opAt F15.o11 34 = some (some 79, .unOp .not 4 (.tmp 78), (some (2, true)))) rfl rfl (fun w' hS => val_notd rfl) ?_
                  refine yS (by kernel_rfl : opAt F15.o11 35 = some (some 80, .pick (.tmp 47) (.tmp 79) (.const (.bool false)), none)) rfl rfl (fun w' hS => val_pick_t rfl rfl) ?_
                  exact Sch.nil (hcut _ _ _ hcs rfl (by
  have e1 : ((i : Int) - 1).toNat = i - 1 := by omega
  simp only [e1] at hB hC ⊢
  congr 1; apply decide_eq_decide.2; unfold lt2; constructor
  · intro h1; exact ⟨by omega, fun h2 => h2.elim hB (fun h3 => h1 h3.2)⟩
  · intro h1 h2; exact h1.2 (Or.inr ⟨hC, h2⟩)) (sub_skip rfl (sub_skip rfl (sub_skip rfl (sub_skip rfl (sub_skip rfl (sub_skip rfl (sub_skip rfl (sub_skip rfl (sub_skip rfl (sub_skip rfl (sub_skip rfl (sub_skip rfl (sub_skip rfl (sub_skip rfl (sub_skip rfl (sub_skip rfl (sub_skip rfl (sub_skip rfl (sub_skip rfl (sub_skip rfl (sub_skip rfl (sub_skip rfl (sub_skip rfl (sub_skip rfl (sub_skip rfl (sub_skip rfl (sub_skip rfl (sub_skip rfl (sub_skip rfl (sub_skip rfl (sub_skip rfl (sub_skip rfl (sub_skip rfl (sub_skip rfl (sub_skip rfl (sub_skip rfl (Sub.refl _))))))))))))))))))))))))))))))))))))))
                · skip
                  refine run_draw (id := 11) (ops := F15.o11) [] (Cw2) [(0, true), (1, true), (2, true), (3, true), (4, true), (5, true), (6, true), (7, true), (8, true), (9, true), (10, true), (11, false), (12, true), (13, true), (14, true), (15, true), (16, true), (17, true), (18, true), (19, true), (20, true), (21, true), (22, true), (23, true), (24, true), (25, true), (26, true), (27, true), (28, true), (29, true), (30, true), (31, false), (32, true), (33, true), (34, true), (35, true)] Try_mixed (by kernel_rfl) (by kernel_rfl) (by kernel_rfl) ?_
                  intro w18 hs
                  replace hF := hF.st hs
                  replace hT := hT.trans hs (by simp)
                  replace hl := hl.st hs (by first | decide | (simp <;> omega))
                  replace h16 := h16.st hs (by first | decide | (simp <;> omega))
                  replace hx := hx.st hs (by first | decide | (simp <;> omega))
                  have hcs := hs
                  have hR := Stp.refl [] w18 (Cw2)
                  have hx0 := hx
                  have hl_b := hl
                  refine yS (by kernel_rfl : opAt F15.o11 0 = some (some 45, .move (.tmp 3), none)) rfl rfl (fun w' hS => val_move rfl) ?_
                  refine yS (by kernel_rfl : opAt F15.o11 1 = some (some 46, .binOp .gtr 3 (.tmp 45) (.const (.int .i64 0)) 3, none)) rfl rfl (fun w' hS => val_T (val_gtr rfl rfl) hA) ?_
                  refine yS (by kernel_rfl : opAt F15.o11 2 = some (some 47, .move (.tmp 46), none)) rfl rfl (fun w' hS => val_move rfl) ?_
                  refine yS (by kernel_rfl : opAt F15.o11 3 = some (some 48, .move (.tmp 0), (some (2, true)))) rfl rfl (fun w' hS => val_move rfl) ?_
                  refine yS (by kernel_rfl : opAt F15.o11 4 = some (some 49, .move (.tmp 3), (some (2, true)))) rfl rfl (fun w' hS => val_move rfl) ?_
                  refine yS (by kernel_rfl : opAt F15.o11 5 = some (some 50, .binOp .sub 3 (.tmp 49) (.const (.int .i64 1)) 3, (some (2, true)))) rfl rfl (fun w' hS => val_subi rfl rfl (by omega) (by omega)) ?_
                  refine iS (e := 50) (by kernel_rfl : opAt F15.o11 6 = some (some 51, .indexAddr 23 (.tmp 48) (.tmp 50), (some (2, true)))) rfl rfl hl_b rfl (by kernel_rfl) rfl (by omega) (by omega) ?_
                  intro b51 o51 h51
                  try simp only [Int.toNat_natCast] at h51
                  have h52 := RA.bA h51
                  refine yS (by kernel_rfl : opAt F15.o11 7 = some (some 52, .fieldAddr 50 (.tmp 51) 0, (some (2, true)))) rfl rfl (fun w' hS => val_fieldAddr (off := 0) (by kernel_rfl) rfl) ?_
                  refine lSA (by kernel_rfl : opAt F15.o11 8 = some (some 53, .load 25 (.tmp 52), (some (2, true)))) rfl rfl (fun w' hS => h52.stay hS (by decide)) h52 (by kernel_rfl) (by kernel_rfl) rfl rfl ?_
                  intro v53 g53
                  have gb53 := g53
                  replace g53 := g53.st hR (by first | decide | (simp <;> omega))
                  obtain rfl := rv_couple.1 g53
                  refine yS (by kernel_rfl : opAt F15.o11 9 = some (some 54, .fieldAddr 50 (.tmp 4) 0, (some (2, true)))) rfl rfl (fun w' hS => val_fieldAddr (off := 0) (by kernel_rfl) rfl) ?_
                  refine yS (by kernel_rfl : opAt F15.o11 10 = some (some 55, .load 25 (.tmp 54), (some (2, true)))) rfl rfl (fun w' hS => val_loadOwnAgg (n := 2) (vs := encR (l[i]'hil).A) (hx0.stay hS (by decide)) (by kernel_rfl) (by kernel_rfl) rfl rfl rfl) ?_
                  refine cS (by kernel_rfl : opAt F15.o11 11 = some (some 56, .call { callee := .value (.func 27), args := #[(.tmp 53), (.tmp 55)], argTypes := #[25, 25] }, (some (2, true)))) rfl rfl (ent Try.call27 rfl) (less30_ok (x := (l[((i : Int) - 1).toNat]'(by omega)).A) (y := (l[i]'hil).A) hF) ?_
                  rintro vw19 w19 ⟨rfl, hs⟩
                  rw [decide_eq_false hB]
                  refine ⟨(hR.trans hs (by simp)).ext, ?_⟩
                  replace hF := hF.st hs
                  replace hT := hT.trans hs (by simp)
                  replace hl := hl.st hs (by first | decide | (simp <;> omega))
                  replace h16 := h16.st hs (by first | decide | (simp <;> omega))
                  replace hx := hx.st hs (by first | decide | (simp <;> omega))
                  replace hcs := hcs.trans hs (by simp)
                  replace hR := hR.trans hs (by simp)
                  replace g53 := g53.st hs (by first | decide | (simp <;> omega))
                  refine yS (by kernel_rfl : opAt F15.o11 12 = some (some 57, .move (.tmp 56), (some (2, true)))) rfl rfl (fun w' hS => val_move rfl) ?_
                  refine yS (by kernel_rfl : opAt F15.o11 13 = some (some 58, .move (.tmp 0), (some (12, false)))) rfl rfl (fun w' hS => val_move rfl) ?_
                  refine yS (by kernel_rfl : opAt F15.o11 14 = some (some 59, .move (.tmp 3), (some (12, false)))) rfl rfl (fun w' hS => val_move rfl) ?_
                  refine yS (by kernel_rfl : opAt F15.o11 15 = some (some 60, .binOp .sub 3 (.tmp 59) (.const (.int .i64 1)) 3, (some (12, false)))) rfl rfl (fun w' hS => val_subi rfl rfl (by omega) (by omega)) ?_
                  refine iS (e := 50) (by kernel_rfl : opAt F15.o11 16 = some (some 61, .indexAddr 23 (.tmp 58) (.tmp 60), (some (12, false)))) rfl rfl hl_b rfl (by kernel_rfl) rfl (by omega) (by omega) ?_
                  intro b61 o61 h61
                  try simp only [Int.toNat_natCast] at h61
                  have h62 := RA.bA h61
                  refine yS (by kernel_rfl : opAt F15.o11 17 = some (some 62, .fieldAddr 50 (.tmp 61) 0, (some (12, false)))) rfl rfl (fun w' hS => val_fieldAddr (off := 0) (by kernel_rfl) rfl) ?_
                  refine lSA (by kernel_rfl : opAt F15.o11 18 = some (some 63, .load 25 (.tmp 62), (some (12, false)))) rfl rfl (fun w' hS => h62.stay hS (by decide)) h62 (by kernel_rfl) (by kernel_rfl) rfl rfl ?_
                  intro v63 g63
                  have gb63 := g63
                  replace g63 := g63.st hR (by first | decide | (simp <;> omega))
                  obtain rfl := rv_couple.1 g63
                  refine yS (by kernel_rfl : opAt F15.o11 19 = some (some 64, .fieldAddr 50 (.tmp 4) 0, (some (12, false)))) rfl rfl (fun w' hS => val_fieldAddr (off := 0) (by kernel_rfl) rfl) ?_
                  refine yS (by kernel_rfl : opAt F15.o11 20 = some (some 65, .load 25 (.tmp 64), (some (12, false)))) rfl rfl (fun w' hS => val_loadOwnAgg (n := 2) (vs := encR (l[i]'hil).A) (hx0.stay hS (by decide)) (by kernel_rfl) (by kernel_rfl) rfl rfl rfl) ?_
                  refine yS (by kernel_rfl : opAt F15.o11 21 = some (some 66, .binOp .eql 25 (.tmp 63) (.tmp 65) 25, (some (12, false)))) rfl rfl (fun w' hS => val_F (val_eqC (a := (l[((i : Int) - 1).toNat]'(by omega)).A) (b := ((l[i]'hil).A)) Try.underlying25 (by decide) (by decide) (by kernel_rfl) Try.underlying3 rfl rfl) hC) ?_
                  refine yS (by kernel_rfl : opAt F15.o11 22 = some (some 67, .move (.tmp 66), (some (12, false)))) rfl rfl (fun w' hS => val_move rfl) ?_
                  refine pS (by kernel_rfl : opAt F15.o11 23 = some (some 68, .move (.tmp 0), (some (22, true)))) rfl rfl ?_
                  refine pS (by kernel_rfl : opAt F15.o11 24 = some (some 69, .move (.tmp 3), (some (22, true)))) rfl rfl ?_
                  refine pS (by kernel_rfl : opAt F15.o11 25 = some (some 70, .binOp .sub 3 (.tmp 69) (.const (.int .i64 1)) 3, (some (22, true)))) rfl rfl ?_
                  refine pS (by kernel_rfl : opAt F15.o11 26 = some (some 71, .indexAddr 23 (.tmp 68) (.tmp 70), (some (22, true)))) rfl rfl ?_
                  refine pS (by kernel_rfl : opAt F15.o11 27 = some (some 72, .fieldAddr 50 (.tmp 71) 1, (some (22, true)))) rfl rfl ?_
                  refine pS (by kernel_rfl : opAt F15.o11 28 = some (some 73, .load 25 (.tmp 72), (some (22, true)))) rfl rfl ?_
                  refine pS (by kernel_rfl : opAt F15.o11 29 = some (some 74, .fieldAddr 50 (.tmp 4) 1, (some (22, true)))) rfl rfl ?_
                  refine pS (by kernel_rfl : opAt F15.o11 30 = some (some 75, .load 25 (.tmp 74), (some (22, true)))) rfl rfl ?_
                  refine pW (by kernel_rfl : opAt F15.o11 31 = some (some 76, .call { callee := .value (.func 27), args := #[(.tmp 73), (.tmp 75)], argTypes := #[25, 25] }, (some (22, true)))) rfl rfl hR.ext ?_
                  refine yS (by kernel_rfl : opAt F15.o11 32 = some (some 77, .pick (.tmp 67) (.tmp 76) (.const (.bool false)), (some (12, false)))) rfl rfl (fun w' hS => val_pick_f rfl rfl) ?_
                  refine yS (by kernel_rfl : opAt F15.o11 33 = some (some 78, .pick (.tmp 57) (.const (.bool true)) (.tmp 77), (some (2, true)))) rfl rfl (fun w' hS => val_pick_f rfl rfl) ?_
                  refine yS (by kernel_rfl : opAt F15.o11 34 = some (some 79, .unOp .not 4 (.tmp 78), (some (2, true)))) rfl rfl (fun w' hS => val_not rfl) ?_
                  refine yS (by kernel_rfl : opAt F15.o11 35 = some (some 80, .pick (.tmp 47) (.tmp 79) (.const (.bool false)), none)) rfl rfl (fun w' hS => val_pick_t rfl rfl) ?_
                  exact Sch.nil (hcut _ _ _ hcs rfl (by
  have e1 : ((i : Int) - 1).toNat = i - 1 := by omega
  simp only [e1] at hB hC
  rw [decide_eq_true (show 0 < i ∧ ¬ lt2 (l[i-1]'(by omega)) (l[i]'hil) from ⟨by omega, fun h2 => h2.elim hB (fun h3 => hC h3.1)⟩)]; rfl) (sub_skip rfl (sub_skip rfl (sub_skip rfl (sub_skip rfl (sub_skip rfl (sub_skip rfl (sub_skip rfl (sub_skip rfl (sub_skip rfl (sub_skip rfl (sub_skip rfl (sub_skip rfl (sub_skip rfl (sub_skip rfl (sub_skip rfl (sub_skip rfl (sub_skip rfl (sub_skip rfl (sub_skip rfl (sub_skip rfl (sub_skip rfl (sub_skip rfl (sub_skip rfl (sub_skip rfl (sub_skip rfl (sub_skip rfl (sub_skip rfl (sub_skip rfl (sub_skip rfl (sub_skip rfl (sub_skip rfl (sub_skip rfl (sub_skip rfl (sub_skip rfl (sub_skip rfl (sub_skip rfl (Sub.refl _))))))))))))))))))))))))))))))))))))))
            · skip
              refine run_draw (id := 11) (ops := F15.o11) [] (Cw2) [(0, true), (1, true), (2, true), (3, true), (4, true), (5, true), (6, true), (7, true), (8, true), (9, true), (10, true), (11, false), (12, true), (13, true), (14, true), (15, true), (16, true), (17, true), (18, true), (19, true), (20, true), (21, true), (22, true), (23, true), (24, true), (25, true), (26, true), (27, true), (28, true), (29, true), (30, true), (31, false), (32, true), (33, true), (34, true), (35, true)] Try_mixed (by kernel_rfl) (by kernel_rfl) (by kernel_rfl) ?_
              intro w20 hs
              replace hF := hF.st hs
              replace hT := hT.trans hs (by simp)
              replace hl := hl.st hs (by first | decide | (simp <;> omega))
              replace h16 := h16.st hs (by first | decide | (simp <;> omega))
              replace hx := hx.st hs (by first | decide | (simp <;> omega))
              have hcs := hs
              have hR := Stp.refl [] w20 (Cw2)
              have hx0 := hx
              have hl_b := hl
              refine yS (by kernel_rfl : opAt F15.o11 0 = some (some 45, .move (.tmp 3), none)) rfl rfl (fun w' hS => val_move rfl) ?_
              refine yS (by kernel_rfl : opAt F15.o11 1 = some (some 46, .binOp .gtr 3 (.tmp 45) (.const (.int .i64 0)) 3, none)) rfl rfl (fun w' hS => val_F (val_gtr rfl rfl) hA) ?_
              refine yS (by kernel_rfl : opAt F15.o11 2 = some (some 47, .move (.tmp 46), none)) rfl rfl (fun w' hS => val_move rfl) ?_
              refine pS (by kernel_rfl : opAt F15.o11 3 = some (some 48, .move (.tmp 0), (some (2, true)))) rfl rfl ?_
              refine pS (by kernel_rfl : opAt F15.o11 4 = some (some 49, .move (.tmp 3), (some (2, true)))) rfl rfl ?_
              refine pS (by kernel_rfl : opAt F15.o11 5 = some (some 50, .binOp .sub 3 (.tmp 49) (.const (.int .i64 1)) 3, (some (2, true)))) rfl rfl ?_
              refine pS (by kernel_rfl : opAt F15.o11 6 = some (some 51, .indexAddr 23 (.tmp 48) (.tmp 50), (some (2, true)))) rfl rfl ?_
              refine pS (by kernel_rfl : opAt F15.o11 7 = some (some 52, .fieldAddr 50 (.tmp 51) 0, (some (2, true)))) rfl rfl ?_
              refine pS (by kernel_rfl : opAt F15.o11 8 = some (some 53, .load 25 (.tmp 52), (some (2, true)))) rfl rfl ?_
              refine pS (by kernel_rfl : opAt F15.o11 9 = some (some 54, .fieldAddr 50 (.tmp 4) 0, (some (2, true)))) rfl rfl ?_
              refine pS (by kernel_rfl : opAt F15.o11 10 = some (some 55, .load 25 (.tmp 54), (some (2, true)))) rfl rfl ?_
              refine pW (by kernel_rfl : opAt F15.o11 11 = some (some 56, .call { callee := .value (.func 27), args := #[(.tmp 53), (.tmp 55)], argTypes := #[25, 25] }, (some (2, true)))) rfl rfl hR.ext ?_
              refine pS (by kernel_rfl : opAt F15.o11 12 = some (some 57, .move (.tmp 56), (some (2, true)))) rfl rfl ?_
              refine pS (by kernel_rfl : opAt F15.o11 13 = some (some 58, .move (.tmp 0), (some (12, false)))) rfl rfl ?_
              refine pS (by kernel_rfl : opAt F15.o11 14 = some (some 59, .move (.tmp 3), (some (12, false)))) rfl rfl ?_
              refine pS (by kernel_rfl : opAt F15.o11 15 = some (some 60, .binOp .sub 3 (.tmp 59) (.const (.int .i64 1)) 3, (some (12, false)))) rfl rfl ?_
              refine pS (by kernel_rfl : opAt F15.o11 16 = some (some 61, .indexAddr 23 (.tmp 58) (.tmp 60), (some (12, false)))) rfl rfl ?_
              refine pS (by kernel_rfl : opAt F15.o11 17 = some (some 62, .fieldAddr 50 (.tmp 61) 0, (some (12, false)))) rfl rfl ?_
              refine pS (by kernel_rfl : opAt F15.o11 18 = some (some 63, .load 25 (.tmp 62), (some (12, false)))) rfl rfl ?_
              refine pS (by kernel_rfl : opAt F15.o11 19 = some (some 64, .fieldAddr 50 (.tmp 4) 0, (some (12, false)))) rfl rfl ?_
              refine pS (by kernel_rfl : opAt F15.o11 20 = some (some 65, .load 25 (.tmp 64), (some (12, false)))) rfl rfl ?_
              refine pS (by kernel_rfl : opAt F15.o11 21 = some (some 66, .binOp .eql 25 (.tmp 63) (.tmp 65) 25, (some (12, false)))) rfl rfl ?_
              refine pS (by kernel_rfl : opAt F15.o11 22 = some (some 67, .move (.tmp 66), (some (12, false)))) rfl rfl ?_
              refine pS (by kernel_rfl : opAt F15.o11 23 = some (some 68, .move (.tmp 0), (some (22, true)))) rfl rfl ?_
              refine pS (by kernel_rfl : opAt F15.o11 24 = some (some 69, .move (.tmp 3), (some (22, true)))) rfl rfl ?_
              refine pS (by kernel_rfl : opAt F15.o11 25 = some (some 70, .binOp .sub 3 (.tmp 69) (.const (.int .i64 1)) 3, (some (22, true)))) rfl rfl ?_
              refine pS (by kernel_rfl : opAt F15.o11 26 = some (some 71, .indexAddr 23 (.tmp 68) (.tmp 70), (some (22, true)))) rfl rfl ?_
              refine pS (by kernel_rfl : opAt F15.o11 27 = some (some 72, .fieldAddr 50 (.tmp 71) 1, (some (22, true)))) rfl rfl ?_
              refine pS (by kernel_rfl : opAt F15.o11 28 = some (some 73, .load 25 (.tmp 72), (some (22, true)))) rfl rfl ?_
              refine pS (by kernel_rfl : opAt F15.o11 29 = some (some 74, .fieldAddr 50 (.tmp 4) 1, (some (22, true)))) rfl rfl ?_
              refine pS (by kernel_rfl : opAt F15.o11 30 = some (some 75, .load 25 (.tmp 74), (some (22, true)))) rfl rfl ?_
              refine pW (by kernel_rfl : opAt F15.o11 31 = some (some 76, .call { callee := .value (.func 27), args := #[(.tmp 73), (.tmp 75)], argTypes := #[25, 25] }, (some (22, true)))) rfl rfl hR.ext ?_
              refine pS (by kernel_rfl : opAt F15.o11 32 = some (some 77, .pick (.tmp 67) (.tmp 76) (.const (.bool false)), (some (12, false)))) rfl rfl ?_
              refine pS (by kernel_rfl : opAt F15.o11 33 = some (some 78, .pick (.tmp 57) (.const (.bool true)) (.tmp 77), (some (2, true)))) rfl rfl ?_
              refine pS (by kernel_rfl : opAt F15.o11 34 = some (some 79, .unOp .not 4 (.tmp 78), (some (2, true)))) rfl rfl ?_
              refine yS (by kernel_rfl : opAt F15.o11 35 = some (some 80, .pick (.tmp 47) (.tmp 79) (.const (.bool false)), none)) rfl rfl (fun w' hS => val_pick_f rfl rfl) ?_
              exact Sch.nil (hcut _ _ _ hcs rfl (by rw [decide_eq_false (fun e => hA (by omega))]) (sub_skip rfl (sub_skip rfl (sub_skip rfl (sub_skip rfl (sub_skip rfl (sub_skip rfl (sub_skip rfl (sub_skip rfl (sub_skip rfl (sub_skip rfl (sub_skip rfl (sub_skip rfl (sub_skip rfl (sub_skip rfl (sub_skip rfl (sub_skip rfl (sub_skip rfl (sub_skip rfl (sub_skip rfl (sub_skip rfl (sub_skip rfl (sub_skip rfl (sub_skip rfl (sub_skip rfl (sub_skip rfl (sub_skip rfl (sub_skip rfl (sub_skip rfl (sub_skip rfl (sub_skip rfl (sub_skip rfl (sub_skip rfl (sub_skip rfl (sub_skip rfl (sub_skip rfl (sub_skip rfl (Sub.refl _))))))))))))))))))))))))))))))))))))))
          intro w21 hs
          replace hF := hF.st hs
          replace hT := hT.trans hs (by simp)
          replace hl := hl.st hs (by first | decide | (simp <;> omega))
          replace h16 := h16.st hs (by first | decide | (simp <;> omega))
          replace hx := hx.st hs (by first | decide | (simp <;> omega))
          refine run_if (x := F15.c44) (y := F15.c47) (o := .tmp 80) (by kernel_rfl) rfl (fun h80 => ?_) (fun h80 => ?_)
          · skip
            refine run_seq (x := F15.c45) (y := F15.c46) (by kernel_rfl) ?_
            refine run_plain (id := 12) (ops := F15.o12) [(0, true)] (by kernel_rfl) (by kernel_rfl) ?_
            refine yS (by kernel_rfl : opAt F15.o12 0 = some (some 2, .assign (.const (.int .i64 12)), none)) rfl rfl (fun w' hS => val_assign rfl) ?_
            refine Sch.nil ?_
            refine run_ret1 (by kernel_rfl) Try.func15 Try.results15 rfl ?_
            rw [if_neg (by simpa using h36), if_neg h44, if_pos h80] at hE
            exact ⟨by rw [checkS_at hlim hil h0 (by rw [hE]; decide), hE], hT.out1 (by decide)⟩
          · skip
            refine run_skip (by kernel_rfl) ?_
            refine run_inBlock ?_
            refine run_plain (id := 5) (ops := F15.o5) [(0, true), (1, true), (2, true)] (by kernel_rfl) (by kernel_rfl) ?_
            refine yS (by kernel_rfl : opAt F15.o5 0 = some (some 12, .move (.tmp 3), none)) rfl rfl (fun w' hS => val_move rfl) ?_
            refine yS (by kernel_rfl : opAt F15.o5 1 = some (some 13, .binOp .add 3 (.tmp 12) (.const (.int .i64 1)) 3, none)) rfl rfl (fun w' hS => val_addi rfl rfl (by omega) (by omega)) ?_
            refine yS (by kernel_rfl : opAt F15.o5 2 = some (some 3, .assign (.tmp 13), none)) rfl rfl (fun w' hS => val_assign rfl) ?_
            refine Sch.nil ?_
            refine kp (sub_cons 0 rfl rfl (sub_cons 3 rfl (eq_int (by simp)) (sub_nil _))) (next1 (i + 1, Cw2) _ ⟨(by first | omega | (simp only; omega)), (fun k hk => by
                simp only at hk
                by_cases e : k = i
                · subst e; rw [hE, if_neg (by simpa using h36), if_neg h44, if_neg h80]
                · exact h0 k (by omega)), hF, hT, hl⟩ (by first | omega | (simp only; omega)))
    · skip
      have hil : i = l.length := by omega
      refine run_exit (id := 0) (by kernel_rfl) rfl ?_
      refine run_seq (x := F15.c50) (y := F15.c51) (by kernel_rfl) ?_
      refine run_plain (id := 13) (ops := F15.o13) [(0, true)] (by kernel_rfl) (by kernel_rfl) ?_
      refine yS (by kernel_rfl : opAt F15.o13 0 = some (some 2, .assign (.const (.int .i64 0)), none)) rfl rfl (fun w' hS => val_assign rfl) ?_
      refine Sch.nil ?_
      refine run_ret1 (by kernel_rfl) Try.func15 Try.results15 rfl ?_
      subst hil
      exact ⟨by rw [checkS_ok hlim h0], hT.out1 (by decide)⟩
end Go.Proofs.Ytfmdkdfhnkennaa

