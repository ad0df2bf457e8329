/- Steps through functions of the program. -/
import Derived.Test.YtfmdkdfhnkennaaKC1
set_option linter.unusedVariables false
set_option linter.unusedSimpArgs false
set_option maxRecDepth 100000
set_option maxHeartbeats 400000
namespace Go.Proofs.Ytfmdkdfhnkennaa
open Go.K Go.K.Rep

namespace F14
noncomputable def c0 : Code := bodyOf Try.f14
noncomputable def c1 : Code := cl c0
noncomputable def o0 : Array Oper := rops c1
noncomputable def c2 : Code := cr c0
noncomputable def c3 : Code := cl c2
noncomputable def c4 : Code := cl c3
noncomputable def o1 : Array Oper := rops c4
noncomputable def c5 : Code := cr c3
noncomputable def c6 : Code := cl c5
noncomputable def c7 : Code := cl c6
noncomputable def o2 : Array Oper := rops c7
noncomputable def c8 : Code := cr c6
noncomputable def c9 : Code := cr c5
noncomputable def c10 : Code := cr c2
noncomputable def c11 : Code := cl c10
noncomputable def c12 : Code := cl c11
noncomputable def o3 : Array Oper := rops c12
noncomputable def c13 : Code := cr c11
noncomputable def c14 : Code := cl c13
noncomputable def c15 : Code := cl c14
noncomputable def c16 : Code := cl c15
noncomputable def o4 : Array Oper := rops c16
noncomputable def c17 : Code := cr c15
noncomputable def c18 : Code := cl c17
noncomputable def c19 : Code := cl c18
noncomputable def c20 : Code := cr c18
noncomputable def c21 : Code := cr c17
noncomputable def c22 : Code := cl c21
noncomputable def c23 : Code := cl c22
noncomputable def c24 : Code := cl c23
noncomputable def o5 : Array Oper := rops c24
noncomputable def c25 : Code := cr c23
noncomputable def c26 : Code := cl c25
noncomputable def c27 : Code := cl c26
noncomputable def o6 : Array Oper := rops c27
noncomputable def c28 : Code := cr c26
noncomputable def c29 : Code := cl c28
noncomputable def c30 : Code := cl c29
noncomputable def o7 : Array Oper := rops c30
noncomputable def c31 : Code := cr c29
noncomputable def c32 : Code := cr c28
noncomputable def c33 : Code := cl c32
noncomputable def o8 : Array Oper := rops c33
noncomputable def c34 : Code := cr c32
noncomputable def c35 : Code := cl c34
noncomputable def c36 : Code := cl c35
noncomputable def o9 : Array Oper := rops c36
noncomputable def c37 : Code := cr c35
noncomputable def c38 : Code := cr c34
noncomputable def c39 : Code := cl c38
noncomputable def o10 : Array Oper := rops c39
noncomputable def c40 : Code := cr c38
noncomputable def c41 : Code := cl c40
noncomputable def c42 : Code := cl c41
noncomputable def o11 : Array Oper := rops c42
noncomputable def c43 : Code := cr c41
noncomputable def c44 : Code := cr c40
noncomputable def c45 : Code := cr c21
noncomputable def o12 : Array Oper := rops c45
noncomputable def c46 : Code := cr c10
noncomputable def c47 : Code := cl c46
noncomputable def o13 : Array Oper := rops c47
noncomputable def c48 : Code := cr c46
end F14
theorem check_ok {w₀ : World} {C : Nat → Nat} {l : List Bond} {vl : Value} (hF : Lim w₀ C) (hl : RV w₀ (Mc C) l vl) : Calls Try.prog 14 #[vl] w₀ (Ret fun v w' => v = .int .i64 (checkS l) ∧ Stp [] w₀ C w' C) := by
  have hF0 := hF
  have hT := Stp.refl [2, 3, 4, 5, 6, 7, 8, 9] w₀ (col1 C)
  replace hF := hF.col1
  replace hl : RV w₀ (Mc (col1 C)) l vl := by rw [Mc_col1]; exact hl
  refine calls_start (c := F14.c0) (N := 55) [vl] Try.func14 (by kernel_rfl) (by kernel_rfl) (by kernel_rfl) ?_
  show Run _ _ _ _ [(0, vl)] _ _
  refine run_seq (x := F14.c1) (y := F14.c2) (by kernel_rfl) ?_
  refine run_plain (id := 0) (ops := F14.o0) [(0, true)] (by kernel_rfl) (by kernel_rfl) ?_
  refine yS (by kernel_rfl : opAt F14.o0 0 = some (some 2, .assign (.const (.int .i64 0)), none)) rfl rfl (fun w' hS => val_assign rfl) ?_
  refine Sch.nil ?_
  refine run_seq (x := F14.c3) (y := F14.c10) (by kernel_rfl) ?_
  refine run_seq (x := F14.c4) (y := F14.c5) (by kernel_rfl) ?_
  refine run_plain (id := 1) (ops := F14.o1) [(0, true), (1, true), (2, true)] (by kernel_rfl) (by kernel_rfl) ?_
  refine yS (by kernel_rfl : opAt F14.o1 0 = some (some 5, .move (.tmp 0), none)) rfl rfl (fun w' hS => val_move rfl) ?_
  refine yS (by kernel_rfl : opAt F14.o1 1 = some (some 6, .call { callee := .builtin .len, args := #[(.tmp 5)], argTypes := #[23] }, none)) rfl rfl (fun w' hS => hl.lenV rfl Try.underlying23 w' ) ?_
  refine yS (by kernel_rfl : opAt F14.o1 2 = some (some 7, .binOp .gtr 3 (.tmp 6) (.const (.int .i64 4096)) 3, none)) rfl rfl (fun w' hS => val_gtr rfl rfl) ?_
  refine Sch.nil ?_
  refine run_if (x := F14.c6) (y := F14.c9) (o := .tmp 7) (by kernel_rfl) rfl (fun h7 => ?_) (fun h7 => ?_)
  · skip
    refine run_seq (x := F14.c7) (y := F14.c8) (by kernel_rfl) ?_
    refine run_plain (id := 2) (ops := F14.o2) [(0, true)] (by kernel_rfl) (by kernel_rfl) ?_
    refine yS (by kernel_rfl : opAt F14.o2 0 = some (some 2, .assign (.const (.int .i64 1)), none)) rfl rfl (fun w' hS => val_assign rfl) ?_
    refine Sch.nil ?_
    refine run_ret1 (by kernel_rfl) Try.func14 Try.results14 rfl ?_
    exact ⟨by rw [checkS_lim (by omega)], hT.out1 (by decide)⟩
  · skip
    have hlim : l.length ≤ 4096 := by omega
    refine run_skip (by kernel_rfl) ?_
    refine run_seq (x := F14.c11) (y := F14.c46) (by kernel_rfl) ?_
    refine run_seq (x := F14.c12) (y := F14.c13) (by kernel_rfl) ?_
    refine run_plain (id := 3) (ops := F14.o3) [(0, true), (1, true), (2, true)] (by kernel_rfl) (by kernel_rfl) ?_
    refine yS (by kernel_rfl : opAt F14.o3 0 = some (some 8, .move (.tmp 0), none)) rfl rfl (fun w' hS => val_move rfl) ?_
    refine yS (by kernel_rfl : opAt F14.o3 1 = some (some 9, .call { callee := .builtin .len, args := #[(.tmp 8)], argTypes := #[23] }, none)) rfl rfl (fun w' hS => hl.lenV rfl Try.underlying23 w' ) ?_
    refine yS (by kernel_rfl : opAt F14.o3 2 = some (some 10, .move (.const (.int .i64 0)), none)) rfl rfl (fun w' hS => val_move rfl) ?_
    refine Sch.nil ?_
    refine run_block (x := F14.c14) (id := 0) (by kernel_rfl) ?_
    
    refine run_loop (ι := Nat × (Nat → Nat)) (I := fun x w => x.1 ≤ l.length ∧ (∀ k, k < x.1 → errAt l k = 0) ∧ Lim w x.2 ∧ Stp [2, 3, 4, 5, 6, 7, 8, 9] w₀ (col1 C) w x.2 ∧ RV w (Mc x.2) l vl) (e := fun x => [(0, vl), (8, vl), (9, .int .i64 l.length), (10, .int .i64 x.1)]) (m := fun x => l.length - x.1) (x₀ := (0, col1 C)) (body := F14.c15) (by kernel_rfl) (sub_cons 0 rfl rfl (sub_cons 8 rfl rfl (sub_cons 9 rfl rfl (sub_cons 10 rfl rfl (sub_nil _))))) ?_ ?_
    · exact ⟨Nat.zero_le _, fun k hk => by simp at hk, hF, hT, hl⟩
    intro ⟨i, C1⟩ w1 hI next
    obtain ⟨hi, h0, hF, hT, hl⟩ := hI
    try simp only at hi h0 hF hT hl
    have next1 := next
    clear next
    show Run _ _ _ _ [(0, vl), (8, vl), (9, .int .i64 l.length), (10, .int .i64 i)] _ _
    refine run_seq (x := F14.c16) (y := F14.c17) (by kernel_rfl) ?_
    refine run_plain (id := 4) (ops := F14.o4) [(0, true)] (by kernel_rfl) (by kernel_rfl) ?_
    refine yS (by kernel_rfl : opAt F14.o4 0 = some (some 11, .binOp .lss 3 (.tmp 10) (.tmp 9) 3, none)) rfl rfl (fun w' hS => val_lss rfl rfl) ?_
    refine Sch.nil ?_
    refine run_seq (x := F14.c18) (y := F14.c21) (by kernel_rfl) ?_
    refine run_if (x := F14.c19) (y := F14.c20) (o := .tmp 11) (by kernel_rfl) rfl (fun h11 => ?_) (fun h11 => ?_)
    · skip
      have hil : i < l.length := by omega
      have hE := errAt_val hil
      refine run_skip (by kernel_rfl) ?_
      refine run_seq (x := F14.c22) (y := F14.c45) (by kernel_rfl) ?_
      refine run_block (x := F14.c23) (id := 1) (by kernel_rfl) ?_
      refine run_seq (x := F14.c24) (y := F14.c25) (by kernel_rfl) ?_
      refine run_plain (id := 5) (ops := F14.o5) [(0, true), (1, true), (2, false), (3, false), (4, true), (5, false)] (by kernel_rfl) (by kernel_rfl) ?_
      refine yS (by kernel_rfl : opAt F14.o5 0 = some (some 12, .move (.tmp 10), none)) rfl rfl (fun w' hS => val_move rfl) ?_
      refine iS (e := 50) (by kernel_rfl : opAt F14.o5 1 = some (some 13, .indexAddr 23 (.tmp 8) (.tmp 10), none)) rfl rfl hl rfl (by kernel_rfl) rfl (by omega) (by omega) ?_
      intro b13 o13 h13
      try simp only [Int.toNat_natCast] at h13
      refine lNA (by kernel_rfl : opAt F14.o5 2 = some (some 14, .load 50 (.tmp 13), none)) rfl rfl trivial h13 (by kernel_rfl) (by kernel_rfl) rfl rfl ?_
      intro v14 g14
      obtain rfl := rv_bond.1 g14
      refine aS (by kernel_rfl : opAt F14.o5 3 = some (some 4, .alloc 50, none)) rfl rfl (a_alloc (cs := [.int .i64 0, .int .i64 0, .int .i64 0, .int .i64 0, .int .i64 0]) hF 4 (by kernel_rfl)) ?_
      rintro _ w2 ⟨Cw2, bw2, rfl, hs, hx, hF⟩
      refine ⟨trivial, ?_⟩
      replace hT := hT.trans hs (by simp)
      replace hl := hl.st hs (by first | decide | (simp <;> omega))
      replace h13 := h13.st hs (by first | decide | (simp <;> omega))
      refine yS (by kernel_rfl : opAt F14.o5 4 = some (some 3, .assign (.tmp 12), none)) rfl rfl (fun w' hS => val_assign rfl) ?_
      refine aN (by kernel_rfl : opAt F14.o5 5 = some (none, .store 50 (.tmp 4) (.tmp 14), none)) rfl (a_storeAll (vs := encB (l[i]'hil)) (n := 5) rfl rfl (by kernel_rfl) rfl rfl (by intro u hu; simp only [encB, List.mem_cons, List.not_mem_nil, or_false] at hu; rcases hu with rfl | rfl | rfl | rfl | rfl <;> rfl) hx rfl) ?_
      rintro _ w3 ⟨rfl, hs, hx⟩
      refine ⟨trivial, ?_⟩
      replace hF := hF.st hs
      replace hT := hT.trans hs (by simp)
      replace hl := hl.st hs (by first | decide | (simp <;> omega))
      replace h13 := h13.st hs (by first | decide | (simp <;> omega))
      refine Sch.nil ?_
      refine run_block (x := F14.c26) (id := 2) (by kernel_rfl) ?_
      refine run_seq (x := F14.c27) (y := F14.c28) (by kernel_rfl) ?_
      refine run_plain (id := 6) (ops := F14.o6) [(0, true), (1, false), (2, true), (3, false), (4, false), (5, true), (6, true)] (by kernel_rfl) (by kernel_rfl) ?_
      refine yS (by kernel_rfl : opAt F14.o6 0 = some (some 16, .fieldAddr 50 (.tmp 4) 0, none)) rfl rfl (fun w' hS => val_fieldAddr (off := 0) (by kernel_rfl) rfl) ?_
      refine nS (by kernel_rfl : opAt F14.o6 1 = some (some 17, .load 25 (.tmp 16), none)) rfl rfl trivial (val_loadOwnAgg (n := 2) (vs := encR (l[i]'hil).A) hx.at_ (by kernel_rfl) (by kernel_rfl) rfl rfl rfl) ?_
      refine yS (by kernel_rfl : opAt F14.o6 2 = some (some 18, .fieldAddr 50 (.tmp 4) 1, none)) rfl rfl (fun w' hS => val_fieldAddr (off := 2) (by kernel_rfl) rfl) ?_
      refine nS (by kernel_rfl : opAt F14.o6 3 = some (some 19, .load 25 (.tmp 18), none)) rfl rfl trivial (val_loadOwnAgg (n := 2) (vs := encR (l[i]'hil).B) hx.at_ (by kernel_rfl) (by kernel_rfl) rfl rfl rfl) ?_
      refine cS (by kernel_rfl : opAt F14.o6 4 = some (some 20, .call { callee := .value (.func 31), args := #[(.tmp 17), (.tmp 19)], argTypes := #[25, 25] }, none)) rfl rfl (ent Try.call31 rfl) (couple_ok (x := (l[i]'hil).A) (y := (l[i]'hil).B) hF) ?_
      rintro vw4 w4 ⟨rfl, hs⟩
      refine ⟨trivial, ?_⟩
      replace hF := hF.st hs
      replace hT := hT.trans hs (by simp)
      replace hl := hl.st hs (by first | decide | (simp <;> omega))
      replace h13 := h13.st hs (by first | decide | (simp <;> omega))
      replace hx := hx.st hs (by first | decide | (simp <;> omega))
      refine yS (by kernel_rfl : opAt F14.o6 5 = some (some 21, .unOp .not 4 (.tmp 20), none)) rfl rfl (fun w' hS => val_not rfl) ?_
      refine yS (by kernel_rfl : opAt F14.o6 6 = some (some 15, .assign (.tmp 21), none)) rfl rfl (fun w' hS => val_assign rfl) ?_
      refine Sch.nil ?_
      refine run_cond (x := F14.c29) (y := F14.c32) (o := .tmp 15) (by kernel_rfl) rfl (fun h15 => ?_) (fun h15 => ?_)
      · skip
        refine run_seq (x := F14.c30) (y := F14.c31) (by kernel_rfl) ?_
        refine run_plain (id := 7) (ops := F14.o7) [(0, true)] (by kernel_rfl) (by kernel_rfl) ?_
        refine yS (by kernel_rfl : opAt F14.o7 0 = some (some 2, .assign (.const (.int .i64 41)), none)) rfl rfl (fun w' hS => val_assign rfl) ?_
        refine Sch.nil ?_
        refine run_ret1 (by kernel_rfl) Try.func14 Try.results14 rfl ?_
        rw [if_pos (by simpa using h15)] at hE
        exact ⟨by rw [checkS_at hlim hil h0 (by rw [hE]; decide), hE], hT.out1 (by decide)⟩
      · skip
        refine run_seq (x := F14.c33) (y := F14.c34) (by kernel_rfl) ?_
        refine run_cut 22 (decide ((l[i]'hil).w < 1 ∨ 1048576 < (l[i]'hil).w)) (Cw2) ?_ ?_
        · intro hcut
          by_cases hA : (l[i]'hil).w < 1
          · skip
            refine run_plain (id := 8) (ops := F14.o8) [(0, true), (1, false), (2, true), (3, true), (4, true), (5, false), (6, true), (7, true), (8, true)] (by kernel_rfl) (by kernel_rfl) ?_
            refine yS (by kernel_rfl : opAt F14.o8 0 = some (some 23, .fieldAddr 50 (.tmp 4) 2, none)) rfl rfl (fun w' hS => val_fieldAddr (off := 4) (by kernel_rfl) rfl) ?_
            refine nS (by kernel_rfl : opAt F14.o8 1 = some (some 24, .load 3 (.tmp 23), none)) rfl rfl trivial (val_loadOwn hx.at_ (by kernel_rfl) rfl rfl) ?_
            refine yS (by kernel_rfl : opAt F14.o8 2 = some (some 25, .binOp .lss 3 (.tmp 24) (.const (.int .i64 1)) 3, none)) rfl rfl (fun w' hS => val_T (val_lss rfl rfl) hA) ?_
            refine yS (by kernel_rfl : opAt F14.o8 3 = some (some 26, .move (.tmp 25), none)) rfl rfl (fun w' hS => val_move rfl) ?_
            refine pS (by kernel_rfl : opAt F14.o8 4 = some (some 27, .fieldAddr 50 (.tmp 4) 2, (some (3, false)))) rfl rfl ?_
            refine pW (by kernel_rfl : opAt F14.o8 5 = some (some 28, .load 3 (.tmp 27), (some (3, false)))) rfl rfl trivial ?_
            refine pS (by kernel_rfl : opAt F14.o8 6 = some (some 29, .binOp .gtr 3 (.tmp 28) (.const (.int .i64 1048576)) 3, (some (3, false)))) rfl rfl ?_
            refine yS (by kernel_rfl : opAt F14.o8 7 = some (some 30, .pick (.tmp 26) (.const (.bool true)) (.tmp 29), none)) rfl rfl (fun w' hS => val_pick_t rfl rfl) ?_
            refine yS (by kernel_rfl : opAt F14.o8 8 = some (some 22, .assign (.tmp 30), none)) rfl rfl (fun w' hS => val_assign rfl) ?_
            exact Sch.nil (hcut _ _ _ (Stp.refl _ _ _) rfl (by rw [decide_eq_true (Or.inl hA)]) (sub_skip rfl (sub_skip rfl (sub_skip rfl (sub_skip rfl (sub_skip rfl (sub_skip rfl (sub_skip rfl (sub_skip rfl (sub_skip rfl (Sub.refl _)))))))))))
          · skip
            refine run_plain (id := 8) (ops := F14.o8) [(0, true), (1, false), (2, true), (3, true), (4, true), (5, false), (6, true), (7, true), (8, true)] (by kernel_rfl) (by kernel_rfl) ?_
            refine yS (by kernel_rfl : opAt F14.o8 0 = some (some 23, .fieldAddr 50 (.tmp 4) 2, none)) rfl rfl (fun w' hS => val_fieldAddr (off := 4) (by kernel_rfl) rfl) ?_
            refine nS (by kernel_rfl : opAt F14.o8 1 = some (some 24, .load 3 (.tmp 23), none)) rfl rfl trivial (val_loadOwn hx.at_ (by kernel_rfl) rfl rfl) ?_
            refine yS (by kernel_rfl : opAt F14.o8 2 = some (some 25, .binOp .lss 3 (.tmp 24) (.const (.int .i64 1)) 3, none)) rfl rfl (fun w' hS => val_F (val_lss rfl rfl) hA) ?_
            refine yS (by kernel_rfl : opAt F14.o8 3 = some (some 26, .move (.tmp 25), none)) rfl rfl (fun w' hS => val_move rfl) ?_
            refine yS (by kernel_rfl : opAt F14.o8 4 = some (some 27, .fieldAddr 50 (.tmp 4) 2, (some (3, false)))) rfl rfl (fun w' hS => val_fieldAddr (off := 4) (by kernel_rfl) rfl) ?_
            refine nS (by kernel_rfl : opAt F14.o8 5 = some (some 28, .load 3 (.tmp 27), (some (3, false)))) rfl rfl trivial (val_loadOwn hx.at_ (by kernel_rfl) rfl rfl) ?_
            refine yS (by kernel_rfl : opAt F14.o8 6 = some (some 29, .binOp .gtr 3 (.tmp 28) (.const (.int .i64 1048576)) 3, (some (3, false)))) rfl rfl (fun w' hS => val_gtr rfl rfl) ?_
            refine yS (by kernel_rfl : opAt F14.o8 7 = some (some 30, .pick (.tmp 26) (.const (.bool true)) (.tmp 29), none)) rfl rfl (fun w' hS => val_pick_f rfl rfl) ?_
            refine yS (by kernel_rfl : opAt F14.o8 8 = some (some 22, .assign (.tmp 30), none)) rfl rfl (fun w' hS => val_assign rfl) ?_
            exact Sch.nil (hcut _ _ _ (Stp.refl _ _ _) rfl (by congr 1; apply decide_eq_decide.2; omega) (sub_skip rfl (sub_skip rfl (sub_skip rfl (sub_skip rfl (sub_skip rfl (sub_skip rfl (sub_skip rfl (sub_skip rfl (sub_skip rfl (Sub.refl _)))))))))))
        intro w5 hs
        replace hF := hF.st hs
        replace hT := hT.trans hs (by simp)
        replace hl := hl.st hs (by first | decide | (simp <;> omega))
        replace h13 := h13.st hs (by first | decide | (simp <;> omega))
        replace hx := hx.st hs (by first | decide | (simp <;> omega))
        refine run_if (x := F14.c35) (y := F14.c38) (o := .tmp 22) (by kernel_rfl) rfl (fun h22 => ?_) (fun h22 => ?_)
        · skip
          refine run_seq (x := F14.c36) (y := F14.c37) (by kernel_rfl) ?_
          refine run_plain (id := 9) (ops := F14.o9) [(0, true)] (by kernel_rfl) (by kernel_rfl) ?_
          refine yS (by kernel_rfl : opAt F14.o9 0 = some (some 2, .assign (.const (.int .i64 40)), none)) rfl rfl (fun w' hS => val_assign rfl) ?_
          refine Sch.nil ?_
          refine run_ret1 (by kernel_rfl) Try.func14 Try.results14 rfl ?_
          rw [if_neg (by simpa using h15), if_pos h22] at hE
          exact ⟨by rw [checkS_at hlim hil h0 (by rw [hE]; decide), hE], hT.out1 (by decide)⟩
        · skip
          refine run_seq (x := F14.c39) (y := F14.c40) (by kernel_rfl) ?_
          refine run_cut 31 (decide (0 < i ∧ ¬ lt2 (l[i-1]'(by omega)) (l[i]'hil))) (Cw2) ?_ ?_
          · intro hcut
            by_cases hA : (0 : Int) < i
            · skip
              refine run_draw (id := 10) (ops := F14.o10) [] (Cw2) [(0, true), (1, true), (2, true), (3, true), (4, true), (5, true), (6, true), (7, true), (8, true), (9, true), (10, true), (11, true), (12, true), (13, true), (14, true), (15, true), (16, true), (17, true), (18, true), (19, false), (20, true), (21, true), (22, true)] Try_mixed (by kernel_rfl) (by kernel_rfl) (by kernel_rfl) ?_
              intro w6 hs
              replace hF := hF.st hs
              replace hT := hT.trans hs (by simp)
              replace hl := hl.st hs (by first | decide | (simp <;> omega))
              replace h13 := h13.st hs (by first | decide | (simp <;> omega))
              replace hx := hx.st hs (by first | decide | (simp <;> omega))
              have hcs := hs
              have hR := Stp.refl [] w6 (Cw2)
              refine yS (by kernel_rfl : opAt F14.o10 0 = some (some 32, .move (.tmp 3), none)) rfl rfl (fun w' hS => val_move rfl) ?_
              refine yS (by kernel_rfl : opAt F14.o10 1 = some (some 33, .binOp .gtr 3 (.tmp 32) (.const (.int .i64 0)) 3, none)) rfl rfl (fun w' hS => val_T (val_gtr rfl rfl) hA) ?_
              refine yS (by kernel_rfl : opAt F14.o10 2 = some (some 34, .move (.tmp 33), none)) rfl rfl (fun w' hS => val_move rfl) ?_
              refine yS (by kernel_rfl : opAt F14.o10 3 = some (some 35, .move (.tmp 0), (some (2, true)))) rfl rfl (fun w' hS => val_move rfl) ?_
              refine yS (by kernel_rfl : opAt F14.o10 4 = some (some 36, .move (.tmp 3), (some (2, true)))) rfl rfl (fun w' hS => val_move rfl) ?_
              refine yS (by kernel_rfl : opAt F14.o10 5 = some (some 37, .binOp .sub 3 (.tmp 36) (.const (.int .i64 1)) 3, (some (2, true)))) rfl rfl (fun w' hS => val_subi rfl rfl (by omega) (by omega)) ?_
              refine iS (e := 50) (by kernel_rfl : opAt F14.o10 6 = some (some 38, .indexAddr 23 (.tmp 35) (.tmp 37), (some (2, true)))) rfl rfl hl rfl (by kernel_rfl) rfl (by omega) (by omega) ?_
              intro b38 o38 h38
              try simp only [Int.toNat_natCast] at h38
              have h39 := RA.bA h38
              refine yS (by kernel_rfl : opAt F14.o10 7 = some (some 39, .fieldAddr 50 (.tmp 38) 0, (some (2, true)))) rfl rfl (fun w' hS => val_fieldAddr (off := 0) (by kernel_rfl) rfl) ?_
              refine lSA (by kernel_rfl : opAt F14.o10 8 = some (some 40, .load 25 (.tmp 39), (some (2, true)))) rfl rfl (fun w' hS => h39.stay hS (by decide)) h39 (by kernel_rfl) (by kernel_rfl) rfl rfl ?_
              intro v40 g40
              obtain rfl := rv_couple.1 g40
              refine yS (by kernel_rfl : opAt F14.o10 9 = some (some 41, .move (.tmp 0), (some (2, true)))) rfl rfl (fun w' hS => val_move rfl) ?_
              refine yS (by kernel_rfl : opAt F14.o10 10 = some (some 42, .move (.tmp 3), (some (2, true)))) rfl rfl (fun w' hS => val_move rfl) ?_
              refine yS (by kernel_rfl : opAt F14.o10 11 = some (some 43, .binOp .sub 3 (.tmp 42) (.const (.int .i64 1)) 3, (some (2, true)))) rfl rfl (fun w' hS => val_subi rfl rfl (by omega) (by omega)) ?_
              refine iS (e := 50) (by kernel_rfl : opAt F14.o10 12 = some (some 44, .indexAddr 23 (.tmp 41) (.tmp 43), (some (2, true)))) rfl rfl hl rfl (by kernel_rfl) rfl (by omega) (by omega) ?_
              intro b44 o44 h44
              try simp only [Int.toNat_natCast] at h44
              have h45 := RA.bB h44
              refine yS (by kernel_rfl : opAt F14.o10 13 = some (some 45, .fieldAddr 50 (.tmp 44) 1, (some (2, true)))) rfl rfl (fun w' hS => val_fieldAddr (off := 2) (by kernel_rfl) rfl) ?_
              refine lSA (by kernel_rfl : opAt F14.o10 14 = some (some 46, .load 25 (.tmp 45), (some (2, true)))) rfl rfl (fun w' hS => h45.stay hS (by decide)) h45 (by kernel_rfl) (by kernel_rfl) rfl rfl ?_
              intro v46 g46
              obtain rfl := rv_couple.1 g46
              refine yS (by kernel_rfl : opAt F14.o10 15 = some (some 47, .fieldAddr 50 (.tmp 4) 0, (some (2, true)))) rfl rfl (fun w' hS => val_fieldAddr (off := 0) (by kernel_rfl) rfl) ?_
              refine yS (by kernel_rfl : opAt F14.o10 16 = some (some 48, .load 25 (.tmp 47), (some (2, true)))) rfl rfl (fun w' hS => val_loadOwnAgg (n := 2) (vs := encR (l[i]'hil).A) (hx.stay hS (by decide)) (by kernel_rfl) (by kernel_rfl) rfl rfl rfl) ?_
              refine yS (by kernel_rfl : opAt F14.o10 17 = some (some 49, .fieldAddr 50 (.tmp 4) 1, (some (2, true)))) rfl rfl (fun w' hS => val_fieldAddr (off := 2) (by kernel_rfl) rfl) ?_
              refine yS (by kernel_rfl : opAt F14.o10 18 = some (some 50, .load 25 (.tmp 49), (some (2, true)))) rfl rfl (fun w' hS => val_loadOwnAgg (n := 2) (vs := encR (l[i]'hil).B) (hx.stay hS (by decide)) (by kernel_rfl) (by kernel_rfl) rfl rfl rfl) ?_
              refine cS (by kernel_rfl : opAt F14.o10 19 = some (some 51, .call { callee := .value (.func 32), args := #[(.tmp 40), (.tmp 46), (.tmp 48), (.tmp 50)], argTypes := #[25, 25, 25, 25] }, (some (2, true)))) rfl rfl (ent Try.call32 rfl) (couples_ok (c := (l[i]'hil).A) (d := (l[i]'hil).B) hF) ?_
              rintro vw7 w7 ⟨rfl, hs⟩
              refine ⟨(hR.trans hs (by simp)).ext, ?_⟩
              replace hF := hF.st hs
              replace hT := hT.trans hs (by simp)
              replace hl := hl.st hs (by first | decide | (simp <;> omega))
              replace h13 := h13.st hs (by first | decide | (simp <;> omega))
              replace hx := hx.st hs (by first | decide | (simp <;> omega))
              replace hcs := hcs.trans hs (by simp)
              replace hR := hR.trans hs (by simp)
              replace h38 := h38.st hs (by first | decide | (simp <;> omega))
              replace h39 := h39.st hs (by first | decide | (simp <;> omega))
              replace g40 := g40.st hs (by first | decide | (simp <;> omega))
              replace h44 := h44.st hs (by first | decide | (simp <;> omega))
              replace h45 := h45.st hs (by first | decide | (simp <;> omega))
              replace g46 := g46.st hs (by first | decide | (simp <;> omega))
              refine yS (by kernel_rfl : opAt F14.o10 20 = some (some 52, .binOp .geq 3 (.tmp 51) (.const (.int .i64 0)) 3, (some (2, true)))) rfl rfl (fun w' hS => val_geq rfl rfl) ?_
              refine yS (by kernel_rfl : opAt F14.o10 21 = some (some 53, .pick (.tmp 34) (.tmp 52) (.const (.bool false)), none)) rfl rfl (fun w' hS => val_pick_t rfl rfl) ?_
              refine yS (by kernel_rfl : opAt F14.o10 22 = some (some 31, .assign (.tmp 53), none)) rfl rfl (fun w' hS => val_assign rfl) ?_
              exact Sch.nil (hcut _ _ _ hcs rfl (by
  have e1 : ((i : Int) - 1).toNat = i - 1 := by omega
  congr 1; apply decide_eq_decide.2; simp only [e1]; rw [cmp2_ge]; exact ⟨fun h => ⟨by omega, h⟩, fun h => h.2⟩) (sub_skip rfl (sub_skip rfl (sub_skip rfl (sub_skip rfl (sub_skip rfl (sub_skip rfl (sub_skip rfl (sub_skip rfl (sub_skip rfl (sub_skip rfl (sub_skip rfl (sub_skip rfl (sub_skip rfl (sub_skip rfl (sub_skip rfl (sub_skip rfl (sub_skip rfl (sub_skip rfl (sub_skip rfl (sub_skip rfl (sub_skip rfl (sub_skip rfl (sub_skip rfl (Sub.refl _)))))))))))))))))))))))))
            · skip
              refine run_draw (id := 10) (ops := F14.o10) [] (Cw2) [(0, true), (1, true), (2, true), (3, true), (4, true), (5, true), (6, true), (7, true), (8, true), (9, true), (10, true), (11, true), (12, true), (13, true), (14, true), (15, true), (16, true), (17, true), (18, true), (19, false), (20, true), (21, true), (22, true)] Try_mixed (by kernel_rfl) (by kernel_rfl) (by kernel_rfl) ?_
              intro w8 hs
              replace hF := hF.st hs
              replace hT := hT.trans hs (by simp)
              replace hl := hl.st hs (by first | decide | (simp <;> omega))
              replace h13 := h13.st hs (by first | decide | (simp <;> omega))
              replace hx := hx.st hs (by first | decide | (simp <;> omega))
              have hcs := hs
              have hR := Stp.refl [] w8 (Cw2)
              refine yS (by kernel_rfl : opAt F14.o10 0 = some (some 32, .move (.tmp 3), none)) rfl rfl (fun w' hS => val_move rfl) ?_
              refine yS (by kernel_rfl : opAt F14.o10 1 = some (some 33, .binOp .gtr 3 (.tmp 32) (.const (.int .i64 0)) 3, none)) rfl rfl (fun w' hS => val_F (val_gtr rfl rfl) hA) ?_
              refine yS (by kernel_rfl : opAt F14.o10 2 = some (some 34, .move (.tmp 33), none)) rfl rfl (fun w' hS => val_move rfl) ?_
              refine pS (by kernel_rfl : opAt F14.o10 3 = some (some 35, .move (.tmp 0), (some (2, true)))) rfl rfl ?_
              refine pS (by kernel_rfl : opAt F14.o10 4 = some (some 36, .move (.tmp 3), (some (2, true)))) rfl rfl ?_
              refine pS (by kernel_rfl : opAt F14.o10 5 = some (some 37, .binOp .sub 3 (.tmp 36) (.const (.int .i64 1)) 3, (some (2, true)))) rfl rfl ?_
              refine pS (by kernel_rfl : opAt F14.o10 6 = some (some 38, .indexAddr 23 (.tmp 35) (.tmp 37), (some (2, true)))) rfl rfl ?_
              refine pS (by kernel_rfl : opAt F14.o10 7 = some (some 39, .fieldAddr 50 (.tmp 38) 0, (some (2, true)))) rfl rfl ?_
              refine pS (by kernel_rfl : opAt F14.o10 8 = some (some 40, .load 25 (.tmp 39), (some (2, true)))) rfl rfl ?_
              refine pS (by kernel_rfl : opAt F14.o10 9 = some (some 41, .move (.tmp 0), (some (2, true)))) rfl rfl ?_
              refine pS (by kernel_rfl : opAt F14.o10 10 = some (some 42, .move (.tmp 3), (some (2, true)))) rfl rfl ?_
              refine pS (by kernel_rfl : opAt F14.o10 11 = some (some 43, .binOp .sub 3 (.tmp 42) (.const (.int .i64 1)) 3, (some (2, true)))) rfl rfl ?_
              refine pS (by kernel_rfl : opAt F14.o10 12 = some (some 44, .indexAddr 23 (.tmp 41) (.tmp 43), (some (2, true)))) rfl rfl ?_
              refine pS (by kernel_rfl : opAt F14.o10 13 = some (some 45, .fieldAddr 50 (.tmp 44) 1, (some (2, true)))) rfl rfl ?_
              refine pS (by kernel_rfl : opAt F14.o10 14 = some (some 46, .load 25 (.tmp 45), (some (2, true)))) rfl rfl ?_
              refine pS (by kernel_rfl : opAt F14.o10 15 = some (some 47, .fieldAddr 50 (.tmp 4) 0, (some (2, true)))) rfl rfl ?_
              refine pS (by kernel_rfl : opAt F14.o10 16 = some (some 48, .load 25 (.tmp 47), (some (2, true)))) rfl rfl ?_
              refine pS (by kernel_rfl : opAt F14.o10 17 = some (some 49, .fieldAddr 50 (.tmp 4) 1, (some (2, true)))) rfl rfl ?_
              refine pS (by kernel_rfl : opAt F14.o10 18 = some (some 50, .load 25 (.tmp 49), (some (2, true)))) rfl rfl ?_
              refine pW (by kernel_rfl : opAt F14.o10 19 = some (some 51, .call { callee := .value (.func 32), args := #[(.tmp 40), (.tmp 46), (.tmp 48), (.tmp 50)], argTypes := #[25, 25, 25, 25] }, (some (2, true)))) rfl rfl hR.ext ?_
              refine pS (by kernel_rfl : opAt F14.o10 20 = some (some 52, .binOp .geq 3 (.tmp 51) (.const (.int .i64 0)) 3, (some (2, true)))) rfl rfl ?_
              refine yS (by kernel_rfl : opAt F14.o10 21 = some (some 53, .pick (.tmp 34) (.tmp 52) (.const (.bool false)), none)) rfl rfl (fun w' hS => val_pick_f rfl rfl) ?_
              refine yS (by kernel_rfl : opAt F14.o10 22 = some (some 31, .assign (.tmp 53), none)) rfl rfl (fun w' hS => val_assign rfl) ?_
              exact Sch.nil (hcut _ _ _ hcs rfl (by rw [decide_eq_false (fun e => hA (by omega))]) (sub_skip rfl (sub_skip rfl (sub_skip rfl (sub_skip rfl (sub_skip rfl (sub_skip rfl (sub_skip rfl (sub_skip rfl (sub_skip rfl (sub_skip rfl (sub_skip rfl (sub_skip rfl (sub_skip rfl (sub_skip rfl (sub_skip rfl (sub_skip rfl (sub_skip rfl (sub_skip rfl (sub_skip rfl (sub_skip rfl (sub_skip rfl (sub_skip rfl (sub_skip rfl (Sub.refl _)))))))))))))))))))))))))
          intro w9 hs
          replace hF := hF.st hs
          replace hT := hT.trans hs (by simp)
          replace hl := hl.st hs (by first | decide | (simp <;> omega))
          replace h13 := h13.st hs (by first | decide | (simp <;> omega))
          replace hx := hx.st hs (by first | decide | (simp <;> omega))
          refine run_if (x := F14.c41) (y := F14.c44) (o := .tmp 31) (by kernel_rfl) rfl (fun h31 => ?_) (fun h31 => ?_)
          · skip
            refine run_seq (x := F14.c42) (y := F14.c43) (by kernel_rfl) ?_
            refine run_plain (id := 11) (ops := F14.o11) [(0, true)] (by kernel_rfl) (by kernel_rfl) ?_
            refine yS (by kernel_rfl : opAt F14.o11 0 = some (some 2, .assign (.const (.int .i64 12)), none)) rfl rfl (fun w' hS => val_assign rfl) ?_
            refine Sch.nil ?_
            refine run_ret1 (by kernel_rfl) Try.func14 Try.results14 rfl ?_
            rw [if_neg (by simpa using h15), if_neg h22, if_pos h31] at hE
            exact ⟨by rw [checkS_at hlim hil h0 (by rw [hE]; decide), hE], hT.out1 (by decide)⟩
          · skip
            refine run_skip (by kernel_rfl) ?_
            refine run_inBlock ?_
            refine run_inBlock ?_
            refine run_plain (id := 12) (ops := F14.o12) [(0, true), (1, true)] (by kernel_rfl) (by kernel_rfl) ?_
            refine yS (by kernel_rfl : opAt F14.o12 0 = some (some 54, .binOp .add 3 (.tmp 10) (.const (.int .i64 1)) 3, none)) rfl rfl (fun w' hS => val_addi rfl rfl (by omega) (by omega)) ?_
            refine yS (by kernel_rfl : opAt F14.o12 1 = some (some 10, .move (.tmp 54), none)) rfl rfl (fun w' hS => val_move rfl) ?_
            refine Sch.nil ?_
            refine kp (sub_cons 0 rfl rfl (sub_cons 8 rfl rfl (sub_cons 9 rfl rfl (sub_cons 10 rfl (eq_int (by simp)) (sub_nil _))))) (next1 (i + 1, Cw2) _ ⟨(by first | omega | (simp only; omega)), (fun k hk => by
                simp only at hk
                by_cases e : k = i
                · subst e; rw [hE, if_neg (by simpa using h15), if_neg h22, if_neg h31]
                · exact h0 k (by omega)), hF, hT, hl⟩ (by first | omega | (simp only; omega)))
    · skip
      have hil : i = l.length := by omega
      refine run_exit (id := 0) (by kernel_rfl) rfl ?_
      refine run_seq (x := F14.c47) (y := F14.c48) (by kernel_rfl) ?_
      refine run_plain (id := 13) (ops := F14.o13) [(0, true)] (by kernel_rfl) (by kernel_rfl) ?_
      refine yS (by kernel_rfl : opAt F14.o13 0 = some (some 2, .assign (.const (.int .i64 0)), none)) rfl rfl (fun w' hS => val_assign rfl) ?_
      refine Sch.nil ?_
      refine run_ret1 (by kernel_rfl) Try.func14 Try.results14 rfl ?_
      subst hil
      exact ⟨by rw [checkS_ok hlim h0], hT.out1 (by decide)⟩
end Go.Proofs.Ytfmdkdfhnkennaa

