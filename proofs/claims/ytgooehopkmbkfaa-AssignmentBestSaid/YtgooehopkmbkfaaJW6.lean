/- Steps through functions of the program. -/
import Derived.Test.YtgooehopkmbkfaaJW5
import Derived.Test.YtgooehopkmbkfaaL2
set_option linter.unusedVariables false
set_option linter.unusedSimpArgs false
set_option maxRecDepth 100000
set_option maxHeartbeats 4000000
namespace Go.Proofs.Ytgooehopkmbkfaa
open Go.K Go.K.Rep

namespace F5
noncomputable def c0 : Code := bodyOf Try.f5
noncomputable def c1 : Code := cl c0
noncomputable def o0 : Array Oper := rops c1
noncomputable def c2 : Code := cr c0
noncomputable def c3 : Code := cl c2
noncomputable def c4 : Code := cl c3
noncomputable def o1 : Array Oper := rops c4
noncomputable def c5 : Code := cr c3
noncomputable def c6 : Code := cl c5
noncomputable def c7 : Code := cl c6
noncomputable def o2 : Array Oper := rops c7
noncomputable def c8 : Code := cr c6
noncomputable def c9 : Code := cr c5
noncomputable def c10 : Code := cr c2
noncomputable def c11 : Code := cl c10
noncomputable def o3 : Array Oper := rops c11
noncomputable def c12 : Code := cr c10
noncomputable def c13 : Code := cl c12
noncomputable def o4 : Array Oper := rops c13
noncomputable def c14 : Code := cr c12
noncomputable def c15 : Code := cl c14
noncomputable def o5 : Array Oper := rops c15
noncomputable def c16 : Code := cr c14
noncomputable def c17 : Code := cl c16
noncomputable def c18 : Code := cl c17
noncomputable def o6 : Array Oper := rops c18
noncomputable def c19 : Code := cr c17
noncomputable def c20 : Code := cl c19
noncomputable def o7 : Array Oper := rops c20
noncomputable def c21 : Code := cr c19
noncomputable def c22 : Code := cr c16
noncomputable def c23 : Code := cl c22
noncomputable def o8 : Array Oper := rops c23
noncomputable def c24 : Code := cr c22
noncomputable def c25 : Code := cl c24
noncomputable def o9 : Array Oper := rops c25
noncomputable def c26 : Code := cr c24
noncomputable def c27 : Code := cl c26
noncomputable def o10 : Array Oper := rops c27
noncomputable def c28 : Code := cr c26
noncomputable def c29 : Code := cl c28
noncomputable def o11 : Array Oper := rops c29
noncomputable def c30 : Code := cr c28
noncomputable def c31 : Code := cl c30
noncomputable def o12 : Array Oper := rops c31
noncomputable def c32 : Code := cr c30
end F5
/-- No choice of edges weighs more, and none that weighs as much comes earlier. -/
theorem assignmentBest_ok {w₀ : World} {C : Nat → Nat} {l : List Int} {vl : Value} (hF : Lim w₀ C) (hl : RV w₀ (Mc C) l vl) : Calls Try.prog 5 #[vl] w₀ (Ret fun v w' => v = .bool true ∧ Stp [] w₀ C w' C) := by
  have hF0 := hF
  have hT := Stp.refl [2, 3, 4, 5, 6, 7, 8, 9] w₀ (col1 C)
  replace hF := hF.col1
  replace hl : RV w₀ (Mc (col1 C)) l vl := by rw [Mc_col1]; exact hl
  refine calls_start (c := F5.c0) (N := 63) [vl] Try.func5 (by kernel_rfl) (by kernel_rfl) (by kernel_rfl) ?_
  show Run _ _ _ _ [(0, vl)] _ _
  refine run_seq (x := F5.c1) (y := F5.c2) (by kernel_rfl) ?_
  refine run_plain (id := 0) (ops := F5.o0) [(0, true)] (by kernel_rfl) (by kernel_rfl) ?_
  refine yS (by kernel_rfl : opAt F5.o0 0 = some (some 2, .assign (.const (.bool false)), none)) rfl rfl (fun w' hS => val_assign rfl) ?_
  refine Sch.nil ?_
  refine run_seq (x := F5.c3) (y := F5.c10) (by kernel_rfl) ?_
  refine run_seq (x := F5.c4) (y := F5.c5) (by kernel_rfl) ?_
  refine run_plain (id := 1) (ops := F5.o1) [(0, false), (1, true), (2, true), (3, true), (4, false), (5, true), (6, true)] (by kernel_rfl) (by kernel_rfl) ?_
  refine cS (by kernel_rfl : opAt F5.o1 0 = some (some 12, .call { callee := .value (.func 10), args := #[], argTypes := #[] }, none)) rfl rfl (ent Try.call10 rfl) (awake_ok hF) ?_
  rintro vw1 w1 ⟨rfl, hs⟩
  refine ⟨trivial, ?_⟩
  replace hF := hF.st hs
  replace hT := hT.trans hs (by simp)
  replace hl := hl.st hs (by first | decide | (simp <;> omega))
  refine yS (by kernel_rfl : opAt F5.o1 1 = some (some 13, .unOp .not 4 (.tmp 12), none)) rfl rfl (fun w' hS => val_not rfl) ?_
  refine yS (by kernel_rfl : opAt F5.o1 2 = some (some 14, .move (.tmp 13), none)) rfl rfl (fun w' hS => val_move rfl) ?_
  refine yS (by kernel_rfl : opAt F5.o1 3 = some (some 15, .move (.tmp 0), (some (2, false)))) rfl rfl (fun w' hS => val_move rfl) ?_
  refine cS (by kernel_rfl : opAt F5.o1 4 = some (some 16, .call { callee := .value (.func 11), args := #[(.tmp 15)], argTypes := #[22] }, (some (2, false)))) rfl rfl (ent Try.call11 rfl) (few_any hl) ?_
  rintro vw2 w2 ⟨rfl, rfl⟩
  refine ⟨trivial, ?_⟩
  refine yS (by kernel_rfl : opAt F5.o1 5 = some (some 17, .unOp .not 4 (.tmp 16), (some (2, false)))) rfl rfl (fun w' hS => val_notd rfl) ?_
  refine yS (by kernel_rfl : opAt F5.o1 6 = some (some 18, .pick (.tmp 14) (.const (.bool true)) (.tmp 17), none)) rfl rfl (fun w' hS => val_pick_f rfl rfl) ?_
  refine Sch.nil ?_
  refine run_if (x := F5.c6) (y := F5.c9) (o := .tmp 18) (by kernel_rfl) rfl (fun h18 => ?_) (fun h18 => ?_)
  · skip
    refine run_seq (x := F5.c7) (y := F5.c8) (by kernel_rfl) ?_
    refine run_plain (id := 2) (ops := F5.o2) [(0, false), (1, true)] (by kernel_rfl) (by kernel_rfl) ?_
    refine cS (by kernel_rfl : opAt F5.o2 0 = some (some 19, .call { callee := .value (.func 10), args := #[], argTypes := #[] }, none)) rfl rfl (ent Try.call10 rfl) (awake_ok hF) ?_
    rintro vw3 w3 ⟨rfl, hs⟩
    refine ⟨trivial, ?_⟩
    replace hF := hF.st hs
    replace hT := hT.trans hs (by simp)
    replace hl := hl.st hs (by first | decide | (simp <;> omega))
    refine yS (by kernel_rfl : opAt F5.o2 1 = some (some 2, .assign (.tmp 19), none)) rfl rfl (fun w' hS => val_assign rfl) ?_
    refine Sch.nil ?_
    refine run_ret1 (by kernel_rfl) Try.func5 Try.results5 rfl ?_
    exact ⟨rfl, hT.out1 (by decide)⟩
  · skip
    refine run_skip (by kernel_rfl) ?_
    refine run_seq (x := F5.c11) (y := F5.c12) (by kernel_rfl) ?_
    refine run_plain (id := 3) (ops := F5.o3) [(0, true), (1, false), (2, true)] (by kernel_rfl) (by kernel_rfl) ?_
    refine yS (by kernel_rfl : opAt F5.o3 0 = some (some 20, .move (.tmp 0), none)) rfl rfl (fun w' hS => val_move rfl) ?_
    refine cS (by kernel_rfl : opAt F5.o3 1 = some (some 21, .call { callee := .value (.func 12), args := #[(.tmp 20)], argTypes := #[22] }, none)) rfl rfl (ent Try.call12 rfl) (new_any hF hl) ?_
    rintro vw4 w4 ⟨Cd, bd, rfl, hs, hF, hd⟩
    refine ⟨trivial, ?_⟩
    replace hT := hT.trans hs (by simp)
    replace hl := hl.st hs (by first | decide | (simp <;> omega))
    refine yS (by kernel_rfl : opAt F5.o3 2 = some (some 3, .assign (.tmp 21), none)) rfl rfl (fun w' hS => val_assign rfl) ?_
    refine Sch.nil ?_
    refine run_seq (x := F5.c13) (y := F5.c14) (by kernel_rfl) ?_
    refine run_plain (id := 4) (ops := F5.o4) [(0, true), (1, false), (2, true), (3, true), (4, false), (5, true), (6, true), (7, true)] (by kernel_rfl) (by kernel_rfl) ?_
    refine yS (by kernel_rfl : opAt F5.o4 0 = some (some 22, .move (.tmp 3), none)) rfl rfl (fun w' hS => val_move rfl) ?_
    refine cS (by kernel_rfl : opAt F5.o4 1 = some (some 23, .call { callee := .value (.func 13), args := #[(.tmp 22), (.const (.int .i64 4))], argTypes := #[27, 3] }, none)) rfl rfl (ent Try.call13 rfl) (next_any (n := 4) hF (by decide) hd (by omega) (by omega)) ?_
    rintro vw5 w5 ⟨p, rfl, hp, hs, hd⟩
    refine ⟨trivial, ?_⟩
    replace hF := hF.st hs
    replace hT := hT.trans hs (by simp)
    replace hl := hl.st hs (by first | decide | (simp <;> omega))
    refine yS (by kernel_rfl : opAt F5.o4 2 = some (some 24, .binOp .add 3 (.const (.int .i64 1)) (.tmp 23) 3, none)) rfl rfl (fun w' hS => val_addi rfl rfl (by omega) (by omega)) ?_
    obtain ⟨n, hnd⟩ : ∃ x : Nat, x = p + 1 := ⟨_, rfl⟩
    rw [show (1 : Int) + (p : Int) = ((n : Nat) : Int) from by omega]
    refine yS (by kernel_rfl : opAt F5.o4 3 = some (some 25, .move (.tmp 3), none)) rfl rfl (fun w' hS => val_move rfl) ?_
    refine cS (by kernel_rfl : opAt F5.o4 4 = some (some 26, .call { callee := .value (.func 13), args := #[(.tmp 25), (.const (.int .i64 4))], argTypes := #[27, 3] }, none)) rfl rfl (ent Try.call13 rfl) (next_any (n := 4) hF (by decide) hd (by omega) (by omega)) ?_
    rintro vw6 w6 ⟨q, rfl, hq, hs, hd⟩
    refine ⟨trivial, ?_⟩
    replace hF := hF.st hs
    replace hT := hT.trans hs (by simp)
    replace hl := hl.st hs (by first | decide | (simp <;> omega))
    refine yS (by kernel_rfl : opAt F5.o4 5 = some (some 27, .binOp .add 3 (.const (.int .i64 1)) (.tmp 26) 3, none)) rfl rfl (fun w' hS => val_addi rfl rfl (by omega) (by omega)) ?_
    obtain ⟨m, hmd⟩ : ∃ x : Nat, x = q + 1 := ⟨_, rfl⟩
    rw [show (1 : Int) + (q : Int) = ((m : Nat) : Int) from by omega]
    refine yS (by kernel_rfl : opAt F5.o4 6 = some (some 4, .assign (.tmp 24), none)) rfl rfl (fun w' hS => val_assign rfl) ?_
    refine yS (by kernel_rfl : opAt F5.o4 7 = some (some 5, .assign (.tmp 27), none)) rfl rfl (fun w' hS => val_assign rfl) ?_
    refine Sch.nil ?_
    refine run_seq (x := F5.c15) (y := F5.c16) (by kernel_rfl) ?_
    refine run_plain (id := 5) (ops := F5.o5) [(0, true), (1, true), (2, true), (3, false), (4, true)] (by kernel_rfl) (by kernel_rfl) ?_
    refine yS (by kernel_rfl : opAt F5.o5 0 = some (some 28, .move (.tmp 3), none)) rfl rfl (fun w' hS => val_move rfl) ?_
    refine yS (by kernel_rfl : opAt F5.o5 1 = some (some 29, .move (.tmp 4), none)) rfl rfl (fun w' hS => val_move rfl) ?_
    refine yS (by kernel_rfl : opAt F5.o5 2 = some (some 30, .move (.tmp 5), none)) rfl rfl (fun w' hS => val_move rfl) ?_
    refine cS (by kernel_rfl : opAt F5.o5 3 = some (some 31, .call { callee := .value (.func 14), args := #[(.tmp 28), (.tmp 29), (.tmp 30), (.const (.int .i64 2))], argTypes := #[27, 3, 3, 3] }, none)) rfl rfl (ent Try.call14 rfl) (edges_any (n := n) (m := m) (one := 2) hF (by decide) hd (by omega) (by omega) (by decide) (by decide)) ?_
    rintro v_el w7 ⟨el, hE, ⟨hs, he, hd⟩, _⟩
    have hEV := hE.ve (by omega) (by omega)
    have hEc := hEV.check
    refine ⟨trivial, ?_⟩
    replace hF := hF.st hs
    replace hT := hT.trans hs (by simp)
    replace hl := hl.st hs (by first | decide | (simp <;> omega))
    refine yS (by kernel_rfl : opAt F5.o5 4 = some (some 6, .assign (.tmp 31), none)) rfl rfl (fun w' hS => val_assign rfl) ?_
    refine Sch.nil ?_
    have hel := hE.len
    clear hd
    refine run_seq (x := F5.c17) (y := F5.c22) (by kernel_rfl) ?_
    refine run_seq (x := F5.c18) (y := F5.c19) (by kernel_rfl) ?_
    refine run_plain (id := 6) (ops := F5.o6) [(0, true), (1, true), (2, true)] (by kernel_rfl) (by kernel_rfl) ?_
    refine yS (by kernel_rfl : opAt F5.o6 0 = some (some 32, .move (.tmp 6), none)) rfl rfl (fun w' hS => val_move rfl) ?_
    refine yS (by kernel_rfl : opAt F5.o6 1 = some (some 33, .call { callee := .builtin .len, args := #[(.tmp 32)], argTypes := #[23] }, none)) rfl rfl (fun w' hS => he.lenV rfl Try.underlying23 w' ) ?_
    refine yS (by kernel_rfl : opAt F5.o6 2 = some (some 34, .binOp .gtr 3 (.tmp 33) (.const (.int .i64 9)) 3, none)) rfl rfl (fun w' hS => val_gtr rfl rfl) ?_
    refine Sch.nil ?_
    refine run_if (x := F5.c20) (y := F5.c21) (o := .tmp 34) (by kernel_rfl) rfl (fun h34 => ?_) (fun h34 => ?_)
    · skip
      refine run_plain (id := 7) (ops := F5.o7) [(0, true), (1, true), (2, true)] (by kernel_rfl) (by kernel_rfl) ?_
      refine yS (by kernel_rfl : opAt F5.o7 0 = some (some 35, .move (.tmp 6), none)) rfl rfl (fun w' hS => val_move rfl) ?_
      refine sTR (e' := 46) (by kernel_rfl : opAt F5.o7 1 = some (some 36, .slice 23 (.tmp 35) none (some (.const (.int .i64 9))) none, none)) rfl rfl he rfl (by kernel_rfl) rfl (by omega) (by omega) ?_
      intro v36 h36
      try simp only [Int.toNat_natCast] at h36
      refine yS (by kernel_rfl : opAt F5.o7 2 = some (some 6, .assign (.tmp 36), none)) rfl rfl (fun w' hS => val_assign rfl) ?_
      refine Sch.nil ?_
      rw [show (9 : Int).toNat = 9 from rfl] at h36
      clear he
      obtain ⟨ml, hml⟩ : ∃ x, x = el.take 9 := ⟨_, rfl⟩
      rw [← hml] at h36
      have hMV : VE n m ml := by rw [hml]; exact hEV.sub (List.take_sublist _ _)
      have hMc := hMV.check
      have hme := h36
      clear h36
      refine run_seq (x := F5.c23) (y := F5.c24) (by kernel_rfl) ?_
      refine run_plain (id := 8) (ops := F5.o8) [(0, false)] (by kernel_rfl) (by kernel_rfl) ?_
      refine aS (by kernel_rfl : opAt F5.o8 0 = some (some 7, .alloc 24, none)) rfl rfl (a_alloc (cs := [.slice none 0 0]) hF 5 (by kernel_rfl)) ?_
      rintro _ w8 ⟨Cw8, bw8, rfl, hs, hbb, hF⟩
      refine ⟨trivial, ?_⟩
      replace hT := hT.trans hs (by simp)
      replace hl := hl.st hs (by first | decide | (simp <;> omega))
      replace hme := hme.st hs (by first | decide | (simp <;> omega))
      refine Sch.nil ?_
      refine run_seq (x := F5.c25) (y := F5.c26) (by kernel_rfl) ?_
      refine run_plain (id := 9) (ops := F5.o9) [(0, false), (1, false)] (by kernel_rfl) (by kernel_rfl) ?_
      refine aS (by kernel_rfl : opAt F5.o9 0 = some (some 8, .alloc 3, none)) rfl rfl (a_alloc (cs := [.int .i64 0]) hF 6 (by kernel_rfl)) ?_
      rintro _ w9 ⟨Cw9, bw9, rfl, hs, hbm, hF⟩
      refine ⟨trivial, ?_⟩
      replace hT := hT.trans hs (by simp)
      replace hl := hl.st hs (by first | decide | (simp <;> omega))
      replace hme := hme.st hs (by first | decide | (simp <;> omega))
      replace hbb := hbb.st hs (by first | decide | (simp <;> omega))
      refine aN (by kernel_rfl : opAt F5.o9 1 = some (none, .store 3 (.tmp 8) (.const (.int .i64 (-1))), none)) rfl (a_store1 rfl rfl (by kernel_rfl) rfl rfl hbm (by simp)) ?_
      rintro _ w10 ⟨rfl, hs, hbm⟩
      refine ⟨trivial, ?_⟩
      replace hF := hF.st hs
      replace hT := hT.trans hs (by simp)
      replace hl := hl.st hs (by first | decide | (simp <;> omega))
      replace hme := hme.st hs (by first | decide | (simp <;> omega))
      replace hbb := hbb.st hs (by first | decide | (simp <;> omega))
      refine Sch.nil ?_
      refine run_seq (x := F5.c27) (y := F5.c28) (by kernel_rfl) ?_
      refine run_many (id := 10) (ops := F5.o10) (C := Cw9) [0, 1, 3] [⟨2, 39, .makeSlice 48 (.tmp 38) (.tmp 38), fun v w C => OwnL w C 3 4 v (List.replicate (n) false)⟩, ⟨4, 41, .makeSlice 48 (.tmp 40) (.tmp 40), fun v w C => OwnL w C 4 4 v (List.replicate (m) false)⟩] [(5, false)] Try_mixed (by kernel_rfl) (by kernel_rfl) (by kernel_rfl) hF ?_
      refine ⟨_, _, _, (by kernel_rfl : opAt F5.o10 0 = some (some 37, .move (.tmp 6), none)), rfl, fun w' => val_move rfl, ?_⟩
      refine ⟨_, _, _, (by kernel_rfl : opAt F5.o10 1 = some (some 38, .move (.tmp 4), none)), rfl, fun w' => val_move rfl, ?_⟩
      refine ⟨_, _, _, (by kernel_rfl : opAt F5.o10 3 = some (some 40, .move (.tmp 5), none)), rfl, fun w' => val_move rfl, ?_⟩
      refine ⟨?_, (by show List.Nodup [2, 4]; decide), (by show List.Nodup [39, 41]; decide), ?_⟩
      · intro m hm
        simp only [List.mem_cons, List.not_mem_nil, or_false] at hm
        rcases hm with rfl | rfl
        · exact ⟨by kernel_rfl, rfl, rfl, fun w1 C1 hs1 hF1 => a_make (e := 4) (bytes := 1) (x0 := false) (zs := [.bool false]) hF1 (j := 3) (by decide) (by kernel_rfl) (by kernel_rfl) rfl rfl (by omega) (by omega) (by omega) (fun h M => rfl), fun v w1 C1 w2 C2 h hs => h.st hs (by decide) (by decide)⟩
        · exact ⟨by kernel_rfl, rfl, rfl, fun w1 C1 hs1 hF1 => a_make (e := 4) (bytes := 1) (x0 := false) (zs := [.bool false]) hF1 (j := 4) (by decide) (by kernel_rfl) (by kernel_rfl) rfl rfl (by omega) (by omega) (by omega) (fun h M => rfl), fun v w1 C1 w2 C2 h hs => h.st hs (by decide) (by decide)⟩
      intro val w11 Cw11 hs hF hM
      obtain ⟨hr, hk, _⟩ := hM
      replace hT := hT.trans hs (by simp)
      replace hl := hl.st hs (by first | decide | (simp <;> omega))
      replace hme := hme.st hs (by first | decide | (simp <;> omega))
      replace hbb := hbb.st hs (by first | decide | (simp <;> omega))
      replace hbm := hbm.st hs (by first | decide | (simp <;> omega))
      replace hr : OwnL w11 Cw11 3 4 (val 2) (List.replicate (n) false) := hr
      replace hk : OwnL w11 Cw11 4 4 (val 4) (List.replicate (m) false) := hk
      show Sch _ _ _ _ _ _ _ [(5, false)] ((39, val 2) :: (41, val 4) :: _) _
      refine cS (by kernel_rfl : opAt F5.o10 5 = some (some 42, .call { callee := .value (.func 26), args := #[(.tmp 37), (.const (.int .i64 0)), (.tmp 39), (.tmp 41), (.const (.slice none 0 0)), (.const (.int .i64 0)), (.tmp 7), (.tmp 8)], argTypes := #[23, 3, 48, 48, 24, 3, 49, 50] }, none)) rfl rfl (ent Try.call26 rfl) (every_ok (N := n) (M := m) (i := 0) (cs := []) (t := 0) (b := ([], -1)) (vc := .slice none 0 0) (vb := .slice none 0 0) hMV hF hme hr hk rv_nil rv_nil hbb hbm (Nat.zero_le _) (Nat.le_refl _) (fun _ => rfl) List.length_replicate List.length_replicate (Int.le_refl 0) (by decide)) ?_
      rintro vw12 w12 ⟨B, vb, hB, rfl, hs, hr, hk, hb, hbb, hbm⟩
      refine ⟨trivial, ?_⟩
      replace hF := hF.st hs
      replace hT := hT.trans hs (by simp)
      replace hl := hl.st hs (by first | decide | (simp <;> omega))
      replace hme := hme.st hs (by first | decide | (simp <;> omega))
      rw [List.drop_zero, evS_sol hMV] at hB
      refine Sch.nil ?_
      refine run_seq (x := F5.c29) (y := F5.c30) (by kernel_rfl) ?_
      refine run_plain (id := 11) (ops := F5.o11) [(0, true), (1, true), (2, true), (3, false), (4, true), (5, true), (6, true), (7, true), (8, true), (9, true), (10, true)] (by kernel_rfl) (by kernel_rfl) ?_
      refine yS (by kernel_rfl : opAt F5.o11 0 = some (some 44, .move (.tmp 4), none)) rfl rfl (fun w' hS => val_move rfl) ?_
      refine yS (by kernel_rfl : opAt F5.o11 1 = some (some 45, .move (.tmp 5), none)) rfl rfl (fun w' hS => val_move rfl) ?_
      refine yS (by kernel_rfl : opAt F5.o11 2 = some (some 46, .move (.tmp 6), none)) rfl rfl (fun w' hS => val_move rfl) ?_
      refine cS (by kernel_rfl : opAt F5.o11 3 = some (some 47, .call { callee := .value (.func 19), args := #[(.tmp 44), (.tmp 45), (.tmp 46)], argTypes := #[3, 3, 23] }, none)) rfl rfl (ent Try.call19 rfl) (solve_ok (n := n) (m := m) (l := ml) hF hme) ?_
      rintro vw13 w13 ⟨u1, rfl, hs, hc1⟩
      refine ⟨trivial, ?_⟩
      replace hF := hF.st hs
      replace hT := hT.trans hs (by simp)
      replace hl := hl.st hs (by first | decide | (simp <;> omega))
      replace hme := hme.st hs (by first | decide | (simp <;> omega))
      replace hbb := hbb.st hs (by first | decide | (simp <;> omega))
      replace hbm := hbm.st hs (by first | decide | (simp <;> omega))
      replace hr := hr.st hs (by first | decide | (simp <;> omega)) (by first | decide | (simp <;> omega))
      replace hk := hk.st hs (by first | decide | (simp <;> omega)) (by first | decide | (simp <;> omega))
      replace hb := hb.st hs (by first | decide | (simp <;> omega))
      rw [hMc]
      refine yS (by kernel_rfl : opAt F5.o11 4 = some (some 43, .move (.tmp 47), none)) rfl rfl (fun w' hS => val_move rfl) ?_
      refine yS (by kernel_rfl : opAt F5.o11 5 = some (some 48, .extract (.tmp 43) 0, none)) rfl rfl (fun w' hS => val_extract rfl rfl) ?_
      refine yS (by kernel_rfl : opAt F5.o11 6 = some (some 49, .extract (.tmp 43) 1, none)) rfl rfl (fun w' hS => val_extract rfl rfl) ?_
      refine yS (by kernel_rfl : opAt F5.o11 7 = some (some 50, .extract (.tmp 43) 2, none)) rfl rfl (fun w' hS => val_extract rfl rfl) ?_
      refine yS (by kernel_rfl : opAt F5.o11 8 = some (some 9, .assign (.tmp 48), none)) rfl rfl (fun w' hS => val_assign rfl) ?_
      refine yS (by kernel_rfl : opAt F5.o11 9 = some (some 10, .assign (.tmp 49), none)) rfl rfl (fun w' hS => val_assign rfl) ?_
      refine yS (by kernel_rfl : opAt F5.o11 10 = some (some 11, .assign (.tmp 50), none)) rfl rfl (fun w' hS => val_assign rfl) ?_
      refine Sch.nil ?_
      refine run_seq (x := F5.c31) (y := F5.c32) (by kernel_rfl) ?_
      refine run_plain (id := 12) (ops := F5.o12) [(0, true), (1, true), (2, true), (3, true), (4, false), (5, true), (6, true), (7, true), (8, true), (9, false), (10, false), (11, true), (12, true)] (by kernel_rfl) (by kernel_rfl) ?_
      refine yS (by kernel_rfl : opAt F5.o12 0 = some (some 51, .move (.tmp 11), none)) rfl rfl (fun w' hS => val_move rfl) ?_
      refine yS (by kernel_rfl : opAt F5.o12 1 = some (some 52, .binOp .eql 35 (.tmp 51) (.const (.int .i64 0)) 35, none)) rfl rfl (fun w' hS => val_is (val_eql rfl rfl) (show _ = Value.bool true from congrArg Value.bool (decide_eq_true (rfl)))) ?_
      refine yS (by kernel_rfl : opAt F5.o12 2 = some (some 53, .move (.tmp 52), none)) rfl rfl (fun w' hS => val_move rfl) ?_
      refine yS (by kernel_rfl : opAt F5.o12 3 = some (some 54, .move (.tmp 10), (some (2, true)))) rfl rfl (fun w' hS => val_move rfl) ?_
      refine nS (by kernel_rfl : opAt F5.o12 4 = some (some 55, .load 3 (.tmp 8), (some (2, true)))) rfl rfl trivial (val_loadOwn hbm.at_ (by kernel_rfl) rfl rfl) ?_
      refine yS (by kernel_rfl : opAt F5.o12 5 = some (some 56, .binOp .eql 3 (.tmp 54) (.tmp 55) 3, (some (2, true)))) rfl rfl (fun w' hS => val_is (val_eql rfl rfl) (show _ = Value.bool true from congrArg Value.bool (decide_eq_true (by rw [hB])))) ?_
      refine yS (by kernel_rfl : opAt F5.o12 6 = some (some 57, .pick (.tmp 53) (.tmp 56) (.const (.bool false)), none)) rfl rfl (fun w' hS => val_pick_t rfl rfl) ?_
      refine yS (by kernel_rfl : opAt F5.o12 7 = some (some 58, .move (.tmp 57), none)) rfl rfl (fun w' hS => val_move rfl) ?_
      refine yS (by kernel_rfl : opAt F5.o12 8 = some (some 59, .move (.tmp 9), (some (7, true)))) rfl rfl (fun w' hS => val_move rfl) ?_
      refine nS (by kernel_rfl : opAt F5.o12 9 = some (some 60, .load 24 (.tmp 7), (some (7, true)))) rfl rfl trivial (val_loadOwn hbb.at_ (by kernel_rfl) rfl rfl) ?_
      refine cS (by kernel_rfl : opAt F5.o12 10 = some (some 61, .call { callee := .value (.func 21), args := #[(.tmp 59), (.tmp 60)], argTypes := #[24, 24] }, (some (7, true)))) rfl rfl (ent Try.call21 rfl) (same_ok hF hc1 hb) ?_
      rintro vw14 w14 ⟨rfl, hs⟩
      rw [decide_eq_true (show solL n m ml = B.1 from by rw [hB])]
      refine ⟨trivial, ?_⟩
      replace hF := hF.st hs
      replace hT := hT.trans hs (by simp)
      replace hl := hl.st hs (by first | decide | (simp <;> omega))
      replace hme := hme.st hs (by first | decide | (simp <;> omega))
      replace hbb := hbb.st hs (by first | decide | (simp <;> omega))
      replace hbm := hbm.st hs (by first | decide | (simp <;> omega))
      replace hr := hr.st hs (by first | decide | (simp <;> omega)) (by first | decide | (simp <;> omega))
      replace hk := hk.st hs (by first | decide | (simp <;> omega)) (by first | decide | (simp <;> omega))
      replace hb := hb.st hs (by first | decide | (simp <;> omega))
      replace hc1 := hc1.st hs (by first | decide | (simp <;> omega))
      refine yS (by kernel_rfl : opAt F5.o12 11 = some (some 62, .pick (.tmp 58) (.tmp 61) (.const (.bool false)), none)) rfl rfl (fun w' hS => val_pick_t rfl rfl) ?_
      refine yS (by kernel_rfl : opAt F5.o12 12 = some (some 2, .assign (.tmp 62), none)) rfl rfl (fun w' hS => val_assign rfl) ?_
      refine Sch.nil ?_
      refine run_ret1 (by kernel_rfl) Try.func5 Try.results5 rfl ?_
      exact ⟨rfl, hT.out1 (by decide)⟩
    · skip
      obtain ⟨ml, hml⟩ : ∃ x, x = el := ⟨_, rfl⟩
      rw [← hml] at he
      have hMV : VE n m ml := by rw [hml]; exact hEV
      have hMc := hMV.check
      have hme := he
      clear he
      refine run_skip (by kernel_rfl) ?_
      refine run_seq (x := F5.c23) (y := F5.c24) (by kernel_rfl) ?_
      refine run_plain (id := 8) (ops := F5.o8) [(0, false)] (by kernel_rfl) (by kernel_rfl) ?_
      refine aS (by kernel_rfl : opAt F5.o8 0 = some (some 7, .alloc 24, none)) rfl rfl (a_alloc (cs := [.slice none 0 0]) hF 5 (by kernel_rfl)) ?_
      rintro _ w15 ⟨Cw15, bw15, rfl, hs, hbb, hF⟩
      refine ⟨trivial, ?_⟩
      replace hT := hT.trans hs (by simp)
      replace hl := hl.st hs (by first | decide | (simp <;> omega))
      replace hme := hme.st hs (by first | decide | (simp <;> omega))
      refine Sch.nil ?_
      refine run_seq (x := F5.c25) (y := F5.c26) (by kernel_rfl) ?_
      refine run_plain (id := 9) (ops := F5.o9) [(0, false), (1, false)] (by kernel_rfl) (by kernel_rfl) ?_
      refine aS (by kernel_rfl : opAt F5.o9 0 = some (some 8, .alloc 3, none)) rfl rfl (a_alloc (cs := [.int .i64 0]) hF 6 (by kernel_rfl)) ?_
      rintro _ w16 ⟨Cw16, bw16, rfl, hs, hbm, hF⟩
      refine ⟨trivial, ?_⟩
      replace hT := hT.trans hs (by simp)
      replace hl := hl.st hs (by first | decide | (simp <;> omega))
      replace hme := hme.st hs (by first | decide | (simp <;> omega))
      replace hbb := hbb.st hs (by first | decide | (simp <;> omega))
      refine aN (by kernel_rfl : opAt F5.o9 1 = some (none, .store 3 (.tmp 8) (.const (.int .i64 (-1))), none)) rfl (a_store1 rfl rfl (by kernel_rfl) rfl rfl hbm (by simp)) ?_
      rintro _ w17 ⟨rfl, hs, hbm⟩
      refine ⟨trivial, ?_⟩
      replace hF := hF.st hs
      replace hT := hT.trans hs (by simp)
      replace hl := hl.st hs (by first | decide | (simp <;> omega))
      replace hme := hme.st hs (by first | decide | (simp <;> omega))
      replace hbb := hbb.st hs (by first | decide | (simp <;> omega))
      refine Sch.nil ?_
      refine run_seq (x := F5.c27) (y := F5.c28) (by kernel_rfl) ?_
      refine run_many (id := 10) (ops := F5.o10) (C := Cw16) [0, 1, 3] [⟨2, 39, .makeSlice 48 (.tmp 38) (.tmp 38), fun v w C => OwnL w C 3 4 v (List.replicate (n) false)⟩, ⟨4, 41, .makeSlice 48 (.tmp 40) (.tmp 40), fun v w C => OwnL w C 4 4 v (List.replicate (m) false)⟩] [(5, false)] Try_mixed (by kernel_rfl) (by kernel_rfl) (by kernel_rfl) hF ?_
      refine ⟨_, _, _, (by kernel_rfl : opAt F5.o10 0 = some (some 37, .move (.tmp 6), none)), rfl, fun w' => val_move rfl, ?_⟩
      refine ⟨_, _, _, (by kernel_rfl : opAt F5.o10 1 = some (some 38, .move (.tmp 4), none)), rfl, fun w' => val_move rfl, ?_⟩
      refine ⟨_, _, _, (by kernel_rfl : opAt F5.o10 3 = some (some 40, .move (.tmp 5), none)), rfl, fun w' => val_move rfl, ?_⟩
      refine ⟨?_, (by show List.Nodup [2, 4]; decide), (by show List.Nodup [39, 41]; decide), ?_⟩
      · intro m hm
        simp only [List.mem_cons, List.not_mem_nil, or_false] at hm
        rcases hm with rfl | rfl
        · exact ⟨by kernel_rfl, rfl, rfl, fun w1 C1 hs1 hF1 => a_make (e := 4) (bytes := 1) (x0 := false) (zs := [.bool false]) hF1 (j := 3) (by decide) (by kernel_rfl) (by kernel_rfl) rfl rfl (by omega) (by omega) (by omega) (fun h M => rfl), fun v w1 C1 w2 C2 h hs => h.st hs (by decide) (by decide)⟩
        · exact ⟨by kernel_rfl, rfl, rfl, fun w1 C1 hs1 hF1 => a_make (e := 4) (bytes := 1) (x0 := false) (zs := [.bool false]) hF1 (j := 4) (by decide) (by kernel_rfl) (by kernel_rfl) rfl rfl (by omega) (by omega) (by omega) (fun h M => rfl), fun v w1 C1 w2 C2 h hs => h.st hs (by decide) (by decide)⟩
      intro val w18 Cw18 hs hF hM
      obtain ⟨hr, hk, _⟩ := hM
      replace hT := hT.trans hs (by simp)
      replace hl := hl.st hs (by first | decide | (simp <;> omega))
      replace hme := hme.st hs (by first | decide | (simp <;> omega))
      replace hbb := hbb.st hs (by first | decide | (simp <;> omega))
      replace hbm := hbm.st hs (by first | decide | (simp <;> omega))
      replace hr : OwnL w18 Cw18 3 4 (val 2) (List.replicate (n) false) := hr
      replace hk : OwnL w18 Cw18 4 4 (val 4) (List.replicate (m) false) := hk
      show Sch _ _ _ _ _ _ _ [(5, false)] ((39, val 2) :: (41, val 4) :: _) _
      refine cS (by kernel_rfl : opAt F5.o10 5 = some (some 42, .call { callee := .value (.func 26), args := #[(.tmp 37), (.const (.int .i64 0)), (.tmp 39), (.tmp 41), (.const (.slice none 0 0)), (.const (.int .i64 0)), (.tmp 7), (.tmp 8)], argTypes := #[23, 3, 48, 48, 24, 3, 49, 50] }, none)) rfl rfl (ent Try.call26 rfl) (every_ok (N := n) (M := m) (i := 0) (cs := []) (t := 0) (b := ([], -1)) (vc := .slice none 0 0) (vb := .slice none 0 0) hMV hF hme hr hk rv_nil rv_nil hbb hbm (Nat.zero_le _) (Nat.le_refl _) (fun _ => rfl) List.length_replicate List.length_replicate (Int.le_refl 0) (by decide)) ?_
      rintro vw19 w19 ⟨B, vb, hB, rfl, hs, hr, hk, hb, hbb, hbm⟩
      refine ⟨trivial, ?_⟩
      replace hF := hF.st hs
      replace hT := hT.trans hs (by simp)
      replace hl := hl.st hs (by first | decide | (simp <;> omega))
      replace hme := hme.st hs (by first | decide | (simp <;> omega))
      rw [List.drop_zero, evS_sol hMV] at hB
      refine Sch.nil ?_
      refine run_seq (x := F5.c29) (y := F5.c30) (by kernel_rfl) ?_
      refine run_plain (id := 11) (ops := F5.o11) [(0, true), (1, true), (2, true), (3, false), (4, true), (5, true), (6, true), (7, true), (8, true), (9, true), (10, true)] (by kernel_rfl) (by kernel_rfl) ?_
      refine yS (by kernel_rfl : opAt F5.o11 0 = some (some 44, .move (.tmp 4), none)) rfl rfl (fun w' hS => val_move rfl) ?_
      refine yS (by kernel_rfl : opAt F5.o11 1 = some (some 45, .move (.tmp 5), none)) rfl rfl (fun w' hS => val_move rfl) ?_
      refine yS (by kernel_rfl : opAt F5.o11 2 = some (some 46, .move (.tmp 6), none)) rfl rfl (fun w' hS => val_move rfl) ?_
      refine cS (by kernel_rfl : opAt F5.o11 3 = some (some 47, .call { callee := .value (.func 19), args := #[(.tmp 44), (.tmp 45), (.tmp 46)], argTypes := #[3, 3, 23] }, none)) rfl rfl (ent Try.call19 rfl) (solve_ok (n := n) (m := m) (l := ml) hF hme) ?_
      rintro vw20 w20 ⟨u1, rfl, hs, hc1⟩
      refine ⟨trivial, ?_⟩
      replace hF := hF.st hs
      replace hT := hT.trans hs (by simp)
      replace hl := hl.st hs (by first | decide | (simp <;> omega))
      replace hme := hme.st hs (by first | decide | (simp <;> omega))
      replace hbb := hbb.st hs (by first | decide | (simp <;> omega))
      replace hbm := hbm.st hs (by first | decide | (simp <;> omega))
      replace hr := hr.st hs (by first | decide | (simp <;> omega)) (by first | decide | (simp <;> omega))
      replace hk := hk.st hs (by first | decide | (simp <;> omega)) (by first | decide | (simp <;> omega))
      replace hb := hb.st hs (by first | decide | (simp <;> omega))
      rw [hMc]
      refine yS (by kernel_rfl : opAt F5.o11 4 = some (some 43, .move (.tmp 47), none)) rfl rfl (fun w' hS => val_move rfl) ?_
      refine yS (by kernel_rfl : opAt F5.o11 5 = some (some 48, .extract (.tmp 43) 0, none)) rfl rfl (fun w' hS => val_extract rfl rfl) ?_
      refine yS (by kernel_rfl : opAt F5.o11 6 = some (some 49, .extract (.tmp 43) 1, none)) rfl rfl (fun w' hS => val_extract rfl rfl) ?_
      refine yS (by kernel_rfl : opAt F5.o11 7 = some (some 50, .extract (.tmp 43) 2, none)) rfl rfl (fun w' hS => val_extract rfl rfl) ?_
      refine yS (by kernel_rfl : opAt F5.o11 8 = some (some 9, .assign (.tmp 48), none)) rfl rfl (fun w' hS => val_assign rfl) ?_
      refine yS (by kernel_rfl : opAt F5.o11 9 = some (some 10, .assign (.tmp 49), none)) rfl rfl (fun w' hS => val_assign rfl) ?_
      refine yS (by kernel_rfl : opAt F5.o11 10 = some (some 11, .assign (.tmp 50), none)) rfl rfl (fun w' hS => val_assign rfl) ?_
      refine Sch.nil ?_
      refine run_seq (x := F5.c31) (y := F5.c32) (by kernel_rfl) ?_
      refine run_plain (id := 12) (ops := F5.o12) [(0, true), (1, true), (2, true), (3, true), (4, false), (5, true), (6, true), (7, true), (8, true), (9, false), (10, false), (11, true), (12, true)] (by kernel_rfl) (by kernel_rfl) ?_
      refine yS (by kernel_rfl : opAt F5.o12 0 = some (some 51, .move (.tmp 11), none)) rfl rfl (fun w' hS => val_move rfl) ?_
      refine yS (by kernel_rfl : opAt F5.o12 1 = some (some 52, .binOp .eql 35 (.tmp 51) (.const (.int .i64 0)) 35, none)) rfl rfl (fun w' hS => val_is (val_eql rfl rfl) (show _ = Value.bool true from congrArg Value.bool (decide_eq_true (rfl)))) ?_
      refine yS (by kernel_rfl : opAt F5.o12 2 = some (some 53, .move (.tmp 52), none)) rfl rfl (fun w' hS => val_move rfl) ?_
      refine yS (by kernel_rfl : opAt F5.o12 3 = some (some 54, .move (.tmp 10), (some (2, true)))) rfl rfl (fun w' hS => val_move rfl) ?_
      refine nS (by kernel_rfl : opAt F5.o12 4 = some (some 55, .load 3 (.tmp 8), (some (2, true)))) rfl rfl trivial (val_loadOwn hbm.at_ (by kernel_rfl) rfl rfl) ?_
      refine yS (by kernel_rfl : opAt F5.o12 5 = some (some 56, .binOp .eql 3 (.tmp 54) (.tmp 55) 3, (some (2, true)))) rfl rfl (fun w' hS => val_is (val_eql rfl rfl) (show _ = Value.bool true from congrArg Value.bool (decide_eq_true (by rw [hB])))) ?_
      refine yS (by kernel_rfl : opAt F5.o12 6 = some (some 57, .pick (.tmp 53) (.tmp 56) (.const (.bool false)), none)) rfl rfl (fun w' hS => val_pick_t rfl rfl) ?_
      refine yS (by kernel_rfl : opAt F5.o12 7 = some (some 58, .move (.tmp 57), none)) rfl rfl (fun w' hS => val_move rfl) ?_
      refine yS (by kernel_rfl : opAt F5.o12 8 = some (some 59, .move (.tmp 9), (some (7, true)))) rfl rfl (fun w' hS => val_move rfl) ?_
      refine nS (by kernel_rfl : opAt F5.o12 9 = some (some 60, .load 24 (.tmp 7), (some (7, true)))) rfl rfl trivial (val_loadOwn hbb.at_ (by kernel_rfl) rfl rfl) ?_
      refine cS (by kernel_rfl : opAt F5.o12 10 = some (some 61, .call { callee := .value (.func 21), args := #[(.tmp 59), (.tmp 60)], argTypes := #[24, 24] }, (some (7, true)))) rfl rfl (ent Try.call21 rfl) (same_ok hF hc1 hb) ?_
      rintro vw21 w21 ⟨rfl, hs⟩
      rw [decide_eq_true (show solL n m ml = B.1 from by rw [hB])]
      refine ⟨trivial, ?_⟩
      replace hF := hF.st hs
      replace hT := hT.trans hs (by simp)
      replace hl := hl.st hs (by first | decide | (simp <;> omega))
      replace hme := hme.st hs (by first | decide | (simp <;> omega))
      replace hbb := hbb.st hs (by first | decide | (simp <;> omega))
      replace hbm := hbm.st hs (by first | decide | (simp <;> omega))
      replace hr := hr.st hs (by first | decide | (simp <;> omega)) (by first | decide | (simp <;> omega))
      replace hk := hk.st hs (by first | decide | (simp <;> omega)) (by first | decide | (simp <;> omega))
      replace hb := hb.st hs (by first | decide | (simp <;> omega))
      replace hc1 := hc1.st hs (by first | decide | (simp <;> omega))
      refine yS (by kernel_rfl : opAt F5.o12 11 = some (some 62, .pick (.tmp 58) (.tmp 61) (.const (.bool false)), none)) rfl rfl (fun w' hS => val_pick_t rfl rfl) ?_
      refine yS (by kernel_rfl : opAt F5.o12 12 = some (some 2, .assign (.tmp 62), none)) rfl rfl (fun w' hS => val_assign rfl) ?_
      refine Sch.nil ?_
      refine run_ret1 (by kernel_rfl) Try.func5 Try.results5 rfl ?_
      exact ⟨rfl, hT.out1 (by decide)⟩
namespace F5B
noncomputable def c0 : Code := bodyOf Try.f5
noncomputable def c1 : Code := cl c0
noncomputable def o0 : Array Oper := rops c1
noncomputable def c2 : Code := cr c0
noncomputable def c3 : Code := cl c2
noncomputable def c4 : Code := cl c3
noncomputable def o1 : Array Oper := rops c4
noncomputable def c5 : Code := cr c3
noncomputable def c6 : Code := cl c5
noncomputable def c7 : Code := cl c6
noncomputable def o2 : Array Oper := rops c7
noncomputable def c8 : Code := cr c6
noncomputable def c9 : Code := cr c5
noncomputable def c10 : Code := cr c2
noncomputable def c11 : Code := cl c10
noncomputable def o3 : Array Oper := rops c11
noncomputable def c12 : Code := cr c10
noncomputable def c13 : Code := cl c12
noncomputable def o4 : Array Oper := rops c13
noncomputable def c14 : Code := cr c12
noncomputable def c15 : Code := cl c14
noncomputable def o5 : Array Oper := rops c15
noncomputable def c16 : Code := cr c14
noncomputable def c17 : Code := cl c16
noncomputable def c18 : Code := cl c17
noncomputable def o6 : Array Oper := rops c18
noncomputable def c19 : Code := cr c17
noncomputable def c20 : Code := cl c19
noncomputable def o7 : Array Oper := rops c20
noncomputable def c21 : Code := cr c19
noncomputable def c22 : Code := cr c16
noncomputable def c23 : Code := cl c22
noncomputable def o8 : Array Oper := rops c23
noncomputable def c24 : Code := cr c22
noncomputable def c25 : Code := cl c24
noncomputable def o9 : Array Oper := rops c25
noncomputable def c26 : Code := cr c24
noncomputable def c27 : Code := cl c26
noncomputable def o10 : Array Oper := rops c27
noncomputable def c28 : Code := cr c26
noncomputable def c29 : Code := cl c28
noncomputable def o11 : Array Oper := rops c29
noncomputable def c30 : Code := cr c28
noncomputable def c31 : Code := cl c30
noncomputable def o12 : Array Oper := rops c31
noncomputable def c32 : Code := cr c30
end F5B
/-- .. where more is handed than it looks at. -/
theorem assignmentBest_big {w₀ : World} {C : Nat → Nat} {p : Option Addr} {n c : Nat} (hF : Lim w₀ C) (hn : 400 < n) : Calls Try.prog 5 #[.slice p n c] w₀ (Ret fun v w' => v = .bool true ∧ Stp [] w₀ C w' C) := by
  have hF0 := hF
  have hT := Stp.refl [2, 3, 4, 5, 6, 7, 8, 9] w₀ (col1 C)
  replace hF := hF.col1
  refine calls_start (c := F5B.c0) (N := 63) [.slice p n c] Try.func5 (by kernel_rfl) (by kernel_rfl) (by kernel_rfl) ?_
  show Run _ _ _ _ [(0, .slice p n c)] _ _
  refine run_seq (x := F5B.c1) (y := F5B.c2) (by kernel_rfl) ?_
  refine run_plain (id := 0) (ops := F5B.o0) [(0, true)] (by kernel_rfl) (by kernel_rfl) ?_
  refine yS (by kernel_rfl : opAt F5B.o0 0 = some (some 2, .assign (.const (.bool false)), none)) rfl rfl (fun w' hS => val_assign rfl) ?_
  refine Sch.nil ?_
  refine run_seq (x := F5B.c3) (y := F5B.c10) (by kernel_rfl) ?_
  refine run_seq (x := F5B.c4) (y := F5B.c5) (by kernel_rfl) ?_
  refine run_plain (id := 1) (ops := F5B.o1) [(0, false), (1, true), (2, true), (3, true), (4, false), (5, true), (6, true)] (by kernel_rfl) (by kernel_rfl) ?_
  refine cS (by kernel_rfl : opAt F5B.o1 0 = some (some 12, .call { callee := .value (.func 10), args := #[], argTypes := #[] }, none)) rfl rfl (ent Try.call10 rfl) (awake_ok hF) ?_
  rintro vw1 w1 ⟨rfl, hs⟩
  refine ⟨trivial, ?_⟩
  replace hF := hF.st hs
  replace hT := hT.trans hs (by simp)
  refine yS (by kernel_rfl : opAt F5B.o1 1 = some (some 13, .unOp .not 4 (.tmp 12), none)) rfl rfl (fun w' hS => val_not rfl) ?_
  refine yS (by kernel_rfl : opAt F5B.o1 2 = some (some 14, .move (.tmp 13), none)) rfl rfl (fun w' hS => val_move rfl) ?_
  refine yS (by kernel_rfl : opAt F5B.o1 3 = some (some 15, .move (.tmp 0), (some (2, false)))) rfl rfl (fun w' hS => val_move rfl) ?_
  refine cS (by kernel_rfl : opAt F5B.o1 4 = some (some 16, .call { callee := .value (.func 11), args := #[(.tmp 15)], argTypes := #[22] }, (some (2, false)))) rfl rfl (ent Try.call11 rfl) (few_ok _ _ _ _) ?_
  rintro vw2 w2 ⟨rfl, rfl⟩
  refine ⟨trivial, ?_⟩
  rw [decide_eq_false (show ¬ (n : Int) ≤ 400 by omega)]
  refine yS (by kernel_rfl : opAt F5B.o1 5 = some (some 17, .unOp .not 4 (.tmp 16), (some (2, false)))) rfl rfl (fun w' hS => val_not rfl) ?_
  refine yS (by kernel_rfl : opAt F5B.o1 6 = some (some 18, .pick (.tmp 14) (.const (.bool true)) (.tmp 17), none)) rfl rfl (fun w' hS => val_pick_f rfl rfl) ?_
  refine Sch.nil ?_
  refine run_cond (x := F5B.c6) (y := F5B.c9) (o := .tmp 18) (b := true) (by kernel_rfl) rfl (fun _ => ?_) (fun h => by cases h)
  refine run_seq (x := F5B.c7) (y := F5B.c8) (by kernel_rfl) ?_
  refine run_plain (id := 2) (ops := F5B.o2) [(0, false), (1, true)] (by kernel_rfl) (by kernel_rfl) ?_
  refine cS (by kernel_rfl : opAt F5B.o2 0 = some (some 19, .call { callee := .value (.func 10), args := #[], argTypes := #[] }, none)) rfl rfl (ent Try.call10 rfl) (awake_ok hF) ?_
  rintro vw3 w3 ⟨rfl, hs⟩
  refine ⟨trivial, ?_⟩
  replace hF := hF.st hs
  replace hT := hT.trans hs (by simp)
  refine yS (by kernel_rfl : opAt F5B.o2 1 = some (some 2, .assign (.tmp 19), none)) rfl rfl (fun w' hS => val_assign rfl) ?_
  refine Sch.nil ?_
  refine run_ret1 (by kernel_rfl) Try.func5 Try.results5 rfl ?_
  exact ⟨rfl, hT.out1 (by decide)⟩
end Go.Proofs.Ytgooehopkmbkfaa
