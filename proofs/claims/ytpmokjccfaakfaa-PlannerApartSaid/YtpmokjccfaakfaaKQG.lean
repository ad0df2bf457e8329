/- Steps through functions of the program. -/
import Derived.Test.YtpmokjccfaakfaaKQE
set_option linter.unusedVariables false
set_option linter.unusedSimpArgs false
set_option maxRecDepth 100000
set_option maxHeartbeats 400000
namespace Go.Proofs.Ytpmokjccfaakfaa
open Go.K Go.K.Rep

namespace F7
noncomputable def c0 : Code := bodyOf Try.f7
noncomputable def c1 : Code := cl c0
noncomputable def o0 : Array Oper := rops c1
noncomputable def c2 : Code := cr c0
noncomputable def c3 : Code := cl c2
noncomputable def c4 : Code := cl c3
noncomputable def o1 : Array Oper := rops c4
noncomputable def c5 : Code := cr c3
noncomputable def c6 : Code := cl c5
noncomputable def c7 : Code := cl c6
noncomputable def o2 : Array Oper := rops c7
noncomputable def c8 : Code := cr c6
noncomputable def c9 : Code := cr c5
noncomputable def c10 : Code := cr c2
noncomputable def c11 : Code := cl c10
noncomputable def o3 : Array Oper := rops c11
noncomputable def c12 : Code := cr c10
noncomputable def c13 : Code := cl c12
noncomputable def o4 : Array Oper := rops c13
noncomputable def c14 : Code := cr c12
noncomputable def c15 : Code := cl c14
noncomputable def o5 : Array Oper := rops c15
noncomputable def c16 : Code := cr c14
noncomputable def c17 : Code := cl c16
noncomputable def o6 : Array Oper := rops c17
noncomputable def c18 : Code := cr c16
noncomputable def c19 : Code := cl c18
noncomputable def o7 : Array Oper := rops c19
noncomputable def c20 : Code := cr c18
noncomputable def c21 : Code := cl c20
noncomputable def o8 : Array Oper := rops c21
noncomputable def c22 : Code := cr c20
noncomputable def c23 : Code := cl c22
noncomputable def o9 : Array Oper := rops c23
noncomputable def c24 : Code := cr c22
noncomputable def c25 : Code := cl c24
noncomputable def o10 : Array Oper := rops c25
noncomputable def c26 : Code := cr c24
noncomputable def c27 : Code := cl c26
noncomputable def o11 : Array Oper := rops c27
noncomputable def c28 : Code := cr c26
end F7
/-- The statement's function answers true. -/
theorem plannerApart_ok {w₀ : World} {C : Nat → Nat} {l : List Int} {vl : Value} (hF : Lim w₀ C) (hl : RV w₀ (Mc C) l vl) : Calls Try.prog 7 #[vl] w₀ (Ret fun v w' => v = .bool true ∧ Stp [] w₀ C w' C) := by
  have hF0 := hF
  have hT := Stp.refl [2, 3, 4, 5, 6, 7, 8, 9] w₀ (col1 C)
  replace hF := hF.col1
  replace hl : RV w₀ (Mc (col1 C)) l vl := by rw [Mc_col1]; exact hl
  refine calls_start (c := F7.c0) (N := 118) [vl] Try.func7 (by kernel_rfl) (by kernel_rfl) (by kernel_rfl) ?_
  show Run _ _ _ _ [(0, vl)] _ _
  refine run_seq (x := F7.c1) (y := F7.c2) (by kernel_rfl) ?_
  refine run_plain (id := 0) (ops := F7.o0) [(0, true)] (by kernel_rfl) (by kernel_rfl) ?_
  refine yS (by kernel_rfl : opAt F7.o0 0 = some (some 2, .assign (.const (.bool false)), none)) rfl rfl (fun w' hS => val_assign rfl) ?_
  refine Sch.nil ?_
  refine run_seq (x := F7.c3) (y := F7.c10) (by kernel_rfl) ?_
  refine run_seq (x := F7.c4) (y := F7.c5) (by kernel_rfl) ?_
  refine run_plain (id := 1) (ops := F7.o1) [(0, false), (1, true), (2, true), (3, true), (4, false), (5, true), (6, true)] (by kernel_rfl) (by kernel_rfl) ?_
  refine cS (by kernel_rfl : opAt F7.o1 0 = some (some 15, .call { callee := .value (.func 9), args := #[], argTypes := #[] }, none)) rfl rfl (ent Try.call9 rfl) (awake_ok hF) ?_
  rintro vw1 w1 ⟨rfl, hs⟩
  refine ⟨trivial, ?_⟩
  replace hF := hF.st hs
  replace hT := hT.trans hs (by simp)
  replace hl := hl.st hs (by first | decide | (simp <;> omega))
  refine yS (by kernel_rfl : opAt F7.o1 1 = some (some 16, .unOp .not 4 (.tmp 15), none)) rfl rfl (fun w' hS => val_not rfl) ?_
  refine yS (by kernel_rfl : opAt F7.o1 2 = some (some 17, .move (.tmp 16), none)) rfl rfl (fun w' hS => val_move rfl) ?_
  refine yS (by kernel_rfl : opAt F7.o1 3 = some (some 18, .move (.tmp 0), (some (2, false)))) rfl rfl (fun w' hS => val_move rfl) ?_
  refine cS (by kernel_rfl : opAt F7.o1 4 = some (some 19, .call { callee := .value (.func 10), args := #[(.tmp 18)], argTypes := #[22] }, (some (2, false)))) rfl rfl (ent Try.call10 rfl) (few_any hl) ?_
  rintro vw2 w2 ⟨rfl, rfl⟩
  refine ⟨trivial, ?_⟩
  refine yS (by kernel_rfl : opAt F7.o1 5 = some (some 20, .unOp .not 4 (.tmp 19), (some (2, false)))) rfl rfl (fun w' hS => val_notd rfl) ?_
  refine yS (by kernel_rfl : opAt F7.o1 6 = some (some 21, .pick (.tmp 17) (.const (.bool true)) (.tmp 20), none)) rfl rfl (fun w' hS => val_pick_f rfl rfl) ?_
  refine Sch.nil ?_
  refine run_if (x := F7.c6) (y := F7.c9) (o := .tmp 21) (by kernel_rfl) rfl (fun h21 => ?_) (fun h21 => ?_)
  · skip
    refine run_seq (x := F7.c7) (y := F7.c8) (by kernel_rfl) ?_
    refine run_plain (id := 2) (ops := F7.o2) [(0, false), (1, true)] (by kernel_rfl) (by kernel_rfl) ?_
    refine cS (by kernel_rfl : opAt F7.o2 0 = some (some 22, .call { callee := .value (.func 9), args := #[], argTypes := #[] }, none)) rfl rfl (ent Try.call9 rfl) (awake_ok hF) ?_
    rintro vw3 w3 ⟨rfl, hs⟩
    refine ⟨trivial, ?_⟩
    replace hF := hF.st hs
    replace hT := hT.trans hs (by simp)
    replace hl := hl.st hs (by first | decide | (simp <;> omega))
    refine yS (by kernel_rfl : opAt F7.o2 1 = some (some 2, .assign (.tmp 22), none)) rfl rfl (fun w' hS => val_assign rfl) ?_
    refine Sch.nil ?_
    refine run_ret1 (by kernel_rfl) Try.func7 Try.results7 rfl ?_
    exact ⟨rfl, hT.out1 (by decide)⟩
  · skip
    refine run_skip (by kernel_rfl) ?_
    refine run_seq (x := F7.c11) (y := F7.c12) (by kernel_rfl) ?_
    refine run_plain (id := 3) (ops := F7.o3) [(0, true), (1, false), (2, true)] (by kernel_rfl) (by kernel_rfl) ?_
    refine yS (by kernel_rfl : opAt F7.o3 0 = some (some 23, .move (.tmp 0), none)) rfl rfl (fun w' hS => val_move rfl) ?_
    refine cS (by kernel_rfl : opAt F7.o3 1 = some (some 24, .call { callee := .value (.func 11), args := #[(.tmp 23)], argTypes := #[22] }, none)) rfl rfl (ent Try.call11 rfl) (new_any hF hl) ?_
    rintro vw4 w4 ⟨Cd, bd, rfl, hs, hF, hd⟩
    refine ⟨trivial, ?_⟩
    replace hT := hT.trans hs (by simp)
    replace hl := hl.st hs (by first | decide | (simp <;> omega))
    refine yS (by kernel_rfl : opAt F7.o3 2 = some (some 3, .assign (.tmp 24), none)) rfl rfl (fun w' hS => val_assign rfl) ?_
    refine Sch.nil ?_
    refine run_seq (x := F7.c13) (y := F7.c14) (by kernel_rfl) ?_
    refine run_plain (id := 4) (ops := F7.o4) [(0, true), (1, true), (2, false), (3, true), (4, false), (5, false)] (by kernel_rfl) (by kernel_rfl) ?_
    refine yS (by kernel_rfl : opAt F7.o4 0 = some (some 25, .build 50 #[(0, (.const (.int .i64 0))), (1, (.const (.int .i64 1)))], none)) rfl rfl (fun w' hS => val_build (zs := [.int .i64 0, .int .i64 0]) (ps := [(0, 1), (1, 1)]) (qs := [(0, [.int .i64 0]), (1, [.int .i64 1])]) (cs := [.int .i64 0, .int .i64 1]) (by kernel_rfl) (by kernel_rfl) ⟨rfl, ⟨_, rfl, rfl⟩, rfl, ⟨_, rfl, rfl⟩, trivial⟩ rfl) ?_
    refine yS (by kernel_rfl : opAt F7.o4 1 = some (some 26, .build 50 #[(0, (.const (.int .i64 1))), (1, (.const (.int .i64 1)))], none)) rfl rfl (fun w' hS => val_build (zs := [.int .i64 0, .int .i64 0]) (ps := [(0, 1), (1, 1)]) (qs := [(0, [.int .i64 1]), (1, [.int .i64 1])]) (cs := [.int .i64 1, .int .i64 1]) (by kernel_rfl) (by kernel_rfl) ⟨rfl, ⟨_, rfl, rfl⟩, rfl, ⟨_, rfl, rfl⟩, trivial⟩ rfl) ?_
    refine aS (by kernel_rfl : opAt F7.o4 2 = some (some 27, .buildSlice 26 2 #[(0, (.tmp 25)), (1, (.tmp 26))], none)) rfl rfl (a_buildSlice (ys := ([⟨0, 1⟩, ⟨1, 1⟩] : List Couple)) (e := 50) (bytes := 16) hF (by kernel_rfl) rfl (by decide) (by decide) ⟨rfl, ⟨_, rfl, rv_couple.2 rfl⟩, rfl, ⟨_, rfl, rv_couple.2 rfl⟩, trivial⟩) ?_
    rintro v27 w5 ⟨hs, g27, hF⟩
    refine ⟨trivial, ?_⟩
    replace hT := hT.trans hs (by simp)
    replace hl := hl.st hs (by first | decide | (simp <;> omega))
    replace hd := hd.st hs (by first | decide | (simp <;> omega)) (by first | decide | (simp <;> omega))
    refine yS (by kernel_rfl : opAt F7.o4 3 = some (some 28, .build 28 #[(0, (.tmp 27))], none)) rfl rfl (fun w' hS => val_build (zs := [.slice none 0 0]) (ps := [(0, 1)]) (qs := [(0, [v27])]) (cs := [v27]) (by kernel_rfl) (by kernel_rfl) ⟨rfl, ⟨_, rfl, (g27.one rfl).1⟩, trivial⟩ rfl) ?_
    refine aS (by kernel_rfl : opAt F7.o4 4 = some (some 4, .alloc 28, none)) rfl rfl (a_alloc (cs := [.slice none 0 0]) hF 4 (by kernel_rfl)) ?_
    rintro _ w6 ⟨Cw6, bw6, rfl, hs, hxa, hF⟩
    refine ⟨trivial, ?_⟩
    replace hT := hT.trans hs (by simp)
    replace hl := hl.st hs (by first | decide | (simp <;> omega))
    replace hd := hd.st hs (by first | decide | (simp <;> omega)) (by first | decide | (simp <;> omega))
    replace g27 := g27.st hs (by first | decide | (simp <;> omega))
    refine aN (by kernel_rfl : opAt F7.o4 5 = some (none, .store 28 (.tmp 4) (.tmp 28), none)) rfl (a_storeAll (vs := [v27]) (n := 1) rfl rfl (by kernel_rfl) rfl rfl (by intro u hu; simp only [List.mem_cons, List.not_mem_nil, or_false] at hu; subst hu; exact (g27.one rfl).2) hxa rfl) ?_
    rintro _ w7 ⟨rfl, hs, hxa⟩
    refine ⟨trivial, ?_⟩
    replace hF := hF.st hs
    replace hT := hT.trans hs (by simp)
    replace hl := hl.st hs (by first | decide | (simp <;> omega))
    replace hd := hd.st hs (by first | decide | (simp <;> omega)) (by first | decide | (simp <;> omega))
    replace g27 := g27.st hs (by first | decide | (simp <;> omega))
    refine Sch.nil ?_
    refine run_seq (x := F7.c15) (y := F7.c16) (by kernel_rfl) ?_
    refine run_plain (id := 5) (ops := F7.o5) [(0, true), (1, false), (2, true), (3, false), (4, false)] (by kernel_rfl) (by kernel_rfl) ?_
    refine yS (by kernel_rfl : opAt F7.o5 0 = some (some 29, .build 50 #[(0, (.const (.int .i64 2))), (1, (.const (.int .i64 1)))], none)) rfl rfl (fun w' hS => val_build (zs := [.int .i64 0, .int .i64 0]) (ps := [(0, 1), (1, 1)]) (qs := [(0, [.int .i64 2]), (1, [.int .i64 1])]) (cs := [.int .i64 2, .int .i64 1]) (by kernel_rfl) (by kernel_rfl) ⟨rfl, ⟨_, rfl, rfl⟩, rfl, ⟨_, rfl, rfl⟩, trivial⟩ rfl) ?_
    refine aS (by kernel_rfl : opAt F7.o5 1 = some (some 30, .buildSlice 26 1 #[(0, (.tmp 29))], none)) rfl rfl (a_buildSlice (ys := ([⟨2, 1⟩] : List Couple)) (e := 50) (bytes := 16) hF (by kernel_rfl) rfl (by decide) (by decide) ⟨rfl, ⟨_, rfl, rv_couple.2 rfl⟩, trivial⟩) ?_
    rintro v30 w8 ⟨hs, g30, hF⟩
    refine ⟨trivial, ?_⟩
    replace hT := hT.trans hs (by simp)
    replace hl := hl.st hs (by first | decide | (simp <;> omega))
    replace hd := hd.st hs (by first | decide | (simp <;> omega)) (by first | decide | (simp <;> omega))
    replace g27 := g27.st hs (by first | decide | (simp <;> omega))
    replace hxa := hxa.st hs (by first | decide | (simp <;> omega))
    refine yS (by kernel_rfl : opAt F7.o5 2 = some (some 31, .build 28 #[(0, (.tmp 30))], none)) rfl rfl (fun w' hS => val_build (zs := [.slice none 0 0]) (ps := [(0, 1)]) (qs := [(0, [v30])]) (cs := [v30]) (by kernel_rfl) (by kernel_rfl) ⟨rfl, ⟨_, rfl, (g30.one rfl).1⟩, trivial⟩ rfl) ?_
    refine aS (by kernel_rfl : opAt F7.o5 3 = some (some 5, .alloc 28, none)) rfl rfl (a_alloc (cs := [.slice none 0 0]) hF 5 (by kernel_rfl)) ?_
    rintro _ w9 ⟨Cw9, bw9, rfl, hs, hxb, hF⟩
    refine ⟨trivial, ?_⟩
    replace hT := hT.trans hs (by simp)
    replace hl := hl.st hs (by first | decide | (simp <;> omega))
    replace hd := hd.st hs (by first | decide | (simp <;> omega)) (by first | decide | (simp <;> omega))
    replace g27 := g27.st hs (by first | decide | (simp <;> omega))
    replace hxa := hxa.st hs (by first | decide | (simp <;> omega))
    replace g30 := g30.st hs (by first | decide | (simp <;> omega))
    refine aN (by kernel_rfl : opAt F7.o5 4 = some (none, .store 28 (.tmp 5) (.tmp 31), none)) rfl (a_storeAll (vs := [v30]) (n := 1) rfl rfl (by kernel_rfl) rfl rfl (by intro u hu; simp only [List.mem_cons, List.not_mem_nil, or_false] at hu; subst hu; exact (g30.one rfl).2) hxb rfl) ?_
    rintro _ w10 ⟨rfl, hs, hxb⟩
    refine ⟨trivial, ?_⟩
    replace hF := hF.st hs
    replace hT := hT.trans hs (by simp)
    replace hl := hl.st hs (by first | decide | (simp <;> omega))
    replace hd := hd.st hs (by first | decide | (simp <;> omega)) (by first | decide | (simp <;> omega))
    replace g27 := g27.st hs (by first | decide | (simp <;> omega))
    replace hxa := hxa.st hs (by first | decide | (simp <;> omega))
    replace g30 := g30.st hs (by first | decide | (simp <;> omega))
    refine Sch.nil ?_
    refine run_seq (x := F7.c17) (y := F7.c18) (by kernel_rfl) ?_
    refine run_plain (id := 6) (ops := F7.o6) [(0, true), (1, false), (2, true), (3, false), (4, true), (5, false), (6, false), (7, true)] (by kernel_rfl) (by kernel_rfl) ?_
    refine yS (by kernel_rfl : opAt F7.o6 0 = some (some 32, .move (.tmp 3), none)) rfl rfl (fun w' hS => val_move rfl) ?_
    refine cS (by kernel_rfl : opAt F7.o6 1 = some (some 33, .call { callee := .value (.func 19), args := #[(.tmp 32), (.const (.int .i64 65))], argTypes := #[29, 3] }, none)) rfl rfl (ent Try.call19 rfl) (next_any (n := 65) hF (by decide) hd (by omega) (by omega)) ?_
    rintro vw11 w11 ⟨a, rfl, ha, hs, hd⟩
    refine ⟨trivial, ?_⟩
    replace hF := hF.st hs
    replace hT := hT.trans hs (by simp)
    replace hl := hl.st hs (by first | decide | (simp <;> omega))
    replace g27 := g27.st hs (by first | decide | (simp <;> omega))
    replace hxa := hxa.st hs (by first | decide | (simp <;> omega))
    replace g30 := g30.st hs (by first | decide | (simp <;> omega))
    replace hxb := hxb.st hs (by first | decide | (simp <;> omega))
    refine yS (by kernel_rfl : opAt F7.o6 2 = some (some 34, .move (.tmp 3), none)) rfl rfl (fun w' hS => val_move rfl) ?_
    refine cS (by kernel_rfl : opAt F7.o6 3 = some (some 35, .call { callee := .value (.func 19), args := #[(.tmp 34), (.const (.int .i64 65))], argTypes := #[29, 3] }, none)) rfl rfl (ent Try.call19 rfl) (next_any (n := 65) hF (by decide) hd (by omega) (by omega)) ?_
    rintro vw12 w12 ⟨b, rfl, hb, hs, hd⟩
    refine ⟨trivial, ?_⟩
    replace hF := hF.st hs
    replace hT := hT.trans hs (by simp)
    replace hl := hl.st hs (by first | decide | (simp <;> omega))
    replace g27 := g27.st hs (by first | decide | (simp <;> omega))
    replace hxa := hxa.st hs (by first | decide | (simp <;> omega))
    replace g30 := g30.st hs (by first | decide | (simp <;> omega))
    replace hxb := hxb.st hs (by first | decide | (simp <;> omega))
    refine yS (by kernel_rfl : opAt F7.o6 4 = some (some 36, .move (.tmp 3), none)) rfl rfl (fun w' hS => val_move rfl) ?_
    refine cS (by kernel_rfl : opAt F7.o6 5 = some (some 37, .call { callee := .value (.func 19), args := #[(.tmp 36), (.const (.int .i64 65))], argTypes := #[29, 3] }, none)) rfl rfl (ent Try.call19 rfl) (next_any (n := 65) hF (by decide) hd (by omega) (by omega)) ?_
    rintro vw13 w13 ⟨c, rfl, hc, hs, hd⟩
    refine ⟨trivial, ?_⟩
    replace hF := hF.st hs
    replace hT := hT.trans hs (by simp)
    replace hl := hl.st hs (by first | decide | (simp <;> omega))
    replace g27 := g27.st hs (by first | decide | (simp <;> omega))
    replace hxa := hxa.st hs (by first | decide | (simp <;> omega))
    replace g30 := g30.st hs (by first | decide | (simp <;> omega))
    replace hxb := hxb.st hs (by first | decide | (simp <;> omega))
    refine aS (by kernel_rfl : opAt F7.o6 6 = some (some 38, .buildSlice 22 3 #[(0, (.tmp 33)), (1, (.tmp 35)), (2, (.tmp 37))], none)) rfl rfl (a_buildSlice (ys := ([(a : Int), b, c] : List Int)) (e := 3) (bytes := 8) hF (by kernel_rfl) rfl (by decide) (by decide) ⟨rfl, ⟨_, rfl, rv_int.2 rfl⟩, rfl, ⟨_, rfl, rv_int.2 rfl⟩, rfl, ⟨_, rfl, rv_int.2 rfl⟩, trivial⟩) ?_
    rintro v38 w14 ⟨hs, g38, hF⟩
    refine ⟨trivial, ?_⟩
    replace hT := hT.trans hs (by simp)
    replace hl := hl.st hs (by first | decide | (simp <;> omega))
    replace hd := hd.st hs (by first | decide | (simp <;> omega)) (by first | decide | (simp <;> omega))
    replace g27 := g27.st hs (by first | decide | (simp <;> omega))
    replace hxa := hxa.st hs (by first | decide | (simp <;> omega))
    replace g30 := g30.st hs (by first | decide | (simp <;> omega))
    replace hxb := hxb.st hs (by first | decide | (simp <;> omega))
    refine yS (by kernel_rfl : opAt F7.o6 7 = some (some 6, .assign (.tmp 38), none)) rfl rfl (fun w' hS => val_assign rfl) ?_
    refine Sch.nil ?_
    obtain ⟨x, y, xy, ea, eb, eab, eba, hx, hy, hxy, hx0, hx1, hxy0, hxy1⟩ := ap_all (a := a) (b := b) (c := c) (by omega) (by omega) (by omega)
    refine run_seq (x := F7.c19) (y := F7.c20) (by kernel_rfl) ?_
    refine run_draw (id := 7) (ops := F7.o7) [] (Cw9) [(0, true), (2, true), (3, true), (1, false), (4, false), (5, true), (6, true), (7, true), (8, true), (9, true)] Try_mixed (by kernel_rfl) (by kernel_rfl) (by kernel_rfl) ?_
    intro w15 hs
    replace hF := hF.st hs
    replace hT := hT.trans hs (by simp)
    replace hl := hl.st hs (by first | decide | (simp <;> omega))
    replace hd := hd.st hs (by first | decide | (simp <;> omega)) (by first | decide | (simp <;> omega))
    replace g27 := g27.st hs (by first | decide | (simp <;> omega))
    replace hxa := hxa.st hs (by first | decide | (simp <;> omega))
    replace g30 := g30.st hs (by first | decide | (simp <;> omega))
    replace hxb := hxb.st hs (by first | decide | (simp <;> omega))
    replace g38 := g38.st hs (by first | decide | (simp <;> omega))
    have hR := Stp.refl [] w15 (Cw9)
    refine yS (by kernel_rfl : opAt F7.o7 0 = some (some 40, .load 28 (.tmp 4), none)) rfl rfl (fun w' hS => val_loadOwnAgg (n := 1) (hxa.stay hS (by decide)) (by kernel_rfl) (by kernel_rfl) rfl rfl rfl) ?_
    refine yS (by kernel_rfl : opAt F7.o7 2 = some (some 42, .move (.tmp 6), none)) rfl rfl (fun w' hS => val_move rfl) ?_
    refine sTR (e' := 3) (by kernel_rfl : opAt F7.o7 3 = some (some 43, .slice 22 (.tmp 42) none (some (.const (.int .i64 2))) none, none)) rfl rfl g38 rfl (by kernel_rfl) rfl (by decide) (by simp) ?_
    intro v43 h43
    replace h43 : RV _ _ ([(a : Int), b] : List Int) v43 := h43
    refine aS (by kernel_rfl : opAt F7.o7 1 = some (some 41, .buildSlice 23 1 #[(0, (.tmp 40))], none)) rfl rfl (a_buildSlice (ys := awK) (e := 28) (bytes := 24) hF (by kernel_rfl) rfl (by decide) (by decide) ⟨rfl, ⟨_, rfl, rv_key g27⟩, trivial⟩) ?_
    rintro v41 w16 ⟨hs, gk1, hF⟩
    refine ⟨(hR.trans hs (by simp)).ext, ?_⟩
    replace hT := hT.trans hs (by simp)
    replace hl := hl.st hs (by first | decide | (simp <;> omega))
    replace hd := hd.st hs (by first | decide | (simp <;> omega)) (by first | decide | (simp <;> omega))
    replace g27 := g27.st hs (by first | decide | (simp <;> omega))
    replace hxa := hxa.st hs (by first | decide | (simp <;> omega))
    replace g30 := g30.st hs (by first | decide | (simp <;> omega))
    replace hxb := hxb.st hs (by first | decide | (simp <;> omega))
    replace g38 := g38.st hs (by first | decide | (simp <;> omega))
    replace hR := hR.trans hs (by simp)
    replace h43 := h43.st hs (by first | decide | (simp <;> omega))
    refine cS (by kernel_rfl : opAt F7.o7 4 = some (some 44, .call { callee := .value (.func 20), args := #[(.tmp 41), (.tmp 43), (.const (.int .i64 1))], argTypes := #[23, 22, 3] }, none)) rfl rfl (ent Try.call20 rfl) (missed_ok (ks := awK) (rs := [(a : Int), b]) hF gk1 h43 awK_sm) ?_
    rintro vw17 w17 ⟨rfl, hs⟩
    refine ⟨(hR.trans hs (by simp)).ext, ?_⟩
    replace hF := hF.st hs
    replace hT := hT.trans hs (by simp)
    replace hl := hl.st hs (by first | decide | (simp <;> omega))
    replace hd := hd.st hs (by first | decide | (simp <;> omega)) (by first | decide | (simp <;> omega))
    replace g27 := g27.st hs (by first | decide | (simp <;> omega))
    replace hxa := hxa.st hs (by first | decide | (simp <;> omega))
    replace g30 := g30.st hs (by first | decide | (simp <;> omega))
    replace hxb := hxb.st hs (by first | decide | (simp <;> omega))
    replace g38 := g38.st hs (by first | decide | (simp <;> omega))
    replace hR := hR.trans hs (by simp)
    replace h43 := h43.st hs (by first | decide | (simp <;> omega))
    replace gk1 := gk1.st hs (by first | decide | (simp <;> omega))
    rw [ea]
    refine yS (by kernel_rfl : opAt F7.o7 5 = some (some 39, .move (.tmp 44), none)) rfl rfl (fun w' hS => val_move rfl) ?_
    refine yS (by kernel_rfl : opAt F7.o7 6 = some (some 45, .extract (.tmp 39) 0, none)) rfl rfl (fun w' hS => val_extract rfl rfl) ?_
    refine yS (by kernel_rfl : opAt F7.o7 7 = some (some 46, .extract (.tmp 39) 1, none)) rfl rfl (fun w' hS => val_extract rfl rfl) ?_
    refine yS (by kernel_rfl : opAt F7.o7 8 = some (some 7, .assign (.tmp 45), none)) rfl rfl (fun w' hS => val_assign rfl) ?_
    refine yS (by kernel_rfl : opAt F7.o7 9 = some (some 8, .assign (.tmp 46), none)) rfl rfl (fun w' hS => val_assign rfl) ?_
    refine Sch.nil ?_
    refine run_seq (x := F7.c21) (y := F7.c22) (by kernel_rfl) ?_
    refine run_draw (id := 8) (ops := F7.o8) [] (Cw9) [(0, true), (2, true), (3, true), (1, false), (4, false), (5, true), (6, true), (7, true), (8, true), (9, true)] Try_mixed (by kernel_rfl) (by kernel_rfl) (by kernel_rfl) ?_
    intro w18 hs
    replace hF := hF.st hs
    replace hT := hT.trans hs (by simp)
    replace hl := hl.st hs (by first | decide | (simp <;> omega))
    replace hd := hd.st hs (by first | decide | (simp <;> omega)) (by first | decide | (simp <;> omega))
    replace g27 := g27.st hs (by first | decide | (simp <;> omega))
    replace hxa := hxa.st hs (by first | decide | (simp <;> omega))
    replace g30 := g30.st hs (by first | decide | (simp <;> omega))
    replace hxb := hxb.st hs (by first | decide | (simp <;> omega))
    replace g38 := g38.st hs (by first | decide | (simp <;> omega))
    replace h43 := h43.st hs (by first | decide | (simp <;> omega))
    replace gk1 := gk1.st hs (by first | decide | (simp <;> omega))
    have hR := Stp.refl [] w18 (Cw9)
    refine yS (by kernel_rfl : opAt F7.o8 0 = some (some 48, .load 28 (.tmp 5), none)) rfl rfl (fun w' hS => val_loadOwnAgg (n := 1) (hxb.stay hS (by decide)) (by kernel_rfl) (by kernel_rfl) rfl rfl rfl) ?_
    refine yS (by kernel_rfl : opAt F7.o8 2 = some (some 50, .move (.tmp 6), none)) rfl rfl (fun w' hS => val_move rfl) ?_
    refine sFR (e' := 3) (by kernel_rfl : opAt F7.o8 3 = some (some 51, .slice 22 (.tmp 50) (some (.const (.int .i64 2))) none none, none)) rfl rfl g38 rfl (by kernel_rfl) rfl (by decide) (by simp) ?_
    intro v51 h51
    replace h51 : RV _ _ ([(c : Int)] : List Int) v51 := h51
    refine aS (by kernel_rfl : opAt F7.o8 1 = some (some 49, .buildSlice 23 1 #[(0, (.tmp 48))], none)) rfl rfl (a_buildSlice (ys := apB) (e := 28) (bytes := 24) hF (by kernel_rfl) rfl (by decide) (by decide) ⟨rfl, ⟨_, rfl, rv_key g30⟩, trivial⟩) ?_
    rintro v49 w19 ⟨hs, gk2, hF⟩
    refine ⟨(hR.trans hs (by simp)).ext, ?_⟩
    replace hT := hT.trans hs (by simp)
    replace hl := hl.st hs (by first | decide | (simp <;> omega))
    replace hd := hd.st hs (by first | decide | (simp <;> omega)) (by first | decide | (simp <;> omega))
    replace g27 := g27.st hs (by first | decide | (simp <;> omega))
    replace hxa := hxa.st hs (by first | decide | (simp <;> omega))
    replace g30 := g30.st hs (by first | decide | (simp <;> omega))
    replace hxb := hxb.st hs (by first | decide | (simp <;> omega))
    replace g38 := g38.st hs (by first | decide | (simp <;> omega))
    replace h43 := h43.st hs (by first | decide | (simp <;> omega))
    replace gk1 := gk1.st hs (by first | decide | (simp <;> omega))
    replace hR := hR.trans hs (by simp)
    replace h51 := h51.st hs (by first | decide | (simp <;> omega))
    refine cS (by kernel_rfl : opAt F7.o8 4 = some (some 52, .call { callee := .value (.func 20), args := #[(.tmp 49), (.tmp 51), (.const (.int .i64 1))], argTypes := #[23, 22, 3] }, none)) rfl rfl (ent Try.call20 rfl) (missed_ok (ks := apB) (rs := [(c : Int)]) hF gk2 h51 apB_sm) ?_
    rintro vw20 w20 ⟨rfl, hs⟩
    refine ⟨(hR.trans hs (by simp)).ext, ?_⟩
    replace hF := hF.st hs
    replace hT := hT.trans hs (by simp)
    replace hl := hl.st hs (by first | decide | (simp <;> omega))
    replace hd := hd.st hs (by first | decide | (simp <;> omega)) (by first | decide | (simp <;> omega))
    replace g27 := g27.st hs (by first | decide | (simp <;> omega))
    replace hxa := hxa.st hs (by first | decide | (simp <;> omega))
    replace g30 := g30.st hs (by first | decide | (simp <;> omega))
    replace hxb := hxb.st hs (by first | decide | (simp <;> omega))
    replace g38 := g38.st hs (by first | decide | (simp <;> omega))
    replace h43 := h43.st hs (by first | decide | (simp <;> omega))
    replace gk1 := gk1.st hs (by first | decide | (simp <;> omega))
    replace hR := hR.trans hs (by simp)
    replace h51 := h51.st hs (by first | decide | (simp <;> omega))
    replace gk2 := gk2.st hs (by first | decide | (simp <;> omega))
    rw [eb]
    refine yS (by kernel_rfl : opAt F7.o8 5 = some (some 47, .move (.tmp 52), none)) rfl rfl (fun w' hS => val_move rfl) ?_
    refine yS (by kernel_rfl : opAt F7.o8 6 = some (some 53, .extract (.tmp 47) 0, none)) rfl rfl (fun w' hS => val_extract rfl rfl) ?_
    refine yS (by kernel_rfl : opAt F7.o8 7 = some (some 54, .extract (.tmp 47) 1, none)) rfl rfl (fun w' hS => val_extract rfl rfl) ?_
    refine yS (by kernel_rfl : opAt F7.o8 8 = some (some 9, .assign (.tmp 53), none)) rfl rfl (fun w' hS => val_assign rfl) ?_
    refine yS (by kernel_rfl : opAt F7.o8 9 = some (some 10, .assign (.tmp 54), none)) rfl rfl (fun w' hS => val_assign rfl) ?_
    refine Sch.nil ?_
    refine run_seq (x := F7.c23) (y := F7.c24) (by kernel_rfl) ?_
    refine run_plain (id := 9) (ops := F7.o9) [(0, false), (1, false), (2, false), (3, true), (4, false), (5, true), (6, true), (7, true), (8, true), (9, true)] (by kernel_rfl) (by kernel_rfl) ?_
    refine nS (by kernel_rfl : opAt F7.o9 0 = some (some 56, .load 28 (.tmp 4), none)) rfl rfl trivial (val_loadOwnAgg (n := 1) hxa.at_ (by kernel_rfl) (by kernel_rfl) rfl rfl rfl) ?_
    refine nS (by kernel_rfl : opAt F7.o9 1 = some (some 57, .load 28 (.tmp 5), none)) rfl rfl trivial (val_loadOwnAgg (n := 1) hxb.at_ (by kernel_rfl) (by kernel_rfl) rfl rfl rfl) ?_
    refine aS (by kernel_rfl : opAt F7.o9 2 = some (some 58, .buildSlice 23 2 #[(0, (.tmp 56)), (1, (.tmp 57))], none)) rfl rfl (a_buildSlice (ys := apAB) (e := 28) (bytes := 24) hF (by kernel_rfl) rfl (by decide) (by decide) ⟨rfl, ⟨_, rfl, rv_key g27⟩, rfl, ⟨_, rfl, rv_key g30⟩, trivial⟩) ?_
    rintro v58 w21 ⟨hs, gk3, hF⟩
    refine ⟨trivial, ?_⟩
    replace hT := hT.trans hs (by simp)
    replace hl := hl.st hs (by first | decide | (simp <;> omega))
    replace hd := hd.st hs (by first | decide | (simp <;> omega)) (by first | decide | (simp <;> omega))
    replace g27 := g27.st hs (by first | decide | (simp <;> omega))
    replace hxa := hxa.st hs (by first | decide | (simp <;> omega))
    replace g30 := g30.st hs (by first | decide | (simp <;> omega))
    replace hxb := hxb.st hs (by first | decide | (simp <;> omega))
    replace g38 := g38.st hs (by first | decide | (simp <;> omega))
    replace h43 := h43.st hs (by first | decide | (simp <;> omega))
    replace gk1 := gk1.st hs (by first | decide | (simp <;> omega))
    replace h51 := h51.st hs (by first | decide | (simp <;> omega))
    replace gk2 := gk2.st hs (by first | decide | (simp <;> omega))
    refine yS (by kernel_rfl : opAt F7.o9 3 = some (some 59, .move (.tmp 6), none)) rfl rfl (fun w' hS => val_move rfl) ?_
    refine cS (by kernel_rfl : opAt F7.o9 4 = some (some 60, .call { callee := .value (.func 20), args := #[(.tmp 58), (.tmp 59), (.const (.int .i64 3))], argTypes := #[23, 22, 3] }, none)) rfl rfl (ent Try.call20 rfl) (missed_ok (ks := apAB) (rs := [(a : Int), b, c]) hF gk3 g38 apAB_sm) ?_
    rintro vw22 w22 ⟨rfl, hs⟩
    refine ⟨trivial, ?_⟩
    replace hF := hF.st hs
    replace hT := hT.trans hs (by simp)
    replace hl := hl.st hs (by first | decide | (simp <;> omega))
    replace hd := hd.st hs (by first | decide | (simp <;> omega)) (by first | decide | (simp <;> omega))
    replace g27 := g27.st hs (by first | decide | (simp <;> omega))
    replace hxa := hxa.st hs (by first | decide | (simp <;> omega))
    replace g30 := g30.st hs (by first | decide | (simp <;> omega))
    replace hxb := hxb.st hs (by first | decide | (simp <;> omega))
    replace g38 := g38.st hs (by first | decide | (simp <;> omega))
    replace h43 := h43.st hs (by first | decide | (simp <;> omega))
    replace gk1 := gk1.st hs (by first | decide | (simp <;> omega))
    replace h51 := h51.st hs (by first | decide | (simp <;> omega))
    replace gk2 := gk2.st hs (by first | decide | (simp <;> omega))
    replace gk3 := gk3.st hs (by first | decide | (simp <;> omega))
    rw [eab]
    refine yS (by kernel_rfl : opAt F7.o9 5 = some (some 55, .move (.tmp 60), none)) rfl rfl (fun w' hS => val_move rfl) ?_
    refine yS (by kernel_rfl : opAt F7.o9 6 = some (some 61, .extract (.tmp 55) 0, none)) rfl rfl (fun w' hS => val_extract rfl rfl) ?_
    refine yS (by kernel_rfl : opAt F7.o9 7 = some (some 62, .extract (.tmp 55) 1, none)) rfl rfl (fun w' hS => val_extract rfl rfl) ?_
    refine yS (by kernel_rfl : opAt F7.o9 8 = some (some 11, .assign (.tmp 61), none)) rfl rfl (fun w' hS => val_assign rfl) ?_
    refine yS (by kernel_rfl : opAt F7.o9 9 = some (some 12, .assign (.tmp 62), none)) rfl rfl (fun w' hS => val_assign rfl) ?_
    refine Sch.nil ?_
    refine run_seq (x := F7.c25) (y := F7.c26) (by kernel_rfl) ?_
    refine run_plain (id := 10) (ops := F7.o10) [(0, false), (1, false), (2, false), (3, true), (4, false), (5, true), (6, true), (7, true), (8, true), (9, true)] (by kernel_rfl) (by kernel_rfl) ?_
    refine nS (by kernel_rfl : opAt F7.o10 0 = some (some 64, .load 28 (.tmp 5), none)) rfl rfl trivial (val_loadOwnAgg (n := 1) hxb.at_ (by kernel_rfl) (by kernel_rfl) rfl rfl rfl) ?_
    refine nS (by kernel_rfl : opAt F7.o10 1 = some (some 65, .load 28 (.tmp 4), none)) rfl rfl trivial (val_loadOwnAgg (n := 1) hxa.at_ (by kernel_rfl) (by kernel_rfl) rfl rfl rfl) ?_
    refine aS (by kernel_rfl : opAt F7.o10 2 = some (some 66, .buildSlice 23 2 #[(0, (.tmp 64)), (1, (.tmp 65))], none)) rfl rfl (a_buildSlice (ys := apBA) (e := 28) (bytes := 24) hF (by kernel_rfl) rfl (by decide) (by decide) ⟨rfl, ⟨_, rfl, rv_key g30⟩, rfl, ⟨_, rfl, rv_key g27⟩, trivial⟩) ?_
    rintro v66 w23 ⟨hs, gk4, hF⟩
    refine ⟨trivial, ?_⟩
    replace hT := hT.trans hs (by simp)
    replace hl := hl.st hs (by first | decide | (simp <;> omega))
    replace hd := hd.st hs (by first | decide | (simp <;> omega)) (by first | decide | (simp <;> omega))
    replace g27 := g27.st hs (by first | decide | (simp <;> omega))
    replace hxa := hxa.st hs (by first | decide | (simp <;> omega))
    replace g30 := g30.st hs (by first | decide | (simp <;> omega))
    replace hxb := hxb.st hs (by first | decide | (simp <;> omega))
    replace g38 := g38.st hs (by first | decide | (simp <;> omega))
    replace h43 := h43.st hs (by first | decide | (simp <;> omega))
    replace gk1 := gk1.st hs (by first | decide | (simp <;> omega))
    replace h51 := h51.st hs (by first | decide | (simp <;> omega))
    replace gk2 := gk2.st hs (by first | decide | (simp <;> omega))
    replace gk3 := gk3.st hs (by first | decide | (simp <;> omega))
    refine yS (by kernel_rfl : opAt F7.o10 3 = some (some 67, .move (.tmp 6), none)) rfl rfl (fun w' hS => val_move rfl) ?_
    refine cS (by kernel_rfl : opAt F7.o10 4 = some (some 68, .call { callee := .value (.func 20), args := #[(.tmp 66), (.tmp 67), (.const (.int .i64 3))], argTypes := #[23, 22, 3] }, none)) rfl rfl (ent Try.call20 rfl) (missed_ok (ks := apBA) (rs := [(a : Int), b, c]) hF gk4 g38 apBA_sm) ?_
    rintro vw24 w24 ⟨rfl, hs⟩
    refine ⟨trivial, ?_⟩
    replace hF := hF.st hs
    replace hT := hT.trans hs (by simp)
    replace hl := hl.st hs (by first | decide | (simp <;> omega))
    replace hd := hd.st hs (by first | decide | (simp <;> omega)) (by first | decide | (simp <;> omega))
    replace g27 := g27.st hs (by first | decide | (simp <;> omega))
    replace hxa := hxa.st hs (by first | decide | (simp <;> omega))
    replace g30 := g30.st hs (by first | decide | (simp <;> omega))
    replace hxb := hxb.st hs (by first | decide | (simp <;> omega))
    replace g38 := g38.st hs (by first | decide | (simp <;> omega))
    replace h43 := h43.st hs (by first | decide | (simp <;> omega))
    replace gk1 := gk1.st hs (by first | decide | (simp <;> omega))
    replace h51 := h51.st hs (by first | decide | (simp <;> omega))
    replace gk2 := gk2.st hs (by first | decide | (simp <;> omega))
    replace gk3 := gk3.st hs (by first | decide | (simp <;> omega))
    replace gk4 := gk4.st hs (by first | decide | (simp <;> omega))
    rw [eba]
    refine yS (by kernel_rfl : opAt F7.o10 5 = some (some 63, .move (.tmp 68), none)) rfl rfl (fun w' hS => val_move rfl) ?_
    refine yS (by kernel_rfl : opAt F7.o10 6 = some (some 69, .extract (.tmp 63) 0, none)) rfl rfl (fun w' hS => val_extract rfl rfl) ?_
    refine yS (by kernel_rfl : opAt F7.o10 7 = some (some 70, .extract (.tmp 63) 1, none)) rfl rfl (fun w' hS => val_extract rfl rfl) ?_
    refine yS (by kernel_rfl : opAt F7.o10 8 = some (some 13, .assign (.tmp 69), none)) rfl rfl (fun w' hS => val_assign rfl) ?_
    refine yS (by kernel_rfl : opAt F7.o10 9 = some (some 14, .assign (.tmp 70), none)) rfl rfl (fun w' hS => val_assign rfl) ?_
    refine Sch.nil ?_
    refine run_seq (x := F7.c27) (y := F7.c28) (by kernel_rfl) ?_
    refine run_draw (id := 11) (ops := F7.o11) [] (Cw9) [(0, true), (1, true), (2, true), (3, true), (4, true), (5, true), (6, true), (7, true), (8, true), (9, true), (10, true), (11, true), (12, true), (13, true), (14, true), (15, true), (16, true), (17, true), (18, true), (19, true), (20, true), (21, true), (22, true), (23, true), (24, true), (25, true), (26, true), (27, true), (28, true), (29, true), (30, true), (31, true), (32, true), (33, true), (34, true), (35, true), (36, true), (37, true), (38, true), (39, true), (40, true), (41, true), (42, true), (43, true), (44, true), (45, true), (46, true), (47, true)] Try_mixed (by kernel_rfl) (by kernel_rfl) (by kernel_rfl) ?_
    intro w25 hs
    replace hF := hF.st hs
    replace hT := hT.trans hs (by simp)
    replace hl := hl.st hs (by first | decide | (simp <;> omega))
    replace hd := hd.st hs (by first | decide | (simp <;> omega)) (by first | decide | (simp <;> omega))
    replace g27 := g27.st hs (by first | decide | (simp <;> omega))
    replace hxa := hxa.st hs (by first | decide | (simp <;> omega))
    replace g30 := g30.st hs (by first | decide | (simp <;> omega))
    replace hxb := hxb.st hs (by first | decide | (simp <;> omega))
    replace g38 := g38.st hs (by first | decide | (simp <;> omega))
    replace h43 := h43.st hs (by first | decide | (simp <;> omega))
    replace gk1 := gk1.st hs (by first | decide | (simp <;> omega))
    replace h51 := h51.st hs (by first | decide | (simp <;> omega))
    replace gk2 := gk2.st hs (by first | decide | (simp <;> omega))
    replace gk3 := gk3.st hs (by first | decide | (simp <;> omega))
    replace gk4 := gk4.st hs (by first | decide | (simp <;> omega))
    have h0 : 0 < 3 := by decide
    refine yS (by kernel_rfl : opAt F7.o11 0 = some (some 71, .move (.tmp 8), none)) rfl rfl (fun w' hS => val_move rfl) ?_
    refine yS (by kernel_rfl : opAt F7.o11 1 = some (some 72, .binOp .eql 37 (.tmp 71) (.const (.int .i64 0)) 37, none)) rfl rfl (fun w' hS => val_T (val_eql rfl rfl) rfl) ?_
    refine yS (by kernel_rfl : opAt F7.o11 2 = some (some 73, .move (.tmp 72), none)) rfl rfl (fun w' hS => val_move rfl) ?_
    refine yS (by kernel_rfl : opAt F7.o11 3 = some (some 74, .move (.tmp 10), (some (2, true)))) rfl rfl (fun w' hS => val_move rfl) ?_
    refine yS (by kernel_rfl : opAt F7.o11 4 = some (some 75, .binOp .eql 37 (.tmp 74) (.const (.int .i64 0)) 37, (some (2, true)))) rfl rfl (fun w' hS => val_T (val_eql rfl rfl) rfl) ?_
    refine yS (by kernel_rfl : opAt F7.o11 5 = some (some 76, .pick (.tmp 73) (.tmp 75) (.const (.bool false)), none)) rfl rfl (fun w' hS => val_pick_t rfl rfl) ?_
    refine yS (by kernel_rfl : opAt F7.o11 6 = some (some 77, .move (.tmp 76), none)) rfl rfl (fun w' hS => val_move rfl) ?_
    refine yS (by kernel_rfl : opAt F7.o11 7 = some (some 78, .move (.tmp 12), (some (6, true)))) rfl rfl (fun w' hS => val_move rfl) ?_
    refine yS (by kernel_rfl : opAt F7.o11 8 = some (some 79, .binOp .eql 37 (.tmp 78) (.const (.int .i64 0)) 37, (some (6, true)))) rfl rfl (fun w' hS => val_T (val_eql rfl rfl) rfl) ?_
    refine yS (by kernel_rfl : opAt F7.o11 9 = some (some 80, .pick (.tmp 77) (.tmp 79) (.const (.bool false)), none)) rfl rfl (fun w' hS => val_pick_t rfl rfl) ?_
    refine yS (by kernel_rfl : opAt F7.o11 10 = some (some 81, .move (.tmp 80), none)) rfl rfl (fun w' hS => val_move rfl) ?_
    refine yS (by kernel_rfl : opAt F7.o11 11 = some (some 82, .move (.tmp 14), (some (10, true)))) rfl rfl (fun w' hS => val_move rfl) ?_
    refine yS (by kernel_rfl : opAt F7.o11 12 = some (some 83, .binOp .eql 37 (.tmp 82) (.const (.int .i64 0)) 37, (some (10, true)))) rfl rfl (fun w' hS => val_T (val_eql rfl rfl) rfl) ?_
    refine yS (by kernel_rfl : opAt F7.o11 13 = some (some 84, .pick (.tmp 81) (.tmp 83) (.const (.bool false)), none)) rfl rfl (fun w' hS => val_pick_t rfl rfl) ?_
    refine yS (by kernel_rfl : opAt F7.o11 14 = some (some 85, .move (.tmp 84), none)) rfl rfl (fun w' hS => val_move rfl) ?_
    refine yS (by kernel_rfl : opAt F7.o11 15 = some (some 86, .move (.tmp 11), (some (14, true)))) rfl rfl (fun w' hS => val_move rfl) ?_
    refine yS (by kernel_rfl : opAt F7.o11 16 = some (some 87, .move (.tmp 7), (some (14, true)))) rfl rfl (fun w' hS => val_move rfl) ?_
    refine yS (by kernel_rfl : opAt F7.o11 17 = some (some 88, .move (.tmp 9), (some (14, true)))) rfl rfl (fun w' hS => val_move rfl) ?_
    refine yS (by kernel_rfl : opAt F7.o11 18 = some (some 89, .binOp .mul 3 (.tmp 87) (.tmp 88) 3, (some (14, true)))) rfl rfl (fun w' hS => val_muli rfl rfl (by omega) (by omega)) ?_
    refine yS (by kernel_rfl : opAt F7.o11 19 = some (some 90, .binOp .eql 3 (.tmp 86) (.tmp 89) 3, (some (14, true)))) rfl rfl (fun w' hS => val_T (val_eql rfl rfl) (by omega)) ?_
    refine yS (by kernel_rfl : opAt F7.o11 20 = some (some 91, .pick (.tmp 85) (.tmp 90) (.const (.bool false)), none)) rfl rfl (fun w' hS => val_pick_t rfl rfl) ?_
    refine yS (by kernel_rfl : opAt F7.o11 21 = some (some 92, .move (.tmp 91), none)) rfl rfl (fun w' hS => val_move rfl) ?_
    refine yS (by kernel_rfl : opAt F7.o11 22 = some (some 93, .move (.tmp 13), (some (21, true)))) rfl rfl (fun w' hS => val_move rfl) ?_
    refine yS (by kernel_rfl : opAt F7.o11 23 = some (some 94, .move (.tmp 11), (some (21, true)))) rfl rfl (fun w' hS => val_move rfl) ?_
    refine yS (by kernel_rfl : opAt F7.o11 24 = some (some 95, .binOp .eql 3 (.tmp 93) (.tmp 94) 3, (some (21, true)))) rfl rfl (fun w' hS => val_T (val_eql rfl rfl) rfl) ?_
    refine yS (by kernel_rfl : opAt F7.o11 25 = some (some 96, .pick (.tmp 92) (.tmp 95) (.const (.bool false)), none)) rfl rfl (fun w' hS => val_pick_t rfl rfl) ?_
    refine yS (by kernel_rfl : opAt F7.o11 26 = some (some 97, .move (.tmp 96), none)) rfl rfl (fun w' hS => val_move rfl) ?_
    refine yS (by kernel_rfl : opAt F7.o11 27 = some (some 98, .move (.tmp 9), (some (26, true)))) rfl rfl (fun w' hS => val_move rfl) ?_
    refine yS (by kernel_rfl : opAt F7.o11 28 = some (some 99, .move (.tmp 6), (some (26, true)))) rfl rfl (fun w' hS => val_move rfl) ?_
    refine iS (e := 3) (by kernel_rfl : opAt F7.o11 29 = some (some 100, .indexAddr 22 (.tmp 99) (.const (.int .i64 2)), (some (26, true)))) rfl rfl g38 rfl (by kernel_rfl) rfl (by decide) (by simp) ?_
    intro b100 o100 h100
    replace h100 : RA _ _ ((c : Int) : Int) b100 o100 := h100
    refine lS (by kernel_rfl : opAt F7.o11 30 = some (some 101, .load 3 (.tmp 100), (some (26, true)))) rfl rfl (fun w' hS => h100.stay hS (by decide)) h100 (by kernel_rfl) rfl rfl ?_
    intro v101 g101
    obtain rfl := rv_int.1 g101
    refine yS (by kernel_rfl : opAt F7.o11 31 = some (some 102, .binOp .eql 3 (.tmp 98) (.tmp 101) 3, (some (26, true)))) rfl rfl (fun w' hS => val_T (val_eql rfl rfl) (by omega)) ?_
    refine yS (by kernel_rfl : opAt F7.o11 32 = some (some 103, .pick (.tmp 97) (.tmp 102) (.const (.bool false)), none)) rfl rfl (fun w' hS => val_pick_t rfl rfl) ?_
    refine yS (by kernel_rfl : opAt F7.o11 33 = some (some 104, .move (.tmp 103), none)) rfl rfl (fun w' hS => val_move rfl) ?_
    refine yS (by kernel_rfl : opAt F7.o11 34 = some (some 105, .move (.tmp 7), (some (33, true)))) rfl rfl (fun w' hS => val_move rfl) ?_
    refine yS (by kernel_rfl : opAt F7.o11 35 = some (some 106, .move (.tmp 6), (some (33, true)))) rfl rfl (fun w' hS => val_move rfl) ?_
    refine iS (e := 3) (by kernel_rfl : opAt F7.o11 36 = some (some 107, .indexAddr 22 (.tmp 106) (.const (.int .i64 0)), (some (33, true)))) rfl rfl g38 rfl (by kernel_rfl) rfl (by decide) (by simp) ?_
    intro b107 o107 h107
    replace h107 : RA _ _ ((a : Int) : Int) b107 o107 := h107
    refine lS (by kernel_rfl : opAt F7.o11 37 = some (some 108, .load 3 (.tmp 107), (some (33, true)))) rfl rfl (fun w' hS => h107.stay hS (by decide)) h107 (by kernel_rfl) rfl rfl ?_
    intro v108 g108
    obtain rfl := rv_int.1 g108
    refine yS (by kernel_rfl : opAt F7.o11 38 = some (some 109, .binOp .sub 3 (.const (.int .i64 64)) (.tmp 108) 3, (some (33, true)))) rfl rfl (fun w' hS => val_subi rfl rfl (by omega) (by omega)) ?_
    refine yS (by kernel_rfl : opAt F7.o11 39 = some (some 110, .move (.tmp 6), (some (33, true)))) rfl rfl (fun w' hS => val_move rfl) ?_
    refine iS (e := 3) (by kernel_rfl : opAt F7.o11 40 = some (some 111, .indexAddr 22 (.tmp 110) (.const (.int .i64 1)), (some (33, true)))) rfl rfl g38 rfl (by kernel_rfl) rfl (by decide) (by simp) ?_
    intro b111 o111 h111
    replace h111 : RA _ _ ((b : Int) : Int) b111 o111 := h111
    refine lS (by kernel_rfl : opAt F7.o11 41 = some (some 112, .load 3 (.tmp 111), (some (33, true)))) rfl rfl (fun w' hS => h111.stay hS (by decide)) h111 (by kernel_rfl) rfl rfl ?_
    intro v112 g112
    obtain rfl := rv_int.1 g112
    refine yS (by kernel_rfl : opAt F7.o11 42 = some (some 113, .binOp .sub 3 (.const (.int .i64 64)) (.tmp 112) 3, (some (33, true)))) rfl rfl (fun w' hS => val_subi rfl rfl (by omega) (by omega)) ?_
    refine yS (by kernel_rfl : opAt F7.o11 43 = some (some 114, .binOp .mul 3 (.tmp 109) (.tmp 113) 3, (some (33, true)))) rfl rfl (fun w' hS => val_muli rfl rfl (by omega) (by omega)) ?_
    refine yS (by kernel_rfl : opAt F7.o11 44 = some (some 115, .binOp .sub 3 (.const (.int .i64 4096)) (.tmp 114) 3, (some (33, true)))) rfl rfl (fun w' hS => val_subi rfl rfl (by omega) (by omega)) ?_
    refine yS (by kernel_rfl : opAt F7.o11 45 = some (some 116, .binOp .eql 3 (.tmp 105) (.tmp 115) 3, (some (33, true)))) rfl rfl (fun w' hS => val_T (val_eql rfl rfl) (by omega)) ?_
    refine yS (by kernel_rfl : opAt F7.o11 46 = some (some 117, .pick (.tmp 104) (.tmp 116) (.const (.bool false)), none)) rfl rfl (fun w' hS => val_pick_t rfl rfl) ?_
    refine yS (by kernel_rfl : opAt F7.o11 47 = some (some 2, .assign (.tmp 117), none)) rfl rfl (fun w' hS => val_assign rfl) ?_
    refine Sch.nil ?_
    refine run_ret1 (by kernel_rfl) Try.func7 Try.results7 rfl ?_
    exact ⟨rfl, hT.out1 (by decide)⟩
namespace F7B
noncomputable def c0 : Code := bodyOf Try.f7
noncomputable def c1 : Code := cl c0
noncomputable def o0 : Array Oper := rops c1
noncomputable def c2 : Code := cr c0
noncomputable def c3 : Code := cl c2
noncomputable def c4 : Code := cl c3
noncomputable def o1 : Array Oper := rops c4
noncomputable def c5 : Code := cr c3
noncomputable def c6 : Code := cl c5
noncomputable def c7 : Code := cl c6
noncomputable def o2 : Array Oper := rops c7
noncomputable def c8 : Code := cr c6
noncomputable def c9 : Code := cr c5
noncomputable def c10 : Code := cr c2
noncomputable def c11 : Code := cl c10
noncomputable def o3 : Array Oper := rops c11
noncomputable def c12 : Code := cr c10
noncomputable def c13 : Code := cl c12
noncomputable def o4 : Array Oper := rops c13
noncomputable def c14 : Code := cr c12
noncomputable def c15 : Code := cl c14
noncomputable def o5 : Array Oper := rops c15
noncomputable def c16 : Code := cr c14
noncomputable def c17 : Code := cl c16
noncomputable def o6 : Array Oper := rops c17
noncomputable def c18 : Code := cr c16
noncomputable def c19 : Code := cl c18
noncomputable def o7 : Array Oper := rops c19
noncomputable def c20 : Code := cr c18
noncomputable def c21 : Code := cl c20
noncomputable def o8 : Array Oper := rops c21
noncomputable def c22 : Code := cr c20
noncomputable def c23 : Code := cl c22
noncomputable def o9 : Array Oper := rops c23
noncomputable def c24 : Code := cr c22
noncomputable def c25 : Code := cl c24
noncomputable def o10 : Array Oper := rops c25
noncomputable def c26 : Code := cr c24
noncomputable def c27 : Code := cl c26
noncomputable def o11 : Array Oper := rops c27
noncomputable def c28 : Code := cr c26
end F7B
/-- .. where more is handed than it looks at. -/
theorem plannerApart_big {w₀ : World} {C : Nat → Nat} {p : Option Addr} {n c : Nat} (hF : Lim w₀ C) (hn : 400 < n) : Calls Try.prog 7 #[.slice p n c] w₀ (Ret fun v w' => v = .bool true ∧ Stp [] w₀ C w' C) := by
  have hF0 := hF
  have hT := Stp.refl [2, 3, 4, 5, 6, 7, 8, 9] w₀ (col1 C)
  replace hF := hF.col1
  refine calls_start (c := F7B.c0) (N := 118) [.slice p n c] Try.func7 (by kernel_rfl) (by kernel_rfl) (by kernel_rfl) ?_
  show Run _ _ _ _ [(0, .slice p n c)] _ _
  refine run_seq (x := F7B.c1) (y := F7B.c2) (by kernel_rfl) ?_
  refine run_plain (id := 0) (ops := F7B.o0) [(0, true)] (by kernel_rfl) (by kernel_rfl) ?_
  refine yS (by kernel_rfl : opAt F7B.o0 0 = some (some 2, .assign (.const (.bool false)), none)) rfl rfl (fun w' hS => val_assign rfl) ?_
  refine Sch.nil ?_
  refine run_seq (x := F7B.c3) (y := F7B.c10) (by kernel_rfl) ?_
  refine run_seq (x := F7B.c4) (y := F7B.c5) (by kernel_rfl) ?_
  refine run_plain (id := 1) (ops := F7B.o1) [(0, false), (1, true), (2, true), (3, true), (4, false), (5, true), (6, true)] (by kernel_rfl) (by kernel_rfl) ?_
  refine cS (by kernel_rfl : opAt F7B.o1 0 = some (some 15, .call { callee := .value (.func 9), args := #[], argTypes := #[] }, none)) rfl rfl (ent Try.call9 rfl) (awake_ok hF) ?_
  rintro vw1 w1 ⟨rfl, hs⟩
  refine ⟨trivial, ?_⟩
  replace hF := hF.st hs
  replace hT := hT.trans hs (by simp)
  refine yS (by kernel_rfl : opAt F7B.o1 1 = some (some 16, .unOp .not 4 (.tmp 15), none)) rfl rfl (fun w' hS => val_not rfl) ?_
  refine yS (by kernel_rfl : opAt F7B.o1 2 = some (some 17, .move (.tmp 16), none)) rfl rfl (fun w' hS => val_move rfl) ?_
  refine yS (by kernel_rfl : opAt F7B.o1 3 = some (some 18, .move (.tmp 0), (some (2, false)))) rfl rfl (fun w' hS => val_move rfl) ?_
  refine cS (by kernel_rfl : opAt F7B.o1 4 = some (some 19, .call { callee := .value (.func 10), args := #[(.tmp 18)], argTypes := #[22] }, (some (2, false)))) rfl rfl (ent Try.call10 rfl) (few_ok _ _ _ _) ?_
  rintro vw2 w2 ⟨rfl, rfl⟩
  refine ⟨trivial, ?_⟩
  rw [decide_eq_false (show ¬ (n : Int) ≤ 400 by omega)]
  refine yS (by kernel_rfl : opAt F7B.o1 5 = some (some 20, .unOp .not 4 (.tmp 19), (some (2, false)))) rfl rfl (fun w' hS => val_not rfl) ?_
  refine yS (by kernel_rfl : opAt F7B.o1 6 = some (some 21, .pick (.tmp 17) (.const (.bool true)) (.tmp 20), none)) rfl rfl (fun w' hS => val_pick_f rfl rfl) ?_
  refine Sch.nil ?_
  refine run_cond (x := F7B.c6) (y := F7B.c9) (o := .tmp 21) (b := true) (by kernel_rfl) rfl (fun _ => ?_) (fun h => by cases h)
  refine run_seq (x := F7B.c7) (y := F7B.c8) (by kernel_rfl) ?_
  refine run_plain (id := 2) (ops := F7B.o2) [(0, false), (1, true)] (by kernel_rfl) (by kernel_rfl) ?_
  refine cS (by kernel_rfl : opAt F7B.o2 0 = some (some 22, .call { callee := .value (.func 9), args := #[], argTypes := #[] }, none)) rfl rfl (ent Try.call9 rfl) (awake_ok hF) ?_
  rintro vw3 w3 ⟨rfl, hs⟩
  refine ⟨trivial, ?_⟩
  replace hF := hF.st hs
  replace hT := hT.trans hs (by simp)
  refine yS (by kernel_rfl : opAt F7B.o2 1 = some (some 2, .assign (.tmp 22), none)) rfl rfl (fun w' hS => val_assign rfl) ?_
  refine Sch.nil ?_
  refine run_ret1 (by kernel_rfl) Try.func7 Try.results7 rfl ?_
  exact ⟨rfl, hT.out1 (by decide)⟩
end Go.Proofs.Ytpmokjccfaakfaa

