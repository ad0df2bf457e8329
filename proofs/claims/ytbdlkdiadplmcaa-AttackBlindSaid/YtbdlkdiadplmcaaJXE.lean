/- Steps through functions of the program. -/
import Derived.Test.YtbdlkdiadplmcaaJXD
import Derived.Test.YtbdlkdiadplmcaaL2
set_option linter.unusedVariables false
set_option linter.unusedSimpArgs false
set_option maxRecDepth 100000
set_option maxHeartbeats 4000000
namespace Go.Proofs.Ytbdlkdiadplmcaa
open Go.K Go.K.Rep

theorem copyo_ok {w₀ : World} {C : Nat → Nat} {x : Bits} {u : Value} (hF : Lim w₀ C) (hw : RV w₀ (Mc C) x.words u) (hlen : x.words.length ≤ 1000000) (j : Nat) (hj : j ≠ 0) : Calls Try.prog 28 #[.agg #[.int .i64 x.len, u]] w₀ (Ret fun v w' => ∃ C' u', v = .agg #[.int .i64 x.len, u'] ∧ Stp [] w₀ C w' C' ∧ Lim w' C' ∧ OwnL w' C' j 59 u' x.words) := by
  have hF0 := hF
  have hT := Stp.refl [2, 3, 4, 5, 6, 7, 8, 9] w₀ (col1 C)
  replace hF := hF.col1
  replace hw : RV w₀ (Mc (col1 C)) x.words u := by rw [Mc_col1]; exact hw
  refine calls_start (c := F28.c0) (N := 9) [.agg #[.int .i64 x.len, u]] Try.func28 (by kernel_rfl) (by kernel_rfl) (by kernel_rfl) ?_
  show Run _ _ _ _ [(0, .agg #[.int .i64 x.len, u])] _ _
  refine run_seq (x := F28.c1) (y := F28.c2) (by kernel_rfl) ?_
  refine run_plain (id := 0) (ops := F28.o0) [(0, false), (1, false)] (by kernel_rfl) (by kernel_rfl) ?_
  refine aS (by kernel_rfl : opAt F28.o0 0 = some (some 1, .box 33 (.tmp 0), none)) rfl rfl (a_box (cs := [.int .i64 x.len, u]) hF 3 rfl rfl) ?_
  rintro _ w1 ⟨Cw1, bw1, rfl, hs, hx, hF⟩
  refine ⟨trivial, ?_⟩
  replace hT := hT.trans hs (by simp)
  replace hw := hw.st hs (by first | decide | (simp <;> omega))
  refine aS (by kernel_rfl : opAt F28.o0 1 = some (some 2, .alloc 33, none)) rfl rfl (a_alloc (cs := [.int .i64 0, .slice none 0 0]) hF 4 (by kernel_rfl)) ?_
  rintro _ w2 ⟨Cw2, bw2, rfl, hs, hy, hF⟩
  refine ⟨trivial, ?_⟩
  replace hT := hT.trans hs (by simp)
  replace hw := hw.st hs (by first | decide | (simp <;> omega))
  replace hx := hx.st hs (by first | decide | (simp <;> omega))
  refine Sch.nil ?_
  refine run_seq (x := F28.c3) (y := F28.c4) (by kernel_rfl) ?_
  refine run_draw (id := 1) (ops := F28.o1) [4, 5] (Cw2) [(0, true), (1, true), (2, true), (3, true), (4, false), (5, true), (6, false)] Try_mixed (by kernel_rfl) (by kernel_rfl) (by kernel_rfl) ?_
  intro w3 hs
  replace hF := hF.st hs
  replace hT := hT.trans hs (by simp)
  replace hw := hw.st hs (by first | decide | (simp <;> omega))
  replace hx := hx.st hs (by first | decide | (simp <;> omega))
  replace hy := hy.st hs (by first | decide | (simp <;> omega))
  have hR := Stp.refl [4, 5] w3 (Cw2)
  refine yS (by kernel_rfl : opAt F28.o1 0 = some (some 3, .fieldAddr 33 (.tmp 1) 0, none)) rfl rfl (fun w' hS => val_fieldAddr (off := 0) (by kernel_rfl) rfl) ?_
  refine yS (by kernel_rfl : opAt F28.o1 1 = some (some 4, .load 3 (.tmp 3), none)) rfl rfl (fun w' hS => val_loadOwn (hx.stay hS (by decide)) (by kernel_rfl) rfl rfl) ?_
  refine yS (by kernel_rfl : opAt F28.o1 2 = some (some 5, .fieldAddr 33 (.tmp 1) 1, none)) rfl rfl (fun w' hS => val_fieldAddr (off := 1) (by kernel_rfl) rfl) ?_
  refine yS (by kernel_rfl : opAt F28.o1 3 = some (some 6, .load 31 (.tmp 5), none)) rfl rfl (fun w' hS => val_loadOwn (hx.stay hS (by decide)) (by kernel_rfl) rfl rfl) ?_
  refine aS (by kernel_rfl : opAt F28.o1 4 = some (some 7, .call { callee := .builtin .append, args := #[(.const (.slice none 0 0)), (.tmp 6)], argTypes := #[31, 31] }, none)) rfl rfl (a_append (e := 59) (bytes := 8) hF (by decide) rfl rfl (by kernel_rfl) (by decide) (OwnL.nil (α := U64) (j := 5)) hw (by simp only [List.length_nil]; omega) (by simp only [List.length_nil]; omega)) ?_
  rintro v7 w4 ⟨Cw4, hs, hn, hF⟩
  refine ⟨(hR.trans hs (by simp)).ext, ?_⟩
  replace hT := hT.trans hs (by simp)
  replace hw := hw.st hs (by first | decide | (simp <;> omega))
  replace hx := hx.st hs (by first | decide | (simp <;> omega))
  replace hy := hy.st hs (by first | decide | (simp <;> omega))
  replace hR := hR.trans hs (by simp)
  refine yS (by kernel_rfl : opAt F28.o1 5 = some (some 8, .build 33 #[(0, (.tmp 4)), (1, (.tmp 7))], none)) rfl rfl (fun w' hS => val_build (zs := [.int .i64 0, .slice none 0 0]) (ps := [(0, 1), (1, 1)]) (qs := [(0, [.int .i64 x.len]), (1, [v7])]) (cs := [.int .i64 x.len, v7]) (by kernel_rfl) (by kernel_rfl) (by exact ⟨rfl, ⟨_, rfl, rfl⟩, rfl, ⟨_, rfl, hn.one.1⟩, trivial⟩) rfl) ?_
  refine Sch.free rfl ?_
  refine aN (by kernel_rfl : opAt F28.o1 6 = some (none, .store 33 (.tmp 2) (.tmp 8), none)) rfl (a_storeAll (vs := [.int .i64 x.len, v7]) (n := 2) rfl rfl (by kernel_rfl) rfl rfl (by intro u hu; simp only [List.mem_cons, List.not_mem_nil, or_false] at hu; rcases hu with rfl | rfl <;> first | rfl | exact hn.one.2) hy rfl) ?_
  rintro _ w5 ⟨rfl, hs, hy⟩
  refine ⟨trivial, ?_⟩
  replace hF := hF.st hs
  replace hT := hT.trans hs (by simp)
  replace hw := hw.st hs (by first | decide | (simp <;> omega))
  replace hx := hx.st hs (by first | decide | (simp <;> omega))
  replace hn := hn.st hs (by first | decide | (simp <;> omega)) (by first | decide | (simp <;> omega))
  refine Sch.nil ?_
  simp only [List.nil_append] at hn
  refine run_retC1 (by kernel_rfl) Try.func28 Try.results28 rfl hy.at_ (by kernel_rfl) (by kernel_rfl) rfl ?_
  obtain ⟨Cg, hcg, hFg, hMg, hog⟩ := hn.give hT hF0 (Mc_col1 C) (fun b _ => col1_lt C (by decide) b) (by decide) j hj
  exact ⟨Cg, v7, rfl, (hT.out1 (by decide)).give hcg, hFg, hog⟩
namespace F39
noncomputable def c0 : Code := bodyOf Try.f39
noncomputable def c1 : Code := cl c0
noncomputable def o0 : Array Oper := rops c1
noncomputable def c2 : Code := cr c0
noncomputable def c3 : Code := cl c2
noncomputable def c4 : Code := cl c3
noncomputable def o1 : Array Oper := rops c4
noncomputable def c5 : Code := cr c3
noncomputable def c6 : Code := cl c5
noncomputable def c7 : Code := cl c6
noncomputable def o2 : Array Oper := rops c7
noncomputable def c8 : Code := cr c6
noncomputable def c9 : Code := cr c5
noncomputable def c10 : Code := cr c2
noncomputable def c11 : Code := cl c10
noncomputable def o3 : Array Oper := rops c11
noncomputable def c12 : Code := cr c10
noncomputable def c13 : Code := cl c12
noncomputable def c14 : Code := cl c13
noncomputable def o4 : Array Oper := rops c14
noncomputable def c15 : Code := cr c13
noncomputable def c16 : Code := cl c15
noncomputable def c17 : Code := cl c16
noncomputable def c18 : Code := cl c17
noncomputable def c19 : Code := cl c18
noncomputable def o5 : Array Oper := rops c19
noncomputable def c20 : Code := cr c18
noncomputable def c21 : Code := cl c20
noncomputable def c22 : Code := cr c20
noncomputable def c23 : Code := cr c17
noncomputable def c24 : Code := cl c23
noncomputable def c25 : Code := cl c24
noncomputable def c26 : Code := cl c25
noncomputable def o7 : Array Oper := rops c26
noncomputable def c27 : Code := cr c25
noncomputable def c28 : Code := cl c27
noncomputable def c29 : Code := cl c28
noncomputable def o9 : Array Oper := rops c29
noncomputable def c30 : Code := cr c28
noncomputable def c31 : Code := cl c30
noncomputable def o10 : Array Oper := rops c31
noncomputable def c32 : Code := cr c30
noncomputable def c33 : Code := cl c32
noncomputable def o11 : Array Oper := rops c33
noncomputable def c34 : Code := cr c32
noncomputable def c35 : Code := cl c34
noncomputable def o12 : Array Oper := rops c35
noncomputable def c36 : Code := cr c34
noncomputable def o8 : Array Oper := rops c36
noncomputable def c37 : Code := cr c23
noncomputable def o6 : Array Oper := rops c37
noncomputable def c38 : Code := cr c12
noncomputable def c39 : Code := cl c38
noncomputable def o13 : Array Oper := rops c39
noncomputable def c40 : Code := cr c38
end F39
theorem combine_ok {w₀ : World} {C : Nat → Nat} {a b : Bits} {u v : Value} (hF : Lim w₀ C) (hw : RV w₀ (Mc C) a.words u) (hz : RV w₀ (Mc C) b.words v) (hok : andOK a b) : Calls Try.prog 39 #[.agg #[.int .i64 a.len, u], .agg #[.int .i64 b.len, v], .int .i64 2] w₀ (Ret fun r w' => ∃ (z : Value), r = .tuple #[.agg #[.int .i64 a.len, z], .int .i64 0] ∧ Stp [] w₀ C w' C ∧ RV w' (Mc C) (xorB a b).words z) := by
  have hF0 := hF
  have hT := Stp.refl [2, 3, 4, 5, 6, 7, 8, 9] w₀ (col1 C)
  replace hF := hF.col1
  replace hw : RV w₀ (Mc (col1 C)) a.words u := by rw [Mc_col1]; exact hw
  replace hz : RV w₀ (Mc (col1 C)) b.words v := by rw [Mc_col1]; exact hz
  have hwl := and_words hok
  have hvw := valid_words hok.1
  refine calls_start (c := F39.c0) (N := 77) [.agg #[.int .i64 a.len, u], .agg #[.int .i64 b.len, v], .int .i64 2] Try.func39 (by kernel_rfl) (by kernel_rfl) (by kernel_rfl) ?_
  show Run _ _ _ _ [(0, .agg #[.int .i64 a.len, u]), (1, .agg #[.int .i64 b.len, v]), (2, .int .i64 2)] _ _
  refine run_seq (x := F39.c1) (y := F39.c2) (by kernel_rfl) ?_
  refine run_plain (id := 0) (ops := F39.o0) [(0, false), (1, false), (2, false), (3, true)] (by kernel_rfl) (by kernel_rfl) ?_
  refine aS (by kernel_rfl : opAt F39.o0 0 = some (some 3, .box 33 (.tmp 0), none)) rfl rfl (a_box (cs := [.int .i64 a.len, u]) hF 3 rfl rfl) ?_
  rintro _ w1 ⟨Cw1, bw1, rfl, hs, ha, hF⟩
  refine ⟨trivial, ?_⟩
  replace hT := hT.trans hs (by simp)
  replace hw := hw.st hs (by first | decide | (simp <;> omega))
  replace hz := hz.st hs (by first | decide | (simp <;> omega))
  refine aS (by kernel_rfl : opAt F39.o0 1 = some (some 4, .box 33 (.tmp 1), none)) rfl rfl (a_box (cs := [.int .i64 b.len, v]) hF 4 rfl rfl) ?_
  rintro _ w2 ⟨Cw2, bw2, rfl, hs, hb, hF⟩
  refine ⟨trivial, ?_⟩
  replace hT := hT.trans hs (by simp)
  replace hw := hw.st hs (by first | decide | (simp <;> omega))
  replace hz := hz.st hs (by first | decide | (simp <;> omega))
  replace ha := ha.st hs (by first | decide | (simp <;> omega))
  refine aS (by kernel_rfl : opAt F39.o0 2 = some (some 6, .alloc 33, none)) rfl rfl (a_alloc (cs := [.int .i64 0, .slice none 0 0]) hF 5 (by kernel_rfl)) ?_
  rintro _ w3 ⟨Cw3, bw3, rfl, hs, hr, hF⟩
  refine ⟨trivial, ?_⟩
  replace hT := hT.trans hs (by simp)
  replace hw := hw.st hs (by first | decide | (simp <;> omega))
  replace hz := hz.st hs (by first | decide | (simp <;> omega))
  replace ha := ha.st hs (by first | decide | (simp <;> omega))
  replace hb := hb.st hs (by first | decide | (simp <;> omega))
  refine yS (by kernel_rfl : opAt F39.o0 3 = some (some 7, .assign (.const (.int .i64 0)), none)) rfl rfl (fun w' hS => val_assign rfl) ?_
  refine Sch.nil ?_
  refine run_seq (x := F39.c3) (y := F39.c10) (by kernel_rfl) ?_
  refine run_seq (x := F39.c4) (y := F39.c5) (by kernel_rfl) ?_
  refine run_plain (id := 1) (ops := F39.o1) [(0, false), (1, false), (2, true), (3, true), (4, false), (5, false), (6, true), (7, true), (8, true), (9, true), (10, false), (11, true), (12, false), (13, true), (14, true)] (by kernel_rfl) (by kernel_rfl) ?_
  refine nS (by kernel_rfl : opAt F39.o1 0 = some (some 10, .load 33 (.tmp 3), none)) rfl rfl trivial (val_loadOwnAgg (n := 2) (vs := [.int .i64 a.len, u]) ha.at_ (by kernel_rfl) (by kernel_rfl) rfl rfl rfl) ?_
  refine cS (by kernel_rfl : opAt F39.o1 1 = some (some 11, .call { callee := .value (.func 13), args := #[(.tmp 10)], argTypes := #[33] }, none)) rfl rfl (ent Try.call13 rfl) (refValid_ok hF hw) ?_
  rintro vw4 w4 ⟨rfl, hs⟩
  refine ⟨trivial, ?_⟩
  replace hF := hF.st hs
  replace hT := hT.trans hs (by simp)
  replace hw := hw.st hs (by first | decide | (simp <;> omega))
  replace hz := hz.st hs (by first | decide | (simp <;> omega))
  replace ha := ha.st hs (by first | decide | (simp <;> omega))
  replace hb := hb.st hs (by first | decide | (simp <;> omega))
  replace hr := hr.st hs (by first | decide | (simp <;> omega))
  rw [hok.1]
  refine yS (by kernel_rfl : opAt F39.o1 2 = some (some 12, .unOp .not 4 (.tmp 11), none)) rfl rfl (fun w' hS => val_not rfl) ?_
  refine yS (by kernel_rfl : opAt F39.o1 3 = some (some 13, .move (.tmp 12), none)) rfl rfl (fun w' hS => val_move rfl) ?_
  refine nS (by kernel_rfl : opAt F39.o1 4 = some (some 14, .load 33 (.tmp 4), (some (3, false)))) rfl rfl trivial (val_loadOwnAgg (n := 2) (vs := [.int .i64 b.len, v]) hb.at_ (by kernel_rfl) (by kernel_rfl) rfl rfl rfl) ?_
  refine cS (by kernel_rfl : opAt F39.o1 5 = some (some 15, .call { callee := .value (.func 13), args := #[(.tmp 14)], argTypes := #[33] }, (some (3, false)))) rfl rfl (ent Try.call13 rfl) (refValid_ok hF hz) ?_
  rintro vw5 w5 ⟨rfl, hs⟩
  refine ⟨trivial, ?_⟩
  replace hF := hF.st hs
  replace hT := hT.trans hs (by simp)
  replace hw := hw.st hs (by first | decide | (simp <;> omega))
  replace hz := hz.st hs (by first | decide | (simp <;> omega))
  replace ha := ha.st hs (by first | decide | (simp <;> omega))
  replace hb := hb.st hs (by first | decide | (simp <;> omega))
  replace hr := hr.st hs (by first | decide | (simp <;> omega))
  rw [hok.2.1]
  refine yS (by kernel_rfl : opAt F39.o1 6 = some (some 16, .unOp .not 4 (.tmp 15), (some (3, false)))) rfl rfl (fun w' hS => val_not rfl) ?_
  refine yS (by kernel_rfl : opAt F39.o1 7 = some (some 17, .pick (.tmp 13) (.const (.bool true)) (.tmp 16), none)) rfl rfl (fun w' hS => val_pick_f rfl rfl) ?_
  refine yS (by kernel_rfl : opAt F39.o1 8 = some (some 18, .move (.tmp 17), none)) rfl rfl (fun w' hS => val_move rfl) ?_
  refine yS (by kernel_rfl : opAt F39.o1 9 = some (some 19, .fieldAddr 33 (.tmp 3) 0, (some (8, false)))) rfl rfl (fun w' hS => val_fieldAddr (off := 0) (by kernel_rfl) rfl) ?_
  refine nS (by kernel_rfl : opAt F39.o1 10 = some (some 20, .load 3 (.tmp 19), (some (8, false)))) rfl rfl trivial (val_loadOwn ha.at_ (by kernel_rfl) rfl rfl) ?_
  refine yS (by kernel_rfl : opAt F39.o1 11 = some (some 21, .fieldAddr 33 (.tmp 4) 0, (some (8, false)))) rfl rfl (fun w' hS => val_fieldAddr (off := 0) (by kernel_rfl) rfl) ?_
  refine nS (by kernel_rfl : opAt F39.o1 12 = some (some 22, .load 3 (.tmp 21), (some (8, false)))) rfl rfl trivial (val_loadOwn hb.at_ (by kernel_rfl) rfl rfl) ?_
  refine yS (by kernel_rfl : opAt F39.o1 13 = some (some 23, .binOp .neq 3 (.tmp 20) (.tmp 22) 3, (some (8, false)))) rfl rfl (fun w' hS => val_F (val_neq rfl rfl) (fun e => e hok.2.2)) ?_
  refine yS (by kernel_rfl : opAt F39.o1 14 = some (some 24, .pick (.tmp 18) (.const (.bool true)) (.tmp 23), none)) rfl rfl (fun w' hS => val_pick_f rfl rfl) ?_
  refine Sch.nil ?_
  refine run_cond (x := F39.c6) (y := F39.c9) (o := .tmp 24) (b := false) (by kernel_rfl) rfl (fun h => by cases h) (fun _ => ?_)
  refine run_skip (by kernel_rfl) ?_
  refine run_seq (x := F39.c11) (y := F39.c12) (by kernel_rfl) ?_
  refine run_plain (id := 3) (ops := F39.o3) [(0, false), (1, false), (2, false), (3, false)] (by kernel_rfl) (by kernel_rfl) ?_
  refine nS (by kernel_rfl : opAt F39.o3 0 = some (some 26, .load 33 (.tmp 3), none)) rfl rfl trivial (val_loadOwnAgg (n := 2) (vs := [.int .i64 a.len, u]) ha.at_ (by kernel_rfl) (by kernel_rfl) rfl rfl rfl) ?_
  refine cS (by kernel_rfl : opAt F39.o3 1 = some (some 27, .call { callee := .value (.func 28), args := #[(.tmp 26)], argTypes := #[33] }, none)) rfl rfl (ent Try.call28 rfl) (copyo_ok (x := a) hF hw (by omega) 7 (by decide)) ?_
  rintro vw6 w6 ⟨Cd, u2, rfl, hs, hF, ho⟩
  refine ⟨trivial, ?_⟩
  replace hT := hT.trans hs (by simp)
  replace hw := hw.st hs (by first | decide | (simp <;> omega))
  replace hz := hz.st hs (by first | decide | (simp <;> omega))
  replace ha := ha.st hs (by first | decide | (simp <;> omega))
  replace hb := hb.st hs (by first | decide | (simp <;> omega))
  replace hr := hr.st hs (by first | decide | (simp <;> omega))
  refine aS (by kernel_rfl : opAt F39.o3 2 = some (some 8, .alloc 33, none)) rfl rfl (a_alloc (cs := [.int .i64 0, .slice none 0 0]) hF 6 (by kernel_rfl)) ?_
  rintro _ w7 ⟨Cw7, bw7, rfl, hs, hc, hF⟩
  refine ⟨trivial, ?_⟩
  replace hT := hT.trans hs (by simp)
  replace hw := hw.st hs (by first | decide | (simp <;> omega))
  replace hz := hz.st hs (by first | decide | (simp <;> omega))
  replace ha := ha.st hs (by first | decide | (simp <;> omega))
  replace hb := hb.st hs (by first | decide | (simp <;> omega))
  replace hr := hr.st hs (by first | decide | (simp <;> omega))
  replace ho := ho.st hs (by first | decide | (simp <;> omega)) (by first | decide | (simp <;> omega))
  refine aN (by kernel_rfl : opAt F39.o3 3 = some (none, .store 33 (.tmp 8) (.tmp 27), none)) rfl (a_storeAll (vs := [.int .i64 a.len, u2]) (n := 2) rfl rfl (by kernel_rfl) rfl rfl (by intro z hz; simp only [List.mem_cons, List.not_mem_nil, or_false] at hz; rcases hz with rfl | rfl <;> first | rfl | exact ho.one.2) hc rfl) ?_
  rintro _ w8 ⟨rfl, hs, hc⟩
  refine ⟨trivial, ?_⟩
  replace hF := hF.st hs
  replace hT := hT.trans hs (by simp)
  replace hw := hw.st hs (by first | decide | (simp <;> omega))
  replace hz := hz.st hs (by first | decide | (simp <;> omega))
  replace ha := ha.st hs (by first | decide | (simp <;> omega))
  replace hb := hb.st hs (by first | decide | (simp <;> omega))
  replace hr := hr.st hs (by first | decide | (simp <;> omega))
  replace ho := ho.st hs (by first | decide | (simp <;> omega)) (by first | decide | (simp <;> omega))
  refine Sch.nil ?_
  refine run_seq (x := F39.c13) (y := F39.c38) (by kernel_rfl) ?_
  refine run_seq (x := F39.c14) (y := F39.c15) (by kernel_rfl) ?_
  refine run_plain (id := 4) (ops := F39.o4) [(0, true)] (by kernel_rfl) (by kernel_rfl) ?_
  refine yS (by kernel_rfl : opAt F39.o4 0 = some (some 9, .assign (.const (.int .i64 0)), none)) rfl rfl (fun w' hS => val_assign rfl) ?_
  refine Sch.nil ?_
  refine run_block (x := F39.c16) (id := 0) (by kernel_rfl) ?_
  
  refine run_loop (ι := Nat × (Nat → Nat)) (I := fun x w => x.1 ≤ a.words.length ∧ Lim w x.2 ∧ Stp [2, 3, 4, 5, 6, 7, 8, 9] w₀ (col1 C) w x.2 ∧ OwnB w x.2 4 bw2 (.cells [.int .i64 b.len, v].toArray 33) ∧ OwnB w x.2 5 bw3 (.cells [.int .i64 0, .slice none 0 0].toArray 33) ∧ OwnB w x.2 6 bw7 (.cells [.int .i64 a.len, u2].toArray 33) ∧ RV w (Mc x.2) b.words v ∧ OwnL w x.2 7 59 u2 (xorN a b x.1)) (e := fun x => [(2, .int .i64 2), (4, .pointer (some ⟨bw2, 0, none⟩)), (6, .pointer (some ⟨bw3, 0, none⟩)), (8, .pointer (some ⟨bw7, 0, none⟩)), (9, .int .i64 x.1)]) (m := fun x => a.words.length - x.1) (x₀ := (0, Cw7)) (body := F39.c17) (by kernel_rfl) (sub_cons 2 rfl rfl (sub_cons 4 rfl rfl (sub_cons 6 rfl rfl (sub_cons 8 rfl rfl (sub_cons 9 rfl rfl (sub_nil _)))))) ?_ ?_
  · exact ⟨Nat.zero_le _, hF, hT, hb, hr, hc, hz, ho⟩
  intro ⟨k, C1⟩ w9 hI next
  obtain ⟨hk, hF, hT, hb, hr, hc, hz, ho⟩ := hI
  try simp only at hk hF hT hb hr hc hz ho
  have next1 := next
  clear next
  show Run _ _ _ _ [(2, .int .i64 2), (4, .pointer (some ⟨bw2, 0, none⟩)), (6, .pointer (some ⟨bw3, 0, none⟩)), (8, .pointer (some ⟨bw7, 0, none⟩)), (9, .int .i64 k)] _ _
  have hxl := xorN_len (a := a) (b := b) (k := k) hwl
  refine run_seq (x := F39.c18) (y := F39.c23) (by kernel_rfl) ?_
  refine run_seq (x := F39.c19) (y := F39.c20) (by kernel_rfl) ?_
  refine run_plain (id := 5) (ops := F39.o5) [(0, true), (1, true), (2, false), (3, true), (4, true)] (by kernel_rfl) (by kernel_rfl) ?_
  refine yS (by kernel_rfl : opAt F39.o5 0 = some (some 28, .move (.tmp 9), none)) rfl rfl (fun w' hS => val_move rfl) ?_
  refine yS (by kernel_rfl : opAt F39.o5 1 = some (some 29, .fieldAddr 33 (.tmp 8) 1, none)) rfl rfl (fun w' hS => val_fieldAddr (off := 1) (by kernel_rfl) rfl) ?_
  refine nS (by kernel_rfl : opAt F39.o5 2 = some (some 30, .load 31 (.tmp 29), none)) rfl rfl trivial (val_loadOwn hc.at_ (by kernel_rfl) rfl rfl) ?_
  refine yS (by kernel_rfl : opAt F39.o5 3 = some (some 31, .call { callee := .builtin .len, args := #[(.tmp 30)], argTypes := #[31] }, none)) rfl rfl (fun w' hS => ho.lenV rfl Try.underlying31 w' ) ?_
  refine yS (by kernel_rfl : opAt F39.o5 4 = some (some 32, .binOp .lss 3 (.tmp 28) (.tmp 31) 3, none)) rfl rfl (fun w' hS => val_lss rfl rfl) ?_
  refine Sch.nil ?_
  refine run_if (x := F39.c21) (y := F39.c22) (o := .tmp 32) (by kernel_rfl) rfl (fun h32 => ?_) (fun h32 => ?_)
  · skip
    have hkl : k < a.words.length := by omega
    have hkl2 : k < b.words.length := by omega
    have hel := xorN_at (a := a) (b := b) (k := k) hkl hwl
    refine run_skip (by kernel_rfl) ?_
    refine run_seq (x := F39.c24) (y := F39.c37) (by kernel_rfl) ?_
    refine run_block (x := F39.c25) (id := 1) (by kernel_rfl) ?_
    refine run_seq (x := F39.c26) (y := F39.c27) (by kernel_rfl) ?_
    refine run_plain (id := 7) (ops := F39.o7) [(0, true)] (by kernel_rfl) (by kernel_rfl) ?_
    refine yS (by kernel_rfl : opAt F39.o7 0 = some (some 35, .move (.tmp 2), none)) rfl rfl (fun w' hS => val_move rfl) ?_
    refine Sch.nil ?_
    refine run_block (x := F39.c28) (id := 2) (by kernel_rfl) ?_
    refine run_seq (x := F39.c29) (y := F39.c30) (by kernel_rfl) ?_
    refine run_plain (id := 9) (ops := F39.o9) [(0, true), (1, true)] (by kernel_rfl) (by kernel_rfl) ?_
    refine yS (by kernel_rfl : opAt F39.o9 0 = some (some 49, .binOp .eql 3 (.tmp 35) (.const (.int .i64 0)) 3, none)) rfl rfl (fun w' hS => val_F (val_eql rfl rfl) (by decide)) ?_
    refine yS (by kernel_rfl : opAt F39.o9 1 = some (some 48, .assign (.tmp 49), none)) rfl rfl (fun w' hS => val_assign rfl) ?_
    refine Sch.nil ?_
    refine run_cond (x := F39.c31) (y := F39.c32) (o := .tmp 48) (b := false) (by kernel_rfl) rfl (fun h => by cases h) (fun _ => ?_)
    refine run_seq (x := F39.c33) (y := F39.c34) (by kernel_rfl) ?_
    refine run_plain (id := 11) (ops := F39.o11) [(0, true), (1, true)] (by kernel_rfl) (by kernel_rfl) ?_
    refine yS (by kernel_rfl : opAt F39.o11 0 = some (some 63, .binOp .eql 3 (.tmp 35) (.const (.int .i64 1)) 3, none)) rfl rfl (fun w' hS => val_F (val_eql rfl rfl) (by decide)) ?_
    refine yS (by kernel_rfl : opAt F39.o11 1 = some (some 62, .assign (.tmp 63), none)) rfl rfl (fun w' hS => val_assign rfl) ?_
    refine Sch.nil ?_
    refine run_cond (x := F39.c35) (y := F39.c36) (o := .tmp 62) (b := false) (by kernel_rfl) rfl (fun h => by cases h) (fun _ => ?_)
    refine run_draw (id := 8) (ops := F39.o8) [7] (C1) [(0, true), (1, true), (2, true), (3, true), (5, true), (6, true), (7, true), (8, true), (9, true), (4, false), (10, true), (11, true), (12, false)] Try_mixed (by kernel_rfl) (by kernel_rfl) (by kernel_rfl) ?_
    intro w10 hs
    replace hF := hF.st hs
    replace hT := hT.trans hs (by simp)
    replace hb := hb.st hs (by first | decide | (simp <;> omega))
    replace hr := hr.st hs (by first | decide | (simp <;> omega))
    replace hc := hc.st hs (by first | decide | (simp <;> omega))
    replace hz := hz.st hs (by first | decide | (simp <;> omega))
    replace ho := ho.st hs (by first | decide | (simp <;> omega)) (by first | decide | (simp <;> omega))
    have hR := Stp.refl [7] w10 (C1)
    refine yS (by kernel_rfl : opAt F39.o8 0 = some (some 36, .fieldAddr 33 (.tmp 8) 1, none)) rfl rfl (fun w' hS => val_fieldAddr (off := 1) (by kernel_rfl) rfl) ?_
    refine yS (by kernel_rfl : opAt F39.o8 1 = some (some 37, .load 31 (.tmp 36), none)) rfl rfl (fun w' hS => val_loadOwn (hc.stay hS (by decide)) (by kernel_rfl) rfl rfl) ?_
    refine yS (by kernel_rfl : opAt F39.o8 2 = some (some 38, .move (.tmp 9), none)) rfl rfl (fun w' hS => val_move rfl) ?_
    refine oI (e' := 59) (by kernel_rfl : opAt F39.o8 3 = some (some 39, .indexAddr 31 (.tmp 37) (.tmp 38), none)) rfl rfl ho rfl (by kernel_rfl) rfl (by omega) (by omega) ?_
    intro g39 hg39
    try simp only [Int.toNat_natCast]
    refine yS (by kernel_rfl : opAt F39.o8 5 = some (some 41, .fieldAddr 33 (.tmp 4) 1, none)) rfl rfl (fun w' hS => val_fieldAddr (off := 1) (by kernel_rfl) rfl) ?_
    refine yS (by kernel_rfl : opAt F39.o8 6 = some (some 42, .load 31 (.tmp 41), none)) rfl rfl (fun w' hS => val_loadOwn (hb.stay hS (by decide)) (by kernel_rfl) rfl rfl) ?_
    refine yS (by kernel_rfl : opAt F39.o8 7 = some (some 43, .move (.tmp 9), none)) rfl rfl (fun w' hS => val_move rfl) ?_
    refine iS (e := 59) (by kernel_rfl : opAt F39.o8 8 = some (some 44, .indexAddr 31 (.tmp 42) (.tmp 43), none)) rfl rfl hz rfl (by kernel_rfl) rfl (by omega) (by omega) ?_
    intro b44 o44 h44
    try simp only [Int.toNat_natCast] at h44
    refine lS (by kernel_rfl : opAt F39.o8 9 = some (some 45, .load 59 (.tmp 44), none)) rfl rfl (fun w' hS => h44.stay hS (by first | decide | (simp <;> omega))) h44 (by kernel_rfl) rfl rfl ?_
    intro v45 g45
    obtain rfl := rv_num.1 g45
    refine oN (by kernel_rfl : opAt F39.o8 4 = some (some 40, .load 59 (.tmp 39), none)) rfl rfl hR.ext ho hg39 (by omega) (by kernel_rfl) rfl rfl ?_
    intro v40 g40
    try simp only [Int.toNat_natCast] at g40
    obtain rfl := rv_num.1 g40
    rw [hel]
    refine yS (by kernel_rfl : opAt F39.o8 10 = some (some 46, .binOp .xor 59 (.tmp 40) (.tmp 45) 59, none)) rfl rfl (fun w' hS => val_xor rfl rfl) ?_
    refine oI (e' := 59) (by kernel_rfl : opAt F39.o8 11 = some (some 47, .indexAddr 31 (.tmp 37) (.tmp 38), none)) rfl rfl ho rfl (by kernel_rfl) rfl (by omega) (by omega) ?_
    intro g47 hg47
    try simp only [Int.toNat_natCast]
    refine Sch.free rfl ?_
    refine aN (by kernel_rfl : opAt F39.o8 12 = some (none, .store 59 (.tmp 47) (.tmp 46), none)) rfl (a_storeO ho hg47 (by omega) rfl rfl (by kernel_rfl) (x0 := xorU a.words[k] b.words[k]) (rv_num.2 rfl)) ?_
    rintro _ w11 ⟨rfl, hs, ho⟩
    refine ⟨trivial, ?_⟩
    replace hF := hF.st hs
    replace hT := hT.trans hs (by simp)
    replace hb := hb.st hs (by first | decide | (simp <;> omega))
    replace hr := hr.st hs (by first | decide | (simp <;> omega))
    replace hc := hc.st hs (by first | decide | (simp <;> omega))
    replace hz := hz.st hs (by first | decide | (simp <;> omega))
    replace h44 := h44.st hs (by first | decide | (simp <;> omega))
    refine Sch.nil ?_
    refine run_inBlock ?_
    refine run_inBlock ?_
    refine run_plain (id := 6) (ops := F39.o6) [(0, true), (1, true), (2, true)] (by kernel_rfl) (by kernel_rfl) ?_
    refine yS (by kernel_rfl : opAt F39.o6 0 = some (some 33, .move (.tmp 9), none)) rfl rfl (fun w' hS => val_move rfl) ?_
    refine yS (by kernel_rfl : opAt F39.o6 1 = some (some 34, .binOp .add 3 (.tmp 33) (.const (.int .i64 1)) 3, none)) rfl rfl (fun w' hS => val_addi rfl rfl (by omega) (by omega)) ?_
    refine yS (by kernel_rfl : opAt F39.o6 2 = some (some 9, .assign (.tmp 34), none)) rfl rfl (fun w' hS => val_assign rfl) ?_
    refine Sch.nil ?_
    refine kp (sub_cons 2 rfl rfl (sub_cons 4 rfl rfl (sub_cons 6 rfl rfl (sub_cons 8 rfl rfl (sub_cons 9 rfl (eq_int (by simp)) (sub_nil _)))))) (next1 (k + 1, C1) _ ⟨(by first | omega | (simp only; omega)), hF, hT, hb, hr, hc, hz, (by simp only; rw [← xorN_set hkl hkl2]; exact ho)⟩ (by first | omega | (simp only; omega)))
  · skip
    have hkl : k = a.words.length := by omega
    rw [hkl, xorN_all hwl] at ho
    have hzz : (xorB a b).words.length ≤ 8 := by show (List.zipWith xorU a.words b.words).length ≤ 8; rw [List.length_zipWith]; omega
    refine run_exit (id := 0) (by kernel_rfl) rfl ?_
    refine run_seq (x := F39.c39) (y := F39.c40) (by kernel_rfl) ?_
    refine run_plain (id := 13) (ops := F39.o13) [(0, false), (1, false), (2, true)] (by kernel_rfl) (by kernel_rfl) ?_
    refine nS (by kernel_rfl : opAt F39.o13 0 = some (some 76, .load 33 (.tmp 8), none)) rfl rfl trivial (val_loadOwnAgg (n := 2) (vs := [.int .i64 a.len, u2]) hc.at_ (by kernel_rfl) (by kernel_rfl) rfl rfl rfl) ?_
    refine aN (by kernel_rfl : opAt F39.o13 1 = some (none, .store 33 (.tmp 6) (.tmp 76), none)) rfl (a_storeAll (vs := [.int .i64 a.len, u2]) (n := 2) rfl rfl (by kernel_rfl) rfl rfl (by intro z hz; simp only [List.mem_cons, List.not_mem_nil, or_false] at hz; rcases hz with rfl | rfl <;> first | rfl | exact ho.one.2) hr rfl) ?_
    rintro _ w12 ⟨rfl, hs, hr⟩
    refine ⟨trivial, ?_⟩
    replace hF := hF.st hs
    replace hT := hT.trans hs (by simp)
    replace hb := hb.st hs (by first | decide | (simp <;> omega))
    replace hc := hc.st hs (by first | decide | (simp <;> omega))
    replace hz := hz.st hs (by first | decide | (simp <;> omega))
    replace ho := ho.st hs (by first | decide | (simp <;> omega)) (by first | decide | (simp <;> omega))
    refine yS (by kernel_rfl : opAt F39.o13 2 = some (some 7, .assign (.const (.int .i64 0)), none)) rfl rfl (fun w' hS => val_assign rfl) ?_
    refine Sch.nil ?_
    refine run_retC2 (by kernel_rfl) Try.func39 Try.results39 rfl rfl hr.at_ (by kernel_rfl) (by kernel_rfl) rfl ?_
    exact ⟨u2, rfl, hT.out1 (by decide), ho.out hT hF0 (Mc_col1 C) (fun b _ => col1_lt C (by decide) b) (by omega)⟩
namespace F16
noncomputable def c0 : Code := bodyOf Try.f16
noncomputable def c1 : Code := cl c0
noncomputable def o0 : Array Oper := rops c1
noncomputable def c2 : Code := cr c0
noncomputable def c3 : Code := cl c2
noncomputable def o1 : Array Oper := rops c3
noncomputable def c4 : Code := cr c2
end F16
theorem xor_ok {w₀ : World} {C : Nat → Nat} {a b : Bits} {u v : Value} (hF : Lim w₀ C) (hw : RV w₀ (Mc C) a.words u) (hz : RV w₀ (Mc C) b.words v) (hok : andOK a b) : Calls Try.prog 16 #[.agg #[.int .i64 a.len, u], .agg #[.int .i64 b.len, v]] w₀ (Ret fun r w' => ∃ (z : Value), r = .tuple #[.agg #[.int .i64 a.len, z], .int .i64 0] ∧ Stp [] w₀ C w' C ∧ RV w' (Mc C) (xorB a b).words z) := by
  have hF0 := hF
  have hT := Stp.refl [2, 3, 4, 5, 6, 7, 8, 9] w₀ (col1 C)
  replace hF := hF.col1
  replace hw : RV w₀ (Mc (col1 C)) a.words u := by rw [Mc_col1]; exact hw
  replace hz : RV w₀ (Mc (col1 C)) b.words v := by rw [Mc_col1]; exact hz
  have hwl := and_words hok
  have hvw := valid_words hok.1
  refine calls_start (c := F16.c0) (N := 11) [.agg #[.int .i64 a.len, u], .agg #[.int .i64 b.len, v]] Try.func16 (by kernel_rfl) (by kernel_rfl) (by kernel_rfl) ?_
  show Run _ _ _ _ [(0, .agg #[.int .i64 a.len, u]), (1, .agg #[.int .i64 b.len, v])] _ _
  refine run_seq (x := F16.c1) (y := F16.c2) (by kernel_rfl) ?_
  refine run_plain (id := 0) (ops := F16.o0) [(0, false), (1, false), (2, false), (3, true)] (by kernel_rfl) (by kernel_rfl) ?_
  refine aS (by kernel_rfl : opAt F16.o0 0 = some (some 2, .box 33 (.tmp 0), none)) rfl rfl (a_box (cs := [.int .i64 a.len, u]) hF 3 rfl rfl) ?_
  rintro _ w1 ⟨Cw1, bw1, rfl, hs, ha, hF⟩
  refine ⟨trivial, ?_⟩
  replace hT := hT.trans hs (by simp)
  replace hw := hw.st hs (by first | decide | (simp <;> omega))
  replace hz := hz.st hs (by first | decide | (simp <;> omega))
  refine aS (by kernel_rfl : opAt F16.o0 1 = some (some 3, .box 33 (.tmp 1), none)) rfl rfl (a_box (cs := [.int .i64 b.len, v]) hF 4 rfl rfl) ?_
  rintro _ w2 ⟨Cw2, bw2, rfl, hs, hb, hF⟩
  refine ⟨trivial, ?_⟩
  replace hT := hT.trans hs (by simp)
  replace hw := hw.st hs (by first | decide | (simp <;> omega))
  replace hz := hz.st hs (by first | decide | (simp <;> omega))
  replace ha := ha.st hs (by first | decide | (simp <;> omega))
  refine aS (by kernel_rfl : opAt F16.o0 2 = some (some 4, .alloc 33, none)) rfl rfl (a_alloc (cs := [.int .i64 0, .slice none 0 0]) hF 5 (by kernel_rfl)) ?_
  rintro _ w3 ⟨Cw3, bw3, rfl, hs, hr, hF⟩
  refine ⟨trivial, ?_⟩
  replace hT := hT.trans hs (by simp)
  replace hw := hw.st hs (by first | decide | (simp <;> omega))
  replace hz := hz.st hs (by first | decide | (simp <;> omega))
  replace ha := ha.st hs (by first | decide | (simp <;> omega))
  replace hb := hb.st hs (by first | decide | (simp <;> omega))
  refine yS (by kernel_rfl : opAt F16.o0 3 = some (some 5, .assign (.const (.int .i64 0)), none)) rfl rfl (fun w' hS => val_assign rfl) ?_
  refine Sch.nil ?_
  refine run_seq (x := F16.c3) (y := F16.c4) (by kernel_rfl) ?_
  refine run_plain (id := 1) (ops := F16.o1) [(0, false), (1, false), (2, false), (3, true), (4, true), (5, false), (6, true)] (by kernel_rfl) (by kernel_rfl) ?_
  refine nS (by kernel_rfl : opAt F16.o1 0 = some (some 6, .load 33 (.tmp 2), none)) rfl rfl trivial (val_loadOwnAgg (n := 2) (vs := [.int .i64 a.len, u]) ha.at_ (by kernel_rfl) (by kernel_rfl) rfl rfl rfl) ?_
  refine nS (by kernel_rfl : opAt F16.o1 1 = some (some 7, .load 33 (.tmp 3), none)) rfl rfl trivial (val_loadOwnAgg (n := 2) (vs := [.int .i64 b.len, v]) hb.at_ (by kernel_rfl) (by kernel_rfl) rfl rfl rfl) ?_
  refine cS (by kernel_rfl : opAt F16.o1 2 = some (some 8, .call { callee := .value (.func 39), args := #[(.tmp 6), (.tmp 7), (.const (.int .i64 2))], argTypes := #[33, 33, 3] }, none)) rfl rfl (ent Try.call39 rfl) (combine_ok hF hw hz hok) ?_
  rintro vw4 w4 ⟨z, rfl, hs, hcz⟩
  refine ⟨trivial, ?_⟩
  replace hF := hF.st hs
  replace hT := hT.trans hs (by simp)
  replace hw := hw.st hs (by first | decide | (simp <;> omega))
  replace hz := hz.st hs (by first | decide | (simp <;> omega))
  replace ha := ha.st hs (by first | decide | (simp <;> omega))
  replace hb := hb.st hs (by first | decide | (simp <;> omega))
  replace hr := hr.st hs (by first | decide | (simp <;> omega))
  refine yS (by kernel_rfl : opAt F16.o1 3 = some (some 9, .extract (.tmp 8) 0, none)) rfl rfl (fun w' hS => val_extract rfl rfl) ?_
  refine yS (by kernel_rfl : opAt F16.o1 4 = some (some 10, .extract (.tmp 8) 1, none)) rfl rfl (fun w' hS => val_extract rfl rfl) ?_
  refine aN (by kernel_rfl : opAt F16.o1 5 = some (none, .store 33 (.tmp 4) (.tmp 9), none)) rfl (a_storeAll (vs := [.int .i64 a.len, z]) (n := 2) rfl rfl (by kernel_rfl) rfl rfl (by intro z hz; simp only [List.mem_cons, List.not_mem_nil, or_false] at hz; rcases hz with rfl | rfl <;> first | rfl | exact (hcz.one rfl).2) hr rfl) ?_
  rintro _ w5 ⟨rfl, hs, hr⟩
  refine ⟨trivial, ?_⟩
  replace hF := hF.st hs
  replace hT := hT.trans hs (by simp)
  replace hw := hw.st hs (by first | decide | (simp <;> omega))
  replace hz := hz.st hs (by first | decide | (simp <;> omega))
  replace ha := ha.st hs (by first | decide | (simp <;> omega))
  replace hb := hb.st hs (by first | decide | (simp <;> omega))
  replace hcz := hcz.st hs (by first | decide | (simp <;> omega))
  refine yS (by kernel_rfl : opAt F16.o1 6 = some (some 5, .assign (.tmp 10), none)) rfl rfl (fun w' hS => val_assign rfl) ?_
  refine Sch.nil ?_
  refine run_retC2 (by kernel_rfl) Try.func16 Try.results16 rfl rfl hr.at_ (by kernel_rfl) (by kernel_rfl) rfl ?_
  exact ⟨z, rfl, hT.out1 (by decide), hcz.out hT hF0 (Mc_col1 C)⟩
namespace F19
noncomputable def c0 : Code := bodyOf Try.f19
noncomputable def c1 : Code := cl c0
noncomputable def o0 : Array Oper := rops c1
noncomputable def c2 : Code := cr c0
noncomputable def c3 : Code := cl c2
noncomputable def c4 : Code := cl c3
noncomputable def o1 : Array Oper := rops c4
noncomputable def c5 : Code := cr c3
noncomputable def c6 : Code := cl c5
noncomputable def c7 : Code := cl c6
noncomputable def o2 : Array Oper := rops c7
noncomputable def c8 : Code := cr c6
noncomputable def c9 : Code := cr c5
noncomputable def c10 : Code := cr c2
noncomputable def c11 : Code := cl c10
noncomputable def c12 : Code := cl c11
noncomputable def o3 : Array Oper := rops c12
noncomputable def c13 : Code := cr c11
noncomputable def c14 : Code := cl c13
noncomputable def c15 : Code := cl c14
noncomputable def c16 : Code := cl c15
noncomputable def c17 : Code := cl c16
noncomputable def o4 : Array Oper := rops c17
noncomputable def c18 : Code := cr c16
noncomputable def c19 : Code := cl c18
noncomputable def c20 : Code := cr c18
noncomputable def c21 : Code := cr c15
noncomputable def c22 : Code := cl c21
noncomputable def c23 : Code := cl c22
noncomputable def c24 : Code := cl c23
noncomputable def o6 : Array Oper := rops c24
noncomputable def c25 : Code := cr c23
noncomputable def c26 : Code := cl c25
noncomputable def c27 : Code := cl c26
noncomputable def o7 : Array Oper := rops c27
noncomputable def c28 : Code := cr c26
noncomputable def c29 : Code := cr c25
noncomputable def c30 : Code := cr c21
noncomputable def o5 : Array Oper := rops c30
noncomputable def c31 : Code := cr c10
noncomputable def c32 : Code := cl c31
noncomputable def o8 : Array Oper := rops c32
noncomputable def c33 : Code := cr c31
end F19
theorem sameG_ok {w₀ : World} {C : Nat → Nat} {l : List Gss} {v1 v2 : Value} (hF : Lim w₀ C) (h1 : RV w₀ (Mc C) l v1) (h2 : RV w₀ (Mc C) l v2) : Calls Try.prog 19 #[v1, v2] w₀ (Ret fun v w' => v = .bool true ∧ Stp [] w₀ C w' C) := by
  have hF0 := hF
  have hT := Stp.refl [2, 3, 4, 5, 6, 7, 8, 9] w₀ (col1 C)
  replace hF := hF.col1
  replace h1 : RV w₀ (Mc (col1 C)) l v1 := by rw [Mc_col1]; exact h1
  replace h2 : RV w₀ (Mc (col1 C)) l v2 := by rw [Mc_col1]; exact h2
  have hle := h1.le
  refine calls_start (c := F19.c0) (N := 26) [v1, v2] Try.func19 (by kernel_rfl) (by kernel_rfl) (by kernel_rfl) ?_
  show Run _ _ _ _ [(0, v1), (1, v2)] _ _
  refine run_seq (x := F19.c1) (y := F19.c2) (by kernel_rfl) ?_
  refine run_plain (id := 0) (ops := F19.o0) [(0, true)] (by kernel_rfl) (by kernel_rfl) ?_
  refine yS (by kernel_rfl : opAt F19.o0 0 = some (some 4, .assign (.const (.bool false)), none)) rfl rfl (fun w' hS => val_assign rfl) ?_
  refine Sch.nil ?_
  refine run_seq (x := F19.c3) (y := F19.c10) (by kernel_rfl) ?_
  refine run_seq (x := F19.c4) (y := F19.c5) (by kernel_rfl) ?_
  refine run_plain (id := 1) (ops := F19.o1) [(0, true), (1, true), (2, true), (3, true), (4, true)] (by kernel_rfl) (by kernel_rfl) ?_
  refine yS (by kernel_rfl : opAt F19.o1 0 = some (some 6, .move (.tmp 0), none)) rfl rfl (fun w' hS => val_move rfl) ?_
  refine yS (by kernel_rfl : opAt F19.o1 1 = some (some 7, .call { callee := .builtin .len, args := #[(.tmp 6)], argTypes := #[45] }, none)) rfl rfl (fun w' hS => h1.lenV rfl Try.underlying45 w' ) ?_
  refine yS (by kernel_rfl : opAt F19.o1 2 = some (some 8, .move (.tmp 1), none)) rfl rfl (fun w' hS => val_move rfl) ?_
  refine yS (by kernel_rfl : opAt F19.o1 3 = some (some 9, .call { callee := .builtin .len, args := #[(.tmp 8)], argTypes := #[45] }, none)) rfl rfl (fun w' hS => h2.lenV rfl Try.underlying45 w' ) ?_
  refine yS (by kernel_rfl : opAt F19.o1 4 = some (some 10, .binOp .neq 3 (.tmp 7) (.tmp 9) 3, none)) rfl rfl (fun w' hS => val_F (val_neq rfl rfl) (fun e => e rfl)) ?_
  refine Sch.nil ?_
  refine run_cond (x := F19.c6) (y := F19.c9) (o := .tmp 10) (b := false) (by kernel_rfl) rfl (fun h => by cases h) (fun _ => ?_)
  refine run_skip (by kernel_rfl) ?_
  refine run_seq (x := F19.c11) (y := F19.c31) (by kernel_rfl) ?_
  refine run_seq (x := F19.c12) (y := F19.c13) (by kernel_rfl) ?_
  refine run_plain (id := 3) (ops := F19.o3) [(0, true)] (by kernel_rfl) (by kernel_rfl) ?_
  refine yS (by kernel_rfl : opAt F19.o3 0 = some (some 5, .assign (.const (.int .i64 0)), none)) rfl rfl (fun w' hS => val_assign rfl) ?_
  refine Sch.nil ?_
  refine run_block (x := F19.c14) (id := 0) (by kernel_rfl) ?_
  
  refine run_loop (ι := Nat × (Nat → Nat)) (I := fun x w => x.1 ≤ l.length ∧ Lim w x.2 ∧ Stp [2, 3, 4, 5, 6, 7, 8, 9] w₀ (col1 C) w x.2 ∧ RV w (Mc x.2) l v1 ∧ RV w (Mc x.2) l v2) (e := fun x => [(0, v1), (1, v2), (5, .int .i64 x.1)]) (m := fun x => l.length - x.1) (x₀ := (0, col1 C)) (body := F19.c15) (by kernel_rfl) (sub_cons 0 rfl rfl (sub_cons 1 rfl rfl (sub_cons 5 rfl rfl (sub_nil _)))) ?_ ?_
  · exact ⟨Nat.zero_le _, hF, hT, h1, h2⟩
  intro ⟨k, C1⟩ w1 hI next
  obtain ⟨hk, hF, hT, h1, h2⟩ := hI
  try simp only at hk hF hT h1 h2
  have next1 := next
  clear next
  show Run _ _ _ _ [(0, v1), (1, v2), (5, .int .i64 k)] _ _
  have hle := h1.le
  refine run_seq (x := F19.c16) (y := F19.c21) (by kernel_rfl) ?_
  refine run_seq (x := F19.c17) (y := F19.c18) (by kernel_rfl) ?_
  refine run_plain (id := 4) (ops := F19.o4) [(0, true), (1, true), (2, true), (3, true)] (by kernel_rfl) (by kernel_rfl) ?_
  refine yS (by kernel_rfl : opAt F19.o4 0 = some (some 11, .move (.tmp 5), none)) rfl rfl (fun w' hS => val_move rfl) ?_
  refine yS (by kernel_rfl : opAt F19.o4 1 = some (some 12, .move (.tmp 0), none)) rfl rfl (fun w' hS => val_move rfl) ?_
  refine yS (by kernel_rfl : opAt F19.o4 2 = some (some 13, .call { callee := .builtin .len, args := #[(.tmp 12)], argTypes := #[45] }, none)) rfl rfl (fun w' hS => h1.lenV rfl Try.underlying45 w' ) ?_
  refine yS (by kernel_rfl : opAt F19.o4 3 = some (some 14, .binOp .lss 3 (.tmp 11) (.tmp 13) 3, none)) rfl rfl (fun w' hS => val_lss rfl rfl) ?_
  refine Sch.nil ?_
  refine run_if (x := F19.c19) (y := F19.c20) (o := .tmp 14) (by kernel_rfl) rfl (fun h14 => ?_) (fun h14 => ?_)
  · skip
    have hkl : k < l.length := by omega
    refine run_skip (by kernel_rfl) ?_
    refine run_seq (x := F19.c22) (y := F19.c30) (by kernel_rfl) ?_
    refine run_block (x := F19.c23) (id := 1) (by kernel_rfl) ?_
    refine run_seq (x := F19.c24) (y := F19.c25) (by kernel_rfl) ?_
    refine run_draw (id := 6) (ops := F19.o6) [] (C1) [(0, true), (1, true), (2, true), (3, true), (4, true), (5, true), (6, true), (7, true), (8, true)] Try_mixed (by kernel_rfl) (by kernel_rfl) (by kernel_rfl) ?_
    intro w2 hs
    replace hF := hF.st hs
    replace hT := hT.trans hs (by simp)
    replace h1 := h1.st hs (by first | decide | (simp <;> omega))
    replace h2 := h2.st hs (by first | decide | (simp <;> omega))
    refine yS (by kernel_rfl : opAt F19.o6 0 = some (some 17, .move (.tmp 0), none)) rfl rfl (fun w' hS => val_move rfl) ?_
    refine yS (by kernel_rfl : opAt F19.o6 1 = some (some 18, .move (.tmp 5), none)) rfl rfl (fun w' hS => val_move rfl) ?_
    refine iS (e := 56) (by kernel_rfl : opAt F19.o6 2 = some (some 19, .indexAddr 45 (.tmp 17) (.tmp 18), none)) rfl rfl h1 rfl (by kernel_rfl) rfl (by omega) (by omega) ?_
    intro b19 o19 h19
    try simp only [Int.toNat_natCast] at h19
    refine lSA (by kernel_rfl : opAt F19.o6 3 = some (some 20, .load 56 (.tmp 19), none)) rfl rfl (fun w' hS => h19.stay hS (by first | decide | (simp <;> omega))) h19 (by kernel_rfl) (by kernel_rfl) rfl rfl ?_
    intro v20 g20
    obtain ⟨rfl, _⟩ := rv_gss.1 g20
    refine yS (by kernel_rfl : opAt F19.o6 4 = some (some 21, .move (.tmp 1), none)) rfl rfl (fun w' hS => val_move rfl) ?_
    refine yS (by kernel_rfl : opAt F19.o6 5 = some (some 22, .move (.tmp 5), none)) rfl rfl (fun w' hS => val_move rfl) ?_
    refine iS (e := 56) (by kernel_rfl : opAt F19.o6 6 = some (some 23, .indexAddr 45 (.tmp 21) (.tmp 22), none)) rfl rfl h2 rfl (by kernel_rfl) rfl (by omega) (by omega) ?_
    intro b23 o23 h23
    try simp only [Int.toNat_natCast] at h23
    refine lSA (by kernel_rfl : opAt F19.o6 7 = some (some 24, .load 56 (.tmp 23), none)) rfl rfl (fun w' hS => h23.stay hS (by first | decide | (simp <;> omega))) h23 (by kernel_rfl) (by kernel_rfl) rfl rfl ?_
    intro v24 g24
    obtain ⟨rfl, _⟩ := rv_gss.1 g24
    refine yS (by kernel_rfl : opAt F19.o6 8 = some (some 25, .binOp .neq 56 (.tmp 20) (.tmp 24) 56, none)) rfl rfl (fun w' hS => val_F (val_neG Try.underlying56 (by decide) (by decide) (by kernel_rfl) Try.underlying3 Try.underlying9 rfl rfl) (fun e => e ⟨rfl, rfl⟩)) ?_
    refine Sch.nil ?_
    refine run_cond (x := F19.c26) (y := F19.c29) (o := .tmp 25) (b := false) (by kernel_rfl) rfl (fun h => by cases h) (fun _ => ?_)
    refine run_skip (by kernel_rfl) ?_
    refine run_inBlock ?_
    refine run_plain (id := 5) (ops := F19.o5) [(0, true), (1, true), (2, true)] (by kernel_rfl) (by kernel_rfl) ?_
    refine yS (by kernel_rfl : opAt F19.o5 0 = some (some 15, .move (.tmp 5), none)) rfl rfl (fun w' hS => val_move rfl) ?_
    refine yS (by kernel_rfl : opAt F19.o5 1 = some (some 16, .binOp .add 3 (.tmp 15) (.const (.int .i64 1)) 3, none)) rfl rfl (fun w' hS => val_addi rfl rfl (by omega) (by omega)) ?_
    refine yS (by kernel_rfl : opAt F19.o5 2 = some (some 5, .assign (.tmp 16), none)) rfl rfl (fun w' hS => val_assign rfl) ?_
    refine Sch.nil ?_
    refine kp (sub_cons 0 rfl rfl (sub_cons 1 rfl rfl (sub_cons 5 rfl (eq_int (by simp)) (sub_nil _)))) (next1 (k + 1, C1) _ ⟨(by first | omega | (simp only; omega)), hF, hT, h1, h2⟩ (by first | omega | (simp only; omega)))
  · skip
    refine run_exit (id := 0) (by kernel_rfl) rfl ?_
    refine run_seq (x := F19.c32) (y := F19.c33) (by kernel_rfl) ?_
    refine run_plain (id := 8) (ops := F19.o8) [(0, true)] (by kernel_rfl) (by kernel_rfl) ?_
    refine yS (by kernel_rfl : opAt F19.o8 0 = some (some 4, .assign (.const (.bool true)), none)) rfl rfl (fun w' hS => val_assign rfl) ?_
    refine Sch.nil ?_
    refine run_ret1 (by kernel_rfl) Try.func19 Try.results19 rfl ?_
    exact ⟨rfl, hT.out1 (by decide)⟩
namespace F21
noncomputable def c0 : Code := bodyOf Try.f21
noncomputable def c1 : Code := cl c0
noncomputable def o0 : Array Oper := rops c1
noncomputable def c2 : Code := cr c0
noncomputable def c3 : Code := cl c2
noncomputable def c4 : Code := cl c3
noncomputable def o1 : Array Oper := rops c4
noncomputable def c5 : Code := cr c3
noncomputable def c6 : Code := cl c5
noncomputable def c7 : Code := cl c6
noncomputable def o2 : Array Oper := rops c7
noncomputable def c8 : Code := cr c6
noncomputable def c9 : Code := cr c5
noncomputable def c10 : Code := cr c2
noncomputable def c11 : Code := cl c10
noncomputable def c12 : Code := cl c11
noncomputable def o3 : Array Oper := rops c12
noncomputable def c13 : Code := cr c11
noncomputable def c14 : Code := cl c13
noncomputable def c15 : Code := cl c14
noncomputable def c16 : Code := cl c15
noncomputable def c17 : Code := cl c16
noncomputable def o4 : Array Oper := rops c17
noncomputable def c18 : Code := cr c16
noncomputable def c19 : Code := cl c18
noncomputable def c20 : Code := cr c18
noncomputable def c21 : Code := cr c15
noncomputable def c22 : Code := cl c21
noncomputable def c23 : Code := cl c22
noncomputable def c24 : Code := cl c23
noncomputable def o6 : Array Oper := rops c24
noncomputable def c25 : Code := cr c23
noncomputable def c26 : Code := cl c25
noncomputable def c27 : Code := cl c26
noncomputable def o7 : Array Oper := rops c27
noncomputable def c28 : Code := cr c26
noncomputable def c29 : Code := cr c25
noncomputable def c30 : Code := cr c21
noncomputable def o5 : Array Oper := rops c30
noncomputable def c31 : Code := cr c10
noncomputable def c32 : Code := cl c31
noncomputable def o8 : Array Oper := rops c32
noncomputable def c33 : Code := cr c31
end F21
theorem sameI_ok {w₀ : World} {C : Nat → Nat} {l : List Int} {v1 v2 : Value} (hF : Lim w₀ C) (h1 : RV w₀ (Mc C) l v1) (h2 : RV w₀ (Mc C) l v2) : Calls Try.prog 21 #[v1, v2] w₀ (Ret fun v w' => v = .bool true ∧ Stp [] w₀ C w' C) := by
  have hF0 := hF
  have hT := Stp.refl [2, 3, 4, 5, 6, 7, 8, 9] w₀ (col1 C)
  replace hF := hF.col1
  replace h1 : RV w₀ (Mc (col1 C)) l v1 := by rw [Mc_col1]; exact h1
  replace h2 : RV w₀ (Mc (col1 C)) l v2 := by rw [Mc_col1]; exact h2
  have hle := h1.le
  refine calls_start (c := F21.c0) (N := 26) [v1, v2] Try.func21 (by kernel_rfl) (by kernel_rfl) (by kernel_rfl) ?_
  show Run _ _ _ _ [(0, v1), (1, v2)] _ _
  refine run_seq (x := F21.c1) (y := F21.c2) (by kernel_rfl) ?_
  refine run_plain (id := 0) (ops := F21.o0) [(0, true)] (by kernel_rfl) (by kernel_rfl) ?_
  refine yS (by kernel_rfl : opAt F21.o0 0 = some (some 4, .assign (.const (.bool false)), none)) rfl rfl (fun w' hS => val_assign rfl) ?_
  refine Sch.nil ?_
  refine run_seq (x := F21.c3) (y := F21.c10) (by kernel_rfl) ?_
  refine run_seq (x := F21.c4) (y := F21.c5) (by kernel_rfl) ?_
  refine run_plain (id := 1) (ops := F21.o1) [(0, true), (1, true), (2, true), (3, true), (4, true)] (by kernel_rfl) (by kernel_rfl) ?_
  refine yS (by kernel_rfl : opAt F21.o1 0 = some (some 6, .move (.tmp 0), none)) rfl rfl (fun w' hS => val_move rfl) ?_
  refine yS (by kernel_rfl : opAt F21.o1 1 = some (some 7, .call { callee := .builtin .len, args := #[(.tmp 6)], argTypes := #[22] }, none)) rfl rfl (fun w' hS => h1.lenV rfl Try.underlying22 w' ) ?_
  refine yS (by kernel_rfl : opAt F21.o1 2 = some (some 8, .move (.tmp 1), none)) rfl rfl (fun w' hS => val_move rfl) ?_
  refine yS (by kernel_rfl : opAt F21.o1 3 = some (some 9, .call { callee := .builtin .len, args := #[(.tmp 8)], argTypes := #[22] }, none)) rfl rfl (fun w' hS => h2.lenV rfl Try.underlying22 w' ) ?_
  refine yS (by kernel_rfl : opAt F21.o1 4 = some (some 10, .binOp .neq 3 (.tmp 7) (.tmp 9) 3, none)) rfl rfl (fun w' hS => val_F (val_neq rfl rfl) (fun e => e rfl)) ?_
  refine Sch.nil ?_
  refine run_cond (x := F21.c6) (y := F21.c9) (o := .tmp 10) (b := false) (by kernel_rfl) rfl (fun h => by cases h) (fun _ => ?_)
  refine run_skip (by kernel_rfl) ?_
  refine run_seq (x := F21.c11) (y := F21.c31) (by kernel_rfl) ?_
  refine run_seq (x := F21.c12) (y := F21.c13) (by kernel_rfl) ?_
  refine run_plain (id := 3) (ops := F21.o3) [(0, true)] (by kernel_rfl) (by kernel_rfl) ?_
  refine yS (by kernel_rfl : opAt F21.o3 0 = some (some 5, .assign (.const (.int .i64 0)), none)) rfl rfl (fun w' hS => val_assign rfl) ?_
  refine Sch.nil ?_
  refine run_block (x := F21.c14) (id := 0) (by kernel_rfl) ?_
  
  refine run_loop (ι := Nat × (Nat → Nat)) (I := fun x w => x.1 ≤ l.length ∧ Lim w x.2 ∧ Stp [2, 3, 4, 5, 6, 7, 8, 9] w₀ (col1 C) w x.2 ∧ RV w (Mc x.2) l v1 ∧ RV w (Mc x.2) l v2) (e := fun x => [(0, v1), (1, v2), (5, .int .i64 x.1)]) (m := fun x => l.length - x.1) (x₀ := (0, col1 C)) (body := F21.c15) (by kernel_rfl) (sub_cons 0 rfl rfl (sub_cons 1 rfl rfl (sub_cons 5 rfl rfl (sub_nil _)))) ?_ ?_
  · exact ⟨Nat.zero_le _, hF, hT, h1, h2⟩
  intro ⟨k, C1⟩ w1 hI next
  obtain ⟨hk, hF, hT, h1, h2⟩ := hI
  try simp only at hk hF hT h1 h2
  have next1 := next
  clear next
  show Run _ _ _ _ [(0, v1), (1, v2), (5, .int .i64 k)] _ _
  have hle := h1.le
  refine run_seq (x := F21.c16) (y := F21.c21) (by kernel_rfl) ?_
  refine run_seq (x := F21.c17) (y := F21.c18) (by kernel_rfl) ?_
  refine run_plain (id := 4) (ops := F21.o4) [(0, true), (1, true), (2, true), (3, true)] (by kernel_rfl) (by kernel_rfl) ?_
  refine yS (by kernel_rfl : opAt F21.o4 0 = some (some 11, .move (.tmp 5), none)) rfl rfl (fun w' hS => val_move rfl) ?_
  refine yS (by kernel_rfl : opAt F21.o4 1 = some (some 12, .move (.tmp 0), none)) rfl rfl (fun w' hS => val_move rfl) ?_
  refine yS (by kernel_rfl : opAt F21.o4 2 = some (some 13, .call { callee := .builtin .len, args := #[(.tmp 12)], argTypes := #[22] }, none)) rfl rfl (fun w' hS => h1.lenV rfl Try.underlying22 w' ) ?_
  refine yS (by kernel_rfl : opAt F21.o4 3 = some (some 14, .binOp .lss 3 (.tmp 11) (.tmp 13) 3, none)) rfl rfl (fun w' hS => val_lss rfl rfl) ?_
  refine Sch.nil ?_
  refine run_if (x := F21.c19) (y := F21.c20) (o := .tmp 14) (by kernel_rfl) rfl (fun h14 => ?_) (fun h14 => ?_)
  · skip
    have hkl : k < l.length := by omega
    refine run_skip (by kernel_rfl) ?_
    refine run_seq (x := F21.c22) (y := F21.c30) (by kernel_rfl) ?_
    refine run_block (x := F21.c23) (id := 1) (by kernel_rfl) ?_
    refine run_seq (x := F21.c24) (y := F21.c25) (by kernel_rfl) ?_
    refine run_draw (id := 6) (ops := F21.o6) [] (C1) [(0, true), (1, true), (2, true), (3, true), (4, true), (5, true), (6, true), (7, true), (8, true)] Try_mixed (by kernel_rfl) (by kernel_rfl) (by kernel_rfl) ?_
    intro w2 hs
    replace hF := hF.st hs
    replace hT := hT.trans hs (by simp)
    replace h1 := h1.st hs (by first | decide | (simp <;> omega))
    replace h2 := h2.st hs (by first | decide | (simp <;> omega))
    refine yS (by kernel_rfl : opAt F21.o6 0 = some (some 17, .move (.tmp 0), none)) rfl rfl (fun w' hS => val_move rfl) ?_
    refine yS (by kernel_rfl : opAt F21.o6 1 = some (some 18, .move (.tmp 5), none)) rfl rfl (fun w' hS => val_move rfl) ?_
    refine iS (e := 3) (by kernel_rfl : opAt F21.o6 2 = some (some 19, .indexAddr 22 (.tmp 17) (.tmp 18), none)) rfl rfl h1 rfl (by kernel_rfl) rfl (by omega) (by omega) ?_
    intro b19 o19 h19
    try simp only [Int.toNat_natCast] at h19
    refine lS (by kernel_rfl : opAt F21.o6 3 = some (some 20, .load 3 (.tmp 19), none)) rfl rfl (fun w' hS => h19.stay hS (by first | decide | (simp <;> omega))) h19 (by kernel_rfl) rfl rfl ?_
    intro v20 g20
    first | (obtain rfl := rv_nat.1 g20) | (obtain rfl := rv_int.1 g20)
    refine yS (by kernel_rfl : opAt F21.o6 4 = some (some 21, .move (.tmp 1), none)) rfl rfl (fun w' hS => val_move rfl) ?_
    refine yS (by kernel_rfl : opAt F21.o6 5 = some (some 22, .move (.tmp 5), none)) rfl rfl (fun w' hS => val_move rfl) ?_
    refine iS (e := 3) (by kernel_rfl : opAt F21.o6 6 = some (some 23, .indexAddr 22 (.tmp 21) (.tmp 22), none)) rfl rfl h2 rfl (by kernel_rfl) rfl (by omega) (by omega) ?_
    intro b23 o23 h23
    try simp only [Int.toNat_natCast] at h23
    refine lS (by kernel_rfl : opAt F21.o6 7 = some (some 24, .load 3 (.tmp 23), none)) rfl rfl (fun w' hS => h23.stay hS (by first | decide | (simp <;> omega))) h23 (by kernel_rfl) rfl rfl ?_
    intro v24 g24
    first | (obtain rfl := rv_nat.1 g24) | (obtain rfl := rv_int.1 g24)
    refine yS (by kernel_rfl : opAt F21.o6 8 = some (some 25, .binOp .neq 3 (.tmp 20) (.tmp 24) 3, none)) rfl rfl (fun w' hS => val_F (val_neq rfl rfl) (fun e => e rfl)) ?_
    refine Sch.nil ?_
    refine run_cond (x := F21.c26) (y := F21.c29) (o := .tmp 25) (b := false) (by kernel_rfl) rfl (fun h => by cases h) (fun _ => ?_)
    refine run_skip (by kernel_rfl) ?_
    refine run_inBlock ?_
    refine run_plain (id := 5) (ops := F21.o5) [(0, true), (1, true), (2, true)] (by kernel_rfl) (by kernel_rfl) ?_
    refine yS (by kernel_rfl : opAt F21.o5 0 = some (some 15, .move (.tmp 5), none)) rfl rfl (fun w' hS => val_move rfl) ?_
    refine yS (by kernel_rfl : opAt F21.o5 1 = some (some 16, .binOp .add 3 (.tmp 15) (.const (.int .i64 1)) 3, none)) rfl rfl (fun w' hS => val_addi rfl rfl (by omega) (by omega)) ?_
    refine yS (by kernel_rfl : opAt F21.o5 2 = some (some 5, .assign (.tmp 16), none)) rfl rfl (fun w' hS => val_assign rfl) ?_
    refine Sch.nil ?_
    refine kp (sub_cons 0 rfl rfl (sub_cons 1 rfl rfl (sub_cons 5 rfl (eq_int (by simp)) (sub_nil _)))) (next1 (k + 1, C1) _ ⟨(by first | omega | (simp only; omega)), hF, hT, h1, h2⟩ (by first | omega | (simp only; omega)))
  · skip
    refine run_exit (id := 0) (by kernel_rfl) rfl ?_
    refine run_seq (x := F21.c32) (y := F21.c33) (by kernel_rfl) ?_
    refine run_plain (id := 8) (ops := F21.o8) [(0, true)] (by kernel_rfl) (by kernel_rfl) ?_
    refine yS (by kernel_rfl : opAt F21.o8 0 = some (some 4, .assign (.const (.bool true)), none)) rfl rfl (fun w' hS => val_assign rfl) ?_
    refine Sch.nil ?_
    refine run_ret1 (by kernel_rfl) Try.func21 Try.results21 rfl ?_
    exact ⟨rfl, hT.out1 (by decide)⟩
end Go.Proofs.Ytbdlkdiadplmcaa
