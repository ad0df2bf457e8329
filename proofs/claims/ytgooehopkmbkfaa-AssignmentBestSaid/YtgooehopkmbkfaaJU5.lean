/- Steps through functions of the program. -/
import Derived.Test.YtgooehopkmbkfaaJU4
set_option linter.unusedVariables false
set_option linter.unusedSimpArgs false
set_option maxRecDepth 100000
set_option maxHeartbeats 4000000
namespace Go.Proofs.Ytgooehopkmbkfaa
open Go.K Go.K.Rep

namespace F24
noncomputable def c0 : Code := bodyOf Try.f24
noncomputable def c1 : Code := cl c0
noncomputable def o0 : Array Oper := rops c1
noncomputable def c2 : Code := cr c0
noncomputable def c3 : Code := cl c2
noncomputable def c4 : Code := cl c3
noncomputable def o1 : Array Oper := rops c4
noncomputable def c5 : Code := cr c3
noncomputable def c6 : Code := cl c5
noncomputable def o2 : Array Oper := rops c6
noncomputable def c7 : Code := cr c5
noncomputable def c8 : Code := cl c7
noncomputable def c9 : Code := cl c8
noncomputable def o3 : Array Oper := rops c9
noncomputable def c10 : Code := cr c8
noncomputable def c11 : Code := cr c7
noncomputable def c12 : Code := cr c2
noncomputable def c13 : Code := cl c12
noncomputable def o4 : Array Oper := rops c13
noncomputable def c14 : Code := cr c12
noncomputable def c15 : Code := cl c14
noncomputable def o5 : Array Oper := rops c15
noncomputable def c16 : Code := cr c14
end F24
/-- 'Prices'. -/
theorem prices_all {w₀ : World} {C : Nat → Nat} {n m : Int} {l : List K.Edge} {vl : Value} (hF : Lim w₀ C) (hl : RV w₀ (Mc C) l vl) :
    Calls Try.prog 24 #[.int .i64 n, .int .i64 m, vl] w₀ (Ret fun v w' => ∃ (pu pv : Value) (Ul Vl : List Int), v = .tuple #[pu, pv, .int .i64 (chkE n m l)] ∧ Stp [] w₀ C w' C ∧ RV w' (Mc C) Ul pu ∧ RV w' (Mc C) Vl pv ∧ (chkE n m l = 0 → PrI n m l Ul Vl) ∧ (chkE n m l = 0 → ∀ j, j ≠ 0 → ∃ C', Stp [] w₀ C w' C' ∧ Lim w' C' ∧ OwnL w' C' j 3 pu Ul ∧ RV w' (Mc C') Vl pv)) := by
  have hF0 := hF
  have hT := Stp.refl [2, 3, 4, 5, 6, 7, 8, 9] w₀ (col1 C)
  replace hF := hF.col1
  replace hl : RV w₀ (Mc (col1 C)) l vl := by rw [Mc_col1]; exact hl
  refine calls_start (c := F24.c0) (N := 30) [.int .i64 n, .int .i64 m, vl] Try.func24 (by kernel_rfl) (by kernel_rfl) (by kernel_rfl) ?_
  show Run _ _ _ _ [(0, .int .i64 n), (1, .int .i64 m), (2, vl)] _ _
  refine run_seq (x := F24.c1) (y := F24.c2) (by kernel_rfl) ?_
  refine run_plain (id := 0) (ops := F24.o0) [(0, true), (1, true), (2, true)] (by kernel_rfl) (by kernel_rfl) ?_
  refine yS (by kernel_rfl : opAt F24.o0 0 = some (some 6, .assign (.const (.slice none 0 0)), none)) rfl rfl (fun w' hS => val_assign rfl) ?_
  refine yS (by kernel_rfl : opAt F24.o0 1 = some (some 7, .assign (.const (.slice none 0 0)), none)) rfl rfl (fun w' hS => val_assign rfl) ?_
  refine yS (by kernel_rfl : opAt F24.o0 2 = some (some 8, .assign (.const (.int .i64 0)), none)) rfl rfl (fun w' hS => val_assign rfl) ?_
  refine Sch.nil ?_
  refine run_seq (x := F24.c3) (y := F24.c12) (by kernel_rfl) ?_
  refine run_seq (x := F24.c4) (y := F24.c5) (by kernel_rfl) ?_
  refine run_plain (id := 1) (ops := F24.o1) [(0, true), (1, true), (2, true), (3, false), (4, true)] (by kernel_rfl) (by kernel_rfl) ?_
  refine yS (by kernel_rfl : opAt F24.o1 0 = some (some 11, .move (.tmp 0), none)) rfl rfl (fun w' hS => val_move rfl) ?_
  refine yS (by kernel_rfl : opAt F24.o1 1 = some (some 12, .move (.tmp 1), none)) rfl rfl (fun w' hS => val_move rfl) ?_
  refine yS (by kernel_rfl : opAt F24.o1 2 = some (some 13, .move (.tmp 2), none)) rfl rfl (fun w' hS => val_move rfl) ?_
  refine cS (by kernel_rfl : opAt F24.o1 3 = some (some 14, .call { callee := .value (.func 17), args := #[(.tmp 11), (.tmp 12), (.tmp 13)], argTypes := #[3, 3, 23] }, none)) rfl rfl (ent Try.call17 rfl) (echeck_ok (n := n) (m := m) hF hl) ?_
  rintro vw1 w1 ⟨rfl, hs⟩
  refine ⟨trivial, ?_⟩
  replace hF := hF.st hs
  replace hT := hT.trans hs (by simp)
  replace hl := hl.st hs (by first | decide | (simp <;> omega))
  refine yS (by kernel_rfl : opAt F24.o1 4 = some (some 9, .assign (.tmp 14), none)) rfl rfl (fun w' hS => val_assign rfl) ?_
  refine Sch.nil ?_
  refine run_seq (x := F24.c6) (y := F24.c7) (by kernel_rfl) ?_
  refine run_plain (id := 2) (ops := F24.o2) [(0, true), (1, true)] (by kernel_rfl) (by kernel_rfl) ?_
  refine yS (by kernel_rfl : opAt F24.o2 0 = some (some 15, .move (.tmp 9), none)) rfl rfl (fun w' hS => val_move rfl) ?_
  refine yS (by kernel_rfl : opAt F24.o2 1 = some (some 16, .binOp .neq 35 (.tmp 15) (.const (.int .i64 0)) 35, none)) rfl rfl (fun w' hS => val_neq rfl rfl) ?_
  refine Sch.nil ?_
  refine run_if (x := F24.c8) (y := F24.c11) (o := .tmp 16) (by kernel_rfl) rfl (fun h16 => ?_) (fun h16 => ?_)
  · skip
    refine run_seq (x := F24.c9) (y := F24.c10) (by kernel_rfl) ?_
    refine run_plain (id := 3) (ops := F24.o3) [(0, true), (1, true), (2, true), (3, true)] (by kernel_rfl) (by kernel_rfl) ?_
    refine yS (by kernel_rfl : opAt F24.o3 0 = some (some 17, .move (.tmp 9), none)) rfl rfl (fun w' hS => val_move rfl) ?_
    refine yS (by kernel_rfl : opAt F24.o3 1 = some (some 6, .assign (.const (.slice none 0 0)), none)) rfl rfl (fun w' hS => val_assign rfl) ?_
    refine yS (by kernel_rfl : opAt F24.o3 2 = some (some 7, .assign (.const (.slice none 0 0)), none)) rfl rfl (fun w' hS => val_assign rfl) ?_
    refine yS (by kernel_rfl : opAt F24.o3 3 = some (some 8, .assign (.tmp 17), none)) rfl rfl (fun w' hS => val_assign rfl) ?_
    refine Sch.nil ?_
    refine run_ret3 (by kernel_rfl) Try.func24 Try.results24 rfl rfl rfl ?_
    exact ⟨_, _, [], [], rfl, hT.out1 (by decide), rv_nil, rv_nil, (fun e => absurd e h16), fun e => absurd e h16⟩
  · skip
    have hck : chkE n m l = 0 := Classical.not_not.1 h16
    have hV := chkE_zero hck
    obtain ⟨n, rfl⟩ : ∃ k : Nat, n = (k : Int) := ⟨n.toNat, by have := hV.n0; omega⟩
    obtain ⟨m, rfl⟩ : ∃ k : Nat, m = (k : Int) := ⟨m.toNat, by have := hV.m0; omega⟩
    have hn1 := hV.n1
    have hm1 := hV.m1
    refine run_skip (by kernel_rfl) ?_
    refine run_seq (x := F24.c13) (y := F24.c14) (by kernel_rfl) ?_
    refine run_plain (id := 4) (ops := F24.o4) [(0, true), (1, true), (2, true), (3, false), (4, true)] (by kernel_rfl) (by kernel_rfl) ?_
    refine yS (by kernel_rfl : opAt F24.o4 0 = some (some 18, .move (.tmp 0), none)) rfl rfl (fun w' hS => val_move rfl) ?_
    refine yS (by kernel_rfl : opAt F24.o4 1 = some (some 19, .move (.tmp 1), none)) rfl rfl (fun w' hS => val_move rfl) ?_
    refine yS (by kernel_rfl : opAt F24.o4 2 = some (some 20, .move (.tmp 2), none)) rfl rfl (fun w' hS => val_move rfl) ?_
    refine cS (by kernel_rfl : opAt F24.o4 3 = some (some 21, .call { callee := .value (.func 32), args := #[(.tmp 18), (.tmp 19), (.tmp 20)], argTypes := #[3, 3, 23] }, none)) rfl rfl (ent Try.call32 rfl) (graph_all hF hV hl) ?_
    rintro vw2 w2 ⟨gb, gr, U, V, rfl, hs0, hg0, hG, hgv⟩
    obtain ⟨Cg, vU, vV, hs, hF, hA, hB, hU, hV2⟩ := hgv 3 (by decide)
    have hUl := hG.Ul
    have hVl := hG.Vl
    refine ⟨trivial, ?_⟩
    replace hT := hT.trans hs (by simp)
    replace hl := hl.st hs (by first | decide | (simp <;> omega))
    refine yS (by kernel_rfl : opAt F24.o4 4 = some (some 10, .assign (.tmp 21), none)) rfl rfl (fun w' hS => val_assign rfl) ?_
    refine Sch.nil ?_
    refine run_seq (x := F24.c15) (y := F24.c16) (by kernel_rfl) ?_
    refine run_draw (id := 5) (ops := F24.o5) [] (Cg) [(0, true), (1, true), (2, true), (3, true), (4, true), (5, true), (6, true), (7, true), (8, true), (9, true), (10, true)] Try_mixed (by kernel_rfl) (by kernel_rfl) (by kernel_rfl) ?_
    intro w3 hs
    replace hF := hF.st hs
    replace hT := hT.trans hs (by simp)
    replace hl := hl.st hs (by first | decide | (simp <;> omega))
    replace hA := hA.st hs (by first | decide | (simp <;> omega))
    replace hB := hB.st hs (by first | decide | (simp <;> omega))
    replace hU := hU.st hs (by first | decide | (simp <;> omega)) (by first | decide | (simp <;> omega))
    replace hV2 := hV2.st hs (by first | decide | (simp <;> omega))
    refine yS (by kernel_rfl : opAt F24.o5 0 = some (some 22, .move (.tmp 10), none)) rfl rfl (fun w' hS => val_move rfl) ?_
    refine yS (by kernel_rfl : opAt F24.o5 1 = some (some 23, .nilCheck (.tmp 22), none)) rfl rfl (fun w' hS => val_nilCheck rfl) ?_
    refine yS (by kernel_rfl : opAt F24.o5 2 = some (some 24, .fieldAddr 69 (.tmp 23) 2, none)) rfl rfl (fun w' hS => val_fieldAddr (off := 2) (by kernel_rfl) rfl) ?_
    refine lS (by kernel_rfl : opAt F24.o5 3 = some (some 25, .load 22 (.tmp 24), none)) rfl rfl (fun w' hS => hA.stay hS (by first | decide | (simp <;> omega))) hA (by kernel_rfl) rfl rfl ?_
    intro v25 g25
    obtain ⟨e25, _⟩ := rv_sv.1 g25
    subst e25
    refine yS (by kernel_rfl : opAt F24.o5 4 = some (some 26, .move (.tmp 10), none)) rfl rfl (fun w' hS => val_move rfl) ?_
    refine yS (by kernel_rfl : opAt F24.o5 5 = some (some 27, .nilCheck (.tmp 26), none)) rfl rfl (fun w' hS => val_nilCheck rfl) ?_
    refine yS (by kernel_rfl : opAt F24.o5 6 = some (some 28, .fieldAddr 69 (.tmp 27) 3, none)) rfl rfl (fun w' hS => val_fieldAddr (off := 3) (by kernel_rfl) rfl) ?_
    refine lS (by kernel_rfl : opAt F24.o5 7 = some (some 29, .load 22 (.tmp 28), none)) rfl rfl (fun w' hS => hB.stay hS (by first | decide | (simp <;> omega))) hB (by kernel_rfl) rfl rfl ?_
    intro v29 g29
    obtain ⟨e29, _⟩ := rv_sv.1 g29
    subst e29
    refine yS (by kernel_rfl : opAt F24.o5 8 = some (some 6, .assign (.tmp 25), none)) rfl rfl (fun w' hS => val_assign rfl) ?_
    refine yS (by kernel_rfl : opAt F24.o5 9 = some (some 7, .assign (.tmp 29), none)) rfl rfl (fun w' hS => val_assign rfl) ?_
    refine yS (by kernel_rfl : opAt F24.o5 10 = some (some 8, .assign (.const (.int .i64 0)), none)) rfl rfl (fun w' hS => val_assign rfl) ?_
    refine Sch.nil ?_
    refine run_ret3 (by kernel_rfl) Try.func24 Try.results24 rfl rfl rfl ?_
    rw [hck]
    refine ⟨_, _, gr.U, gr.V, rfl, hT.out1 (by decide), hU.out hT hF0 (Mc_col1 C) (fun b _ => col1_lt C (by decide) b) (by omega), hV2.out hT hF0 (Mc_col1 C), fun _ => hG.pri hck, fun _ j hj => ?_⟩
    obtain ⟨C2, a, b, c, d⟩ := hU.give2 hT hF0 (Mc_col1 C) (fun b _ => col1_lt C (by decide) b) (by decide) j hj
    exact ⟨C2, (hT.out1 (by decide)).give a, b, d, hV2.give (fun b hb => (c b hb).1)⟩
theorem prices_ok {w₀ : World} {C : Nat → Nat} {n m : Int} {l : List K.Edge} {vl : Value} (hF : Lim w₀ C) (hl : RV w₀ (Mc C) l vl) :
    Calls Try.prog 24 #[.int .i64 n, .int .i64 m, vl] w₀ (Ret fun v w' => ∃ (pu pv : Value) (Ul Vl : List Int), v = .tuple #[pu, pv, .int .i64 (chkE n m l)] ∧ Stp [] w₀ C w' C ∧ RV w' (Mc C) Ul pu ∧ RV w' (Mc C) Vl pv ∧ (chkE n m l = 0 → PrI n m l Ul Vl)) := by
  refine (prices_all hF hl).mono ?_
  rintro e w' ⟨v, rfl, a, b, c, d, h1, h2, h3, h4, h5, _⟩
  exact ⟨v, rfl, a, b, c, d, h1, h2, h3, h4, h5⟩
end Go.Proofs.Ytgooehopkmbkfaa
