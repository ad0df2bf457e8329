/- Steps through functions of the program. -/
import Derived.Test.YtgooehopkmbkfaaJU4
set_option linter.unusedVariables false
set_option linter.unusedSimpArgs false
set_option maxRecDepth 100000
set_option maxHeartbeats 4000000
namespace Go.Proofs.Ytgooehopkmbkfaa
open Go.K Go.K.Rep

namespace F24
noncomputable def c0 := bodyOf Try.f24
noncomputable def c8 := (cl (cr (cr (cl (cr c0)))))
noncomputable def o5 := rops (cl (cr (cr (cr c0))))
end F24
/-- 'Prices'. -/
theorem prices_all {w₀ : World} {C : Nat → Nat} {n m : Int} {l : List K.Edge} {vl : Value} (hF : Lim w₀ C) (hl : RV w₀ (Mc C) l vl) :
    Calls Try.prog 24 #[.int .i64 n, .int .i64 m, vl] w₀ (Ret fun v w' => ∃ (pu pv : Value) (Ul Vl : List Int), v = .tuple #[pu, pv, .int .i64 (chkE n m l)] ∧ Stp [] w₀ C w' C ∧ RV w' (Mc C) Ul pu ∧ RV w' (Mc C) Vl pv ∧ (chkE n m l = 0 → PrI n m l Ul Vl) ∧ (chkE n m l = 0 → ∀ j, j ≠ 0 → ∃ C', Stp [] w₀ C w' C' ∧ Lim w' C' ∧ OwnL w' C' j 3 pu Ul ∧ RV w' (Mc C') Vl pv)) := by
 have hF0 := hF
 have hT := Stp.refl [2, 3, 4, 5, 6, 7, 8, 9] w₀ (col1 C)
 replace hF := hF.col1
 replace hl : RV w₀ (Mc (col1 C)) l vl := by rw [Mc_col1]; exact hl
 refine calls_start (c := F24.c0) (N := 30) [.int .i64 n, .int .i64 m, vl] Try.func24 (by kernel_rfl) (by kernel_rfl) (by kernel_rfl) ?_
 show Run _ _ _ _ [(0, .int .i64 n), (1, .int .i64 m), (2, vl)] _ _
 refine run_sq ?_
 refine run_pl [yy 0, yy 1, yy 2] ?_
 refine yV (kq 6 (.assign (.const (.slice none 0 0)))) (fun _ => val_assign rfl) ?_
 refine yV (kq 7 (.assign (.const (.slice none 0 0)))) (fun _ => val_assign rfl) ?_
 refine yAc 8 (.int .i64 0) ?_
 refine Sch.nil ?_
 refine run_sq ?_
 refine run_sq ?_
 refine run_pl [yy 0, yy 1, yy 2, nn 3, yy 4] ?_
 refine yM 11 0 ?_
 refine yM 12 1 ?_
 refine yM 13 2 ?_
 refine cS (kq 14 (.call { callee := .value (.func 17), args := #[(.tmp 11), (.tmp 12), (.tmp 13)], argTypes := #[3, 3, 23] })) rfl rfl (ent Try.call17 rfl) (echeck_ok (n := n) (m := m) hF hl) ?_
 rintro vw1 w1 ⟨rfl, hs⟩
 refine ⟨trivial, ?_⟩
 replace hF := hF.st hs
 replace hT := hT.t hs; replace hl := hl.t hs
 refine yA 9 14 ?_
 refine Sch.nil ?_
 refine run_sq ?_
 refine run_pl [yy 0, yy 1] ?_
 refine yM 15 9 ?_
 refine yV (kq 16 (.binOp .neq 35 (.tmp 15) (.const (.int .i64 0)) 35)) (fun _ => val_neq rfl rfl) ?_
 refine Sch.nil ?_
 refine run_i 16 rfl (fun h16 => ?_) (fun h16 => ?_)
 ·
  refine run_sq ?_
  refine run_pl [yy 0, yy 1, yy 2, yy 3] ?_
  refine yM 17 9 ?_
  refine yV (kq 6 (.assign (.const (.slice none 0 0)))) (fun _ => val_assign rfl) ?_
  refine yV (kq 7 (.assign (.const (.slice none 0 0)))) (fun _ => val_assign rfl) ?_
  refine yA 8 17 ?_
  refine Sch.nil ?_
  refine run_ret3 (by kernel_rfl) Try.func24 Try.results24 rfl rfl rfl ?_
  exact ⟨_, _, [], [], rfl, hT.out1 (by decide), rv_nil, rv_nil, (fun e => absurd e h16), fun e => absurd e h16⟩
 ·
  have hck : chkE n m l = 0 := Classical.not_not.1 h16
  have hV := chkE_zero hck
  obtain ⟨n, rfl⟩ : ∃ k : Nat, n = (k : Int) := ⟨n.toNat, by have := hV.n0; omega⟩
  obtain ⟨m, rfl⟩ : ∃ k : Nat, m = (k : Int) := ⟨m.toNat, by have := hV.m0; omega⟩
  have hn1 := hV.n1
  have hm1 := hV.m1
  refine run_sk ?_
  refine run_sq ?_
  refine run_pl [yy 0, yy 1, yy 2, nn 3, yy 4] ?_
  refine yM 18 0 ?_
  refine yM 19 1 ?_
  refine yM 20 2 ?_
  refine cS (kq 21 (.call { callee := .value (.func 32), args := #[(.tmp 18), (.tmp 19), (.tmp 20)], argTypes := #[3, 3, 23] })) rfl rfl (ent Try.call32 rfl) (graph_all hF hV hl) ?_
  rintro vw2 w2 ⟨gb, gr, U, V, rfl, hs0, hg0, hG, hgv⟩
  obtain ⟨Cg, vU, vV, hs, hF, hA, hB, hU, hV2⟩ := hgv 3 (by decide)
  have hUl := hG.Ul
  have hVl := hG.Vl
  refine ⟨trivial, ?_⟩
  replace hT := hT.t hs; replace hl := hl.t hs
  refine yA 10 21 ?_
  refine Sch.nil ?_
  refine run_sq ?_
  refine run_draw (id := 5) (ops := F24.o5) [] (Cg) [yy 0, yy 1, yy 2, yy 3, yy 4, yy 5, yy 6, yy 7, yy 8, yy 9, yy 10] Try_mixed (by kernel_rfl) (by kernel_rfl) (by kernel_rfl) ?_
  intro w3 hs
  replace hF := hF.st hs
  replace hT := hT.t hs; replace hl := hl.t hs; replace hA := hA.t hs; replace hB := hB.t hs; replace hU := hU.t hs; replace hV2 := hV2.t hs
  refine yM 22 10 ?_
  refine yN 23 22 ?_
  refine yF 24 69 23 2 2 ?_
  refine lS (kq 25 (.load 22 (.tmp 24))) rfl rfl (fun w' hS => hA.sy hS) hA (by kernel_rfl) rfl rfl ?_
  intro v25 g25
  obtain ⟨e25, _⟩ := rv_sv.1 g25
  subst e25
  refine yM 26 10 ?_
  refine yN 27 26 ?_
  refine yF 28 69 27 3 3 ?_
  refine lS (kq 29 (.load 22 (.tmp 28))) rfl rfl (fun w' hS => hB.sy hS) hB (by kernel_rfl) rfl rfl ?_
  intro v29 g29
  obtain ⟨e29, _⟩ := rv_sv.1 g29
  subst e29
  refine yA 6 25 ?_
  refine yA 7 29 ?_
  refine yAc 8 (.int .i64 0) ?_
  refine Sch.nil ?_
  refine run_ret3 (by kernel_rfl) Try.func24 Try.results24 rfl rfl rfl ?_
  rw [hck]
  refine ⟨_, _, gr.U, gr.V, rfl, hT.out1 (by decide), hU.out hT hF0 (Mc_col1 C) (fun b _ => col1_lt C (by decide) b) (by omega), hV2.out hT hF0 (Mc_col1 C), fun _ => hG.pri hck, fun _ j hj => ?_⟩
  obtain ⟨C2, a, b, c, d⟩ := hU.give2 hT hF0 (Mc_col1 C) (fun b _ => col1_lt C (by decide) b) (by decide) j hj
  exact ⟨C2, (hT.out1 (by decide)).give a, b, d, hV2.give (fun b hb => (c b hb).1)⟩
theorem prices_ok {w₀ : World} {C : Nat → Nat} {n m : Int} {l : List K.Edge} {vl : Value} (hF : Lim w₀ C) (hl : RV w₀ (Mc C) l vl) :
    Calls Try.prog 24 #[.int .i64 n, .int .i64 m, vl] w₀ (Ret fun v w' => ∃ (pu pv : Value) (Ul Vl : List Int), v = .tuple #[pu, pv, .int .i64 (chkE n m l)] ∧ Stp [] w₀ C w' C ∧ RV w' (Mc C) Ul pu ∧ RV w' (Mc C) Vl pv ∧ (chkE n m l = 0 → PrI n m l Ul Vl)) := by
  refine (prices_all hF hl).mono ?_
  rintro e w' ⟨v, rfl, a, b, c, d, h1, h2, h3, h4, h5, _⟩
  exact ⟨v, rfl, a, b, c, d, h1, h2, h3, h4, h5⟩
end Go.Proofs.Ytgooehopkmbkfaa
