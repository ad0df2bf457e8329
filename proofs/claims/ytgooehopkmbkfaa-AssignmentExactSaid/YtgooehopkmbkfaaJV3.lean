/- Steps through functions of the program. -/
import Derived.Test.YtgooehopkmbkfaaJV2
import Derived.Test.YtgooehopkmbkfaaL2
set_option linter.unusedVariables false
set_option linter.unusedSimpArgs false
set_option maxRecDepth 100000
set_option maxHeartbeats 4000000
namespace Go.Proofs.Ytgooehopkmbkfaa
open Go.K Go.K.Rep

namespace F10
noncomputable def c0 := bodyOf Try.f10
noncomputable def c9 := (cl (cr (cr (cr (cr c0)))))
end F10
/-- 'awake'. -/
theorem awake_ok {w₀ : World} {C : Nat → Nat} (hF : Lim w₀ C) : Calls Try.prog 10 #[] w₀ (Ret fun v w' => v = .bool true ∧ Stp [] w₀ C w' C) := by
 have hF0 := hF
 have hT := Stp.refl [2, 3, 4, 5, 6, 7, 8, 9] w₀ (col1 C)
 replace hF := hF.col1
 refine calls_start (c := F10.c0) (N := 53) [] Try.func10 (by kernel_rfl) (by kernel_rfl) (by kernel_rfl) ?_
 show Run _ _ _ _ [] _ _
 refine run_sq ?_
 refine run_pl [yy 0] ?_
 refine yAc 0 (.bool false) ?_
 refine Sch.nil ?_
 refine run_sq ?_
 refine run_pl [yy 0, yy 1, yy 2, nn 3, yy 4] ?_
 refine yV (kq 8 (.build 46 #[(0, (.const (.int .i64 0))), (1, (.const (.int .i64 0))), (2, (.const (.int .i64 5)))])) (fun _ => val_build (zs := [.int .i64 0, .int .i64 0, .int .i64 0]) (ps := [(0, 1), (1, 1), (2, 1)]) (qs := [(0, [.int .i64 0]), (1, [.int .i64 0]), (2, [.int .i64 5])]) (cs := [.int .i64 0, .int .i64 0, .int .i64 5]) (by kernel_rfl) (by kernel_rfl) (by exact ⟨rfl, ⟨_, rfl, rfl⟩, rfl, ⟨_, rfl, rfl⟩, rfl, ⟨_, rfl, rfl⟩, trivial⟩) rfl) ?_
 refine yV (kq 9 (.build 46 #[(0, (.const (.int .i64 0))), (1, (.const (.int .i64 1))), (2, (.const (.int .i64 6)))])) (fun _ => val_build (zs := [.int .i64 0, .int .i64 0, .int .i64 0]) (ps := [(0, 1), (1, 1), (2, 1)]) (qs := [(0, [.int .i64 0]), (1, [.int .i64 1]), (2, [.int .i64 6])]) (cs := [.int .i64 0, .int .i64 1, .int .i64 6]) (by kernel_rfl) (by kernel_rfl) (by exact ⟨rfl, ⟨_, rfl, rfl⟩, rfl, ⟨_, rfl, rfl⟩, rfl, ⟨_, rfl, rfl⟩, trivial⟩) rfl) ?_
 refine yV (kq 10 (.build 46 #[(0, (.const (.int .i64 1))), (1, (.const (.int .i64 1))), (2, (.const (.int .i64 4)))])) (fun _ => val_build (zs := [.int .i64 0, .int .i64 0, .int .i64 0]) (ps := [(0, 1), (1, 1), (2, 1)]) (qs := [(0, [.int .i64 1]), (1, [.int .i64 1]), (2, [.int .i64 4])]) (cs := [.int .i64 1, .int .i64 1, .int .i64 4]) (by kernel_rfl) (by kernel_rfl) (by exact ⟨rfl, ⟨_, rfl, rfl⟩, rfl, ⟨_, rfl, rfl⟩, rfl, ⟨_, rfl, rfl⟩, trivial⟩) rfl) ?_
 refine aS (kq 11 (.buildSlice 23 3 #[(0, (.tmp 8)), (1, (.tmp 9)), (2, (.tmp 10))])) rfl rfl (a_buildSlice (ys := awL) (e := 46) (bytes := 24) hF (by kernel_rfl) rfl (by decide) (by decide) ⟨rfl, ⟨_, rfl, rv_edge.2 rfl⟩, rfl, ⟨_, rfl, rv_edge.2 rfl⟩, rfl, ⟨_, rfl, rv_edge.2 rfl⟩, trivial⟩) ?_
 rintro v11 w1 ⟨hs, hl, hF⟩
 refine ⟨trivial, ?_⟩
 replace hT := hT.t hs
 refine yA 1 11 ?_
 refine Sch.nil ?_
 refine run_sq ?_
 refine run_pl [yy 0, nn 1, yy 2, yy 3, yy 4, yy 5, yy 6, yy 7, yy 8] ?_
 refine yM 13 1 ?_
 refine cS (kq 14 (.call { callee := .value (.func 19), args := #[(.const (.int .i64 2)), (.const (.int .i64 2)), (.tmp 13)], argTypes := #[3, 3, 23] })) rfl rfl (ent Try.call19 rfl) (solve_ok (n := 2) (m := 2) hF hl) ?_
 rintro vw2 w2 ⟨pc, rfl, hs, hc⟩
 refine ⟨trivial, ?_⟩
 replace hF := hF.st hs
 replace hT := hT.t hs; replace hl := hl.t hs
 obtain ⟨cs, hcs⟩ : ∃ c, c = solL 2 2 awL := ⟨_, rfl⟩
 have hcl : cs.length = 2 := by rw [hcs, aw_solL]; rfl
 rw [← hcs] at hc
 rw [aw_solT, aw_chk]
 refine yM 12 14 ?_
 refine yV (kq 15 (.extract (.tmp 12) 0)) (fun _ => val_extract rfl rfl) ?_
 refine yV (kq 16 (.extract (.tmp 12) 1)) (fun _ => val_extract rfl rfl) ?_
 refine yV (kq 17 (.extract (.tmp 12) 2)) (fun _ => val_extract rfl rfl) ?_
 refine yA 2 15 ?_
 refine yA 3 16 ?_
 refine yA 4 17 ?_
 refine Sch.nil ?_
 refine run_sq ?_
 refine run_pl [yy 0, nn 1, yy 2, yy 3, yy 4, yy 5, yy 6, yy 7, yy 8] ?_
 refine yM 19 1 ?_
 refine cS (kq 20 (.call { callee := .value (.func 24), args := #[(.const (.int .i64 2)), (.const (.int .i64 2)), (.tmp 19)], argTypes := #[3, 3, 23] })) rfl rfl (ent Try.call24 rfl) (prices_ok (n := 2) (m := 2) hF hl) ?_
 rintro vw3 w3 ⟨pu, pv, Ul, Vl, rfl, hs, hu, hv, hpr⟩
 refine ⟨trivial, ?_⟩
 replace hF := hF.st hs
 replace hT := hT.t hs; replace hl := hl.t hs; replace hc := hc.t hs
 rw [aw_chk]
 refine yM 18 20 ?_
 refine yV (kq 21 (.extract (.tmp 18) 0)) (fun _ => val_extract rfl rfl) ?_
 refine yV (kq 22 (.extract (.tmp 18) 1)) (fun _ => val_extract rfl rfl) ?_
 refine yV (kq 23 (.extract (.tmp 18) 2)) (fun _ => val_extract rfl rfl) ?_
 refine yA 5 21 ?_
 refine yA 6 22 ?_
 refine yA 7 23 ?_
 refine Sch.nil ?_
 refine run_sq ?_
 refine run_pl [yy 0, yy 1, yy 2, yy 3, yy 4, yy 5, yy 6, yy 7, yy 8, yy 9, yy 10, yy 11, yy 12, yy 13, yy 14, yy 15, yy 16, yy 17, nn 18, yy 19, yy 20, yy 21, yy 22, yy 23, yy 24, yy 25, yy 26, nn 27, yy 28, yy 29] ?_
 refine yM 24 4 ?_
 refine yV (kq 25 (.binOp .eql 35 (.tmp 24) (.const (.int .i64 0)) 35)) (fun _ => val_is (val_eql rfl rfl) (show _ = Value.bool true from rfl)) ?_
 refine yM 26 25 ?_
 refine yMg 27 7 2 true ?_
 refine yV (kg 28 (.binOp .eql 35 (.tmp 27) (.const (.int .i64 0)) 35) 2 true) (fun _ => val_is (val_eql rfl rfl) (show _ = Value.bool true from rfl)) ?_
 refine yAt 29 26 28 ?_
 refine yM 30 29 ?_
 refine yMg 31 3 6 true ?_
 refine yV (kg 32 (.binOp .eql 3 (.tmp 31) (.const (.int .i64 9)) 3) 6 true) (fun _ => val_is (val_eql rfl rfl) (show _ = Value.bool true from rfl)) ?_
 refine yAt 33 30 32 ?_
 refine yM 34 33 ?_
 refine yMg 35 2 10 true ?_
 refine yS (kg 36 (.call { callee := .builtin .len, args := #[(.tmp 35)], argTypes := #[24] }) 10 true) rfl rfl (fun w' hS => hc.lenV rfl Try.underlying24 w' ) ?_
 refine yV (kg 37 (.binOp .eql 3 (.tmp 36) (.const (.int .i64 2)) 3) 10 true) (fun _ => val_is (val_eql rfl rfl) (show _ = Value.bool true from by rw [hcl]; rfl)) ?_
 refine yAt 38 34 37 ?_
 refine yM 39 38 ?_
 refine yMg 40 2 15 true ?_
 refine iS (e := 53) (kg 41 (.indexAddr 24 (.tmp 40) (.const (.int .i64 1))) 15 true) rfl rfl hc rfl (by kernel_rfl) rfl (by omega) (by omega) ?_
 intro b41 o41 h41
 try simp only [Int.toNat_natCast] at h41
 refine lNA (kg 42 (.load 53 (.tmp 41)) 15 true) rfl rfl trivial h41 (by kernel_rfl) (by kernel_rfl) rfl rfl ?_
 intro v42 g42
 obtain rfl := rv_couple.1 g42
 refine yV (kg 43 (.build 53 #[(0, (.const (.int .i64 1))), (1, (.const (.int .i64 1)))]) 15 true) (fun _ => val_build (zs := [.int .i64 0, .int .i64 0]) (ps := [(0, 1), (1, 1)]) (qs := [(0, [.int .i64 1]), (1, [.int .i64 1])]) (cs := [.int .i64 1, .int .i64 1]) (by kernel_rfl) (by kernel_rfl) (by exact ⟨rfl, ⟨_, rfl, rfl⟩, rfl, ⟨_, rfl, rfl⟩, trivial⟩) rfl) ?_
 refine yV (kg 44 (.binOp .eql 53 (.tmp 42) (.tmp 43) 53) 15 true) (fun _ => val_is (val_eqC (a := (cs[1]'(by omega))) (b := (⟨1, 1⟩ : Couple)) Try.underlying53 (by decide) (by decide) (by kernel_rfl) Try.underlying3 rfl rfl) (show _ = Value.bool true from congrArg Value.bool (decide_eq_true (by have e := hcs.trans aw_solL; subst e; rfl)))) ?_
 refine yAt 45 39 44 ?_
 refine yM 46 45 ?_
 refine yMg 47 1 22 true ?_
 refine yMg 48 2 22 true ?_
 refine yMg 49 5 22 true ?_
 refine yMg 50 6 22 true ?_
 have hpv : pvB 2 2 awL cs Ul Vl = true := by rw [hcs]; exact pvB_iff.2 (sol_pv aw_chk (hpr aw_chk))
 refine cS (kg 51 (.call { callee := .value (.func 22), args := #[(.const (.int .i64 2)), (.const (.int .i64 2)), (.tmp 47), (.tmp 48), (.tmp 49), (.tmp 50)], argTypes := #[3, 3, 23, 24, 22, 22] }) 22 true) rfl rfl (ent Try.call22 rfl) (proves_ok (n := 2) (m := 2) hF hl hc hu hv (by omega)) ?_
 rintro vw4 w4 ⟨rfl, hs⟩
 rw [hpv]
 refine ⟨trivial, ?_⟩
 replace hF := hF.st hs
 replace hT := hT.t hs; replace hl := hl.t hs; replace hc := hc.t hs; replace hu := hu.t hs; replace hv := hv.t hs; replace h41 := h41.t hs; replace g42 := g42.t hs
 refine yAt 52 46 51 ?_
 refine yA 0 52 ?_
 refine Sch.nil ?_
 refine run_ret1 (by kernel_rfl) Try.func10 Try.results10 rfl ?_
 exact ⟨rfl, hT.out1 (by decide)⟩
end Go.Proofs.Ytgooehopkmbkfaa
