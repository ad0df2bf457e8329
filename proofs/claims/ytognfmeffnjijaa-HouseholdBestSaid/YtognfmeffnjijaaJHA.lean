/- Steps through functions of the program. -/
import Derived.Test.YtognfmeffnjijaaJH9
import Derived.Test.YtognfmeffnjijaaL3
set_option linter.unusedVariables false
set_option linter.unusedSimpArgs false
set_option maxRecDepth 100000
set_option maxHeartbeats 4000000
namespace Go.Proofs.Ytognfmeffnjijaa
open Go.K Go.K.Rep

namespace F7
noncomputable def c0 := bodyOf Try.f7
noncomputable def c9 := (cl (cr (cr (cr (cr c0)))))
end F7
/-- 'awake'. -/
theorem awake_ok {w₀ : World} {C : Nat → Nat} (hF : Lim w₀ C) : Calls Try.prog 7 #[] w₀ (Ret fun v w' => v = .bool true ∧ Stp [] w₀ C w' C) := by
 have hF0 := hF
 have hT := Stp.refl [2, 3, 4, 5, 6, 7, 8, 9] w₀ (col1 C)
 replace hF := hF.col1
 refine calls_start (c := F7.c0) (N := 67) [] Try.func7 (by kernel_rfl) (by kernel_rfl) (by kernel_rfl) ?_
 show Run _ _ _ _ [] _ _
 refine run_sq ?_
 refine run_pl [yy 0] ?_
 refine yAc 0 (.bool false) ?_
 refine Sch.nil ?_
 refine run_sq ?_
 refine run_pl [yy 0, yy 1, yy 2, yy 3, nn 4, yy 5] ?_
 refine yV (kq 7 (.build 45 #[(0, (.const (.int .i64 0))), (1, (.const (.int .i64 0))), (2, (.const (.int .i64 5)))])) (fun _ => val_build (zs := [.int .i64 0, .int .i64 0, .int .i64 0]) (ps := [(0, 1), (1, 1), (2, 1)]) (qs := [(0, [.int .i64 0]), (1, [.int .i64 0]), (2, [.int .i64 5])]) (cs := [.int .i64 0, .int .i64 0, .int .i64 5]) (by kernel_rfl) (by kernel_rfl) (by exact ⟨rfl, ⟨_, rfl, rfl⟩, rfl, ⟨_, rfl, rfl⟩, rfl, ⟨_, rfl, rfl⟩, trivial⟩) rfl) ?_
 refine yV (kq 8 (.build 45 #[(0, (.const (.int .i64 0))), (1, (.const (.int .i64 2))), (2, (.const (.int .i64 4)))])) (fun _ => val_build (zs := [.int .i64 0, .int .i64 0, .int .i64 0]) (ps := [(0, 1), (1, 1), (2, 1)]) (qs := [(0, [.int .i64 0]), (1, [.int .i64 2]), (2, [.int .i64 4])]) (cs := [.int .i64 0, .int .i64 2, .int .i64 4]) (by kernel_rfl) (by kernel_rfl) (by exact ⟨rfl, ⟨_, rfl, rfl⟩, rfl, ⟨_, rfl, rfl⟩, rfl, ⟨_, rfl, rfl⟩, trivial⟩) rfl) ?_
 refine yV (kq 9 (.build 45 #[(0, (.const (.int .i64 1))), (1, (.const (.int .i64 1))), (2, (.const (.int .i64 5)))])) (fun _ => val_build (zs := [.int .i64 0, .int .i64 0, .int .i64 0]) (ps := [(0, 1), (1, 1), (2, 1)]) (qs := [(0, [.int .i64 1]), (1, [.int .i64 1]), (2, [.int .i64 5])]) (cs := [.int .i64 1, .int .i64 1, .int .i64 5]) (by kernel_rfl) (by kernel_rfl) (by exact ⟨rfl, ⟨_, rfl, rfl⟩, rfl, ⟨_, rfl, rfl⟩, rfl, ⟨_, rfl, rfl⟩, trivial⟩) rfl) ?_
 refine yV (kq 10 (.build 45 #[(0, (.const (.int .i64 1))), (1, (.const (.int .i64 3))), (2, (.const (.int .i64 4)))])) (fun _ => val_build (zs := [.int .i64 0, .int .i64 0, .int .i64 0]) (ps := [(0, 1), (1, 1), (2, 1)]) (qs := [(0, [.int .i64 1]), (1, [.int .i64 3]), (2, [.int .i64 4])]) (cs := [.int .i64 1, .int .i64 3, .int .i64 4]) (by kernel_rfl) (by kernel_rfl) (by exact ⟨rfl, ⟨_, rfl, rfl⟩, rfl, ⟨_, rfl, rfl⟩, rfl, ⟨_, rfl, rfl⟩, trivial⟩) rfl) ?_
 refine aS (kq 11 (.buildSlice 29 4 #[(0, (.tmp 7)), (1, (.tmp 8)), (2, (.tmp 9)), (3, (.tmp 10))])) rfl rfl (a_buildSlice (ys := ahL) (e := 45) (bytes := 24) hF (by kernel_rfl) rfl (by decide) (by decide) ⟨rfl, ⟨_, rfl, rv_edge.2 rfl⟩, rfl, ⟨_, rfl, rv_edge.2 rfl⟩, rfl, ⟨_, rfl, rv_edge.2 rfl⟩, rfl, ⟨_, rfl, rv_edge.2 rfl⟩, trivial⟩) ?_
 rintro v11 w1 ⟨hs, hl, hF⟩
 refine ⟨trivial, ?_⟩
 replace hT := hT.t hs
 refine yA 1 11 ?_
 refine Sch.nil ?_
 refine run_sq ?_
 refine run_pl [nn 0, nn 1, yy 2, nn 3, yy 4, yy 5, yy 6, yy 7, yy 8, yy 9, yy 10] ?_
 refine aS (kq 13 (.buildSlice 22 2 #[(0, (.const (.int .i64 0))), (1, (.const (.int .i64 0)))])) rfl rfl (a_buildSlice (ys := ahA) (e := 3) (bytes := 8) hF (by kernel_rfl) rfl (by decide) (by decide) ⟨rfl, ⟨_, rfl, rv_nat.2 rfl⟩, rfl, ⟨_, rfl, rv_nat.2 rfl⟩, trivial⟩) ?_
 rintro v13 w2 ⟨hs, ga, hF⟩
 refine ⟨trivial, ?_⟩
 replace hT := hT.t hs; replace hl := hl.t hs
 refine aS (kq 14 (.buildSlice 22 4 #[(0, (.const (.int .i64 1))), (1, (.const (.int .i64 2))), (2, (.const (.int .i64 3))), (3, (.const (.int .i64 3)))])) rfl rfl (a_buildSlice (ys := ahB) (e := 3) (bytes := 8) hF (by kernel_rfl) rfl (by decide) (by decide) ⟨rfl, ⟨_, rfl, rv_nat.2 rfl⟩, rfl, ⟨_, rfl, rv_nat.2 rfl⟩, rfl, ⟨_, rfl, rv_nat.2 rfl⟩, rfl, ⟨_, rfl, rv_nat.2 rfl⟩, trivial⟩) ?_
 rintro v14 w3 ⟨hs, gb, hF⟩
 refine ⟨trivial, ?_⟩
 replace hT := hT.t hs; replace hl := hl.t hs; replace ga := ga.t hs
 refine yM 15 1 ?_
 refine cS (kq 16 (.call { callee := .value (.func 14), args := #[(.const (.int .i64 2)), (.const (.int .i64 4)), (.tmp 13), (.tmp 14), (.tmp 15)], argTypes := #[3, 3, 22, 22, 29] })) rfl rfl (ent Try.call14 rfl) (hsolve_ok (n := 2) (m := 4) hF ah_ve ah_hh ga gb hl) ?_
 rintro vw4 w4 ⟨pc, rfl, hs, hc⟩
 refine ⟨trivial, ?_⟩
 replace hF := hF.st hs
 replace hT := hT.t hs; replace hl := hl.t hs; replace ga := ga.t hs; replace gb := gb.t hs
 obtain ⟨cs, hcs⟩ : ∃ c, c = solHL 2 4 ahL ahA ahB := ⟨_, rfl⟩
 have hcl : cs.length = 2 := by rw [hcs, ah_solL]; rfl
 rw [← hcs] at hc
 rw [ah_solT]
 rw [ah_solL] at hcs
 refine yM 12 16 ?_
 refine yV (kq 17 (.extract (.tmp 12) 0)) (fun _ => val_extract rfl rfl) ?_
 refine yV (kq 18 (.extract (.tmp 12) 1)) (fun _ => val_extract rfl rfl) ?_
 refine yV (kq 19 (.extract (.tmp 12) 2)) (fun _ => val_extract rfl rfl) ?_
 refine yA 2 17 ?_
 refine yA 3 18 ?_
 refine yA 4 19 ?_
 refine Sch.nil ?_
 refine run_sq ?_
 refine run_pl [nn 0, nn 1, yy 2, nn 3, yy 4, yy 5, yy 6, yy 7, yy 8] ?_
 refine aS (kq 21 (.buildSlice 22 2 #[(0, (.const (.int .i64 0))), (1, (.const (.int .i64 0)))])) rfl rfl (a_buildSlice (ys := ahA) (e := 3) (bytes := 8) hF (by kernel_rfl) rfl (by decide) (by decide) ⟨rfl, ⟨_, rfl, rv_nat.2 rfl⟩, rfl, ⟨_, rfl, rv_nat.2 rfl⟩, trivial⟩) ?_
 rintro v21 w5 ⟨hs, ga2, hF⟩
 refine ⟨trivial, ?_⟩
 replace hT := hT.t hs; replace hl := hl.t hs; replace ga := ga.t hs; replace gb := gb.t hs; replace hc := hc.t hs
 refine aS (kq 22 (.buildSlice 22 4 #[(0, (.const (.int .i64 1))), (1, (.const (.int .i64 2))), (2, (.const (.int .i64 3))), (3, (.const (.int .i64 3)))])) rfl rfl (a_buildSlice (ys := ahB) (e := 3) (bytes := 8) hF (by kernel_rfl) rfl (by decide) (by decide) ⟨rfl, ⟨_, rfl, rv_nat.2 rfl⟩, rfl, ⟨_, rfl, rv_nat.2 rfl⟩, rfl, ⟨_, rfl, rv_nat.2 rfl⟩, rfl, ⟨_, rfl, rv_nat.2 rfl⟩, trivial⟩) ?_
 rintro v22 w6 ⟨hs, gb2, hF⟩
 refine ⟨trivial, ?_⟩
 replace hT := hT.t hs; replace hl := hl.t hs; replace ga := ga.t hs; replace gb := gb.t hs; replace hc := hc.t hs; replace ga2 := ga2.t hs
 refine yM 23 1 ?_
 refine cS (kq 24 (.call { callee := .value (.func 18), args := #[(.const (.int .i64 2)), (.const (.int .i64 4)), (.tmp 21), (.tmp 22), (.tmp 23)], argTypes := #[3, 3, 22, 22, 29] })) rfl rfl (ent Try.call18 rfl) (hgains_ok (n := 2) (m := 4) hF ah_ve ah_hh ga2 gb2 hl) ?_
 rintro vw7 w7 ⟨pg, rfl, hs, hg⟩
 refine ⟨trivial, ?_⟩
 replace hF := hF.st hs
 replace hT := hT.t hs; replace hl := hl.t hs; replace ga := ga.t hs; replace gb := gb.t hs; replace hc := hc.t hs; replace ga2 := ga2.t hs; replace gb2 := gb2.t hs
 obtain ⟨gl, hgs⟩ : ∃ c, c = gnL (Tb 2 4 (pos (edW ahL)) (gN ahA) (gN ahB)) 64 := ⟨_, rfl⟩
 have hgl : gl.length = 3 := by rw [hgs, ah_gains]; rfl
 rw [← hgs] at hg
 rw [ah_gains] at hgs
 refine yM 20 24 ?_
 refine yV (kq 25 (.extract (.tmp 20) 0)) (fun _ => val_extract rfl rfl) ?_
 refine yV (kq 26 (.extract (.tmp 20) 1)) (fun _ => val_extract rfl rfl) ?_
 refine yA 5 25 ?_
 refine yA 6 26 ?_
 refine Sch.nil ?_
 refine run_sq ?_
 refine run_pl [yy 0, yy 1, yy 2, yy 3, yy 4, yy 5, yy 6, yy 7, yy 8, yy 9, yy 10, yy 11, yy 12, yy 13, yy 14, yy 15, yy 16, yy 17, nn 18, yy 19, yy 20, yy 21, yy 22, yy 23, yy 24, yy 25, yy 26, yy 27, yy 28, yy 29, nn 30, yy 31, yy 32, yy 33, yy 34, nn 35, nn 36, yy 37, nn 38, yy 39, yy 40] ?_
 refine yM 27 4 ?_
 refine yV (kq 28 (.binOp .eql 35 (.tmp 27) (.const (.int .i64 0)) 35)) (fun _ => val_is (val_eql rfl rfl) (show _ = Value.bool true from congrArg Value.bool (decide_eq_true (rfl)))) ?_
 refine yM 29 28 ?_
 refine yMg 30 6 2 true ?_
 refine yV (kg 31 (.binOp .eql 35 (.tmp 30) (.const (.int .i64 0)) 35) 2 true) (fun _ => val_is (val_eql rfl rfl) (show _ = Value.bool true from congrArg Value.bool (decide_eq_true (rfl)))) ?_
 refine yAt 32 29 31 ?_
 refine yM 33 32 ?_
 refine yMg 34 3 6 true ?_
 refine yV (kg 35 (.binOp .eql 3 (.tmp 34) (.const (.int .i64 8)) 3) 6 true) (fun _ => val_is (val_eql rfl rfl) (show _ = Value.bool true from congrArg Value.bool (decide_eq_true (rfl)))) ?_
 refine yAt 36 33 35 ?_
 refine yM 37 36 ?_
 refine yMg 38 2 10 true ?_
 refine yS (kg 39 (.call { callee := .builtin .len, args := #[(.tmp 38)], argTypes := #[31] }) 10 true) rfl rfl (fun w' hS => hc.lenV rfl Try.underlying31 w' ) ?_
 refine yV (kg 40 (.binOp .eql 3 (.tmp 39) (.const (.int .i64 2)) 3) 10 true) (fun _ => val_is (val_eql rfl rfl) (show _ = Value.bool true from congrArg Value.bool (decide_eq_true (by rw [hcl]; rfl)))) ?_
 refine yAt 41 37 40 ?_
 refine yM 42 41 ?_
 refine yMg 43 2 15 true ?_
 refine iS (e := 47) (kg 44 (.indexAddr 31 (.tmp 43) (.const (.int .i64 0))) 15 true) rfl rfl hc rfl (by kernel_rfl) rfl (by omega) (by omega) ?_
 intro b44 o44 h44
 try simp only [Int.toNat_natCast] at h44
 refine lNA (kg 45 (.load 47 (.tmp 44)) 15 true) rfl rfl trivial h44 (by kernel_rfl) (by kernel_rfl) rfl rfl ?_
 intro v45 g45
 obtain rfl := rv_couple.1 g45
 refine yV (kg 46 (.build 47 #[(0, (.const (.int .i64 0))), (1, (.const (.int .i64 2)))]) 15 true) (fun _ => val_build (zs := [.int .i64 0, .int .i64 0]) (ps := [(0, 1), (1, 1)]) (qs := [(0, [.int .i64 0]), (1, [.int .i64 2])]) (cs := [.int .i64 0, .int .i64 2]) (by kernel_rfl) (by kernel_rfl) (by exact ⟨rfl, ⟨_, rfl, rfl⟩, rfl, ⟨_, rfl, rfl⟩, trivial⟩) rfl) ?_
 refine yV (kg 47 (.binOp .eql 47 (.tmp 45) (.tmp 46) 47) 15 true) (fun _ => val_is (val_eqC (a := (cs[0]'(by omega))) (b := (⟨0, 2⟩ : Couple)) Try.underlying47 (by decide) (by decide) (by kernel_rfl) Try.underlying3 rfl rfl) (show _ = Value.bool true from congrArg Value.bool (decide_eq_true (by subst hcs; rfl)))) ?_
 refine yAt 48 42 47 ?_
 refine yM 49 48 ?_
 refine yMg 50 5 22 true ?_
 refine yS (kg 51 (.call { callee := .builtin .len, args := #[(.tmp 50)], argTypes := #[29] }) 22 true) rfl rfl (fun w' hS => hg.lenV rfl Try.underlying29 w' ) ?_
 refine yV (kg 52 (.binOp .eql 3 (.tmp 51) (.const (.int .i64 3)) 3) 22 true) (fun _ => val_is (val_eql rfl rfl) (show _ = Value.bool true from congrArg Value.bool (decide_eq_true (by rw [hgl]; rfl)))) ?_
 refine yAt 53 49 52 ?_
 refine yM 54 53 ?_
 refine yMg 55 5 27 true ?_
 refine iS (e := 45) (kg 56 (.indexAddr 29 (.tmp 55) (.const (.int .i64 2))) 27 true) rfl rfl hg rfl (by kernel_rfl) rfl (by omega) (by omega) ?_
 intro b56 o56 h56
 try simp only [Int.toNat_natCast] at h56
 refine lNA (kg 57 (.load 45 (.tmp 56)) 27 true) rfl rfl trivial h56 (by kernel_rfl) (by kernel_rfl) rfl rfl ?_
 intro v57 g57
 obtain rfl := rv_edge.1 g57
 refine yV (kg 58 (.build 45 #[(0, (.const (.int .i64 0))), (1, (.const (.int .i64 3))), (2, (.const (.int .i64 8)))]) 27 true) (fun _ => val_build (zs := [.int .i64 0, .int .i64 0, .int .i64 0]) (ps := [(0, 1), (1, 1), (2, 1)]) (qs := [(0, [.int .i64 0]), (1, [.int .i64 3]), (2, [.int .i64 8])]) (cs := [.int .i64 0, .int .i64 3, .int .i64 8]) (by kernel_rfl) (by kernel_rfl) (by exact ⟨rfl, ⟨_, rfl, rfl⟩, rfl, ⟨_, rfl, rfl⟩, rfl, ⟨_, rfl, rfl⟩, trivial⟩) rfl) ?_
 refine yV (kg 59 (.binOp .eql 45 (.tmp 57) (.tmp 58) 45) 27 true) (fun _ => val_is (val_eqE (a := gl[2]'(by omega)) (b := (⟨0, 3, 8⟩ : K.Edge)) Try.underlying45 (by decide) (by decide) (by decide) (by kernel_rfl) Try.underlying3 rfl rfl) (show _ = Value.bool true from congrArg Value.bool (decide_eq_true (by subst hgs; rfl)))) ?_
 refine yAt 60 54 59 ?_
 refine yM 61 60 ?_
 refine aS (kg 62 (.buildSlice 22 2 #[(0, (.const (.int .i64 0))), (1, (.const (.int .i64 0)))]) 34 true) rfl rfl (a_buildSlice (ys := ahA) (e := 3) (bytes := 8) hF (by kernel_rfl) rfl (by decide) (by decide) ⟨rfl, ⟨_, rfl, rv_nat.2 rfl⟩, rfl, ⟨_, rfl, rv_nat.2 rfl⟩, trivial⟩) ?_
 rintro v62 w8 ⟨hs, ga3, hF⟩
 refine ⟨trivial, ?_⟩
 replace hT := hT.t hs; replace hl := hl.t hs; replace ga := ga.t hs; replace gb := gb.t hs; replace hc := hc.t hs; replace ga2 := ga2.t hs; replace gb2 := gb2.t hs; replace hg := hg.t hs; replace h44 := h44.t hs; replace g45 := g45.t hs; replace h56 := h56.t hs; replace g57 := g57.t hs
 refine aS (kg 63 (.buildSlice 22 4 #[(0, (.const (.int .i64 1))), (1, (.const (.int .i64 2))), (2, (.const (.int .i64 3))), (3, (.const (.int .i64 3)))]) 34 true) rfl rfl (a_buildSlice (ys := ahB) (e := 3) (bytes := 8) hF (by kernel_rfl) rfl (by decide) (by decide) ⟨rfl, ⟨_, rfl, rv_nat.2 rfl⟩, rfl, ⟨_, rfl, rv_nat.2 rfl⟩, rfl, ⟨_, rfl, rv_nat.2 rfl⟩, rfl, ⟨_, rfl, rv_nat.2 rfl⟩, trivial⟩) ?_
 rintro v63 w9 ⟨hs, gb3, hF⟩
 refine ⟨trivial, ?_⟩
 replace hT := hT.t hs; replace hl := hl.t hs; replace ga := ga.t hs; replace gb := gb.t hs; replace hc := hc.t hs; replace ga2 := ga2.t hs; replace gb2 := gb2.t hs; replace hg := hg.t hs; replace h44 := h44.t hs; replace g45 := g45.t hs; replace h56 := h56.t hs; replace g57 := g57.t hs; replace ga3 := ga3.t hs
 refine yMg 64 2 34 true ?_
 refine cS (kg 65 (.call { callee := .value (.func 16), args := #[(.tmp 62), (.tmp 63), (.tmp 64)], argTypes := #[22, 22, 31] }) 34 true) rfl rfl (ent Try.call16 rfl) (consistent_ok hF ga3 gb3 hc (by rw [hcs]; decide) (by rw [hcs]; decide)) ?_
 rintro vw10 w10 ⟨rfl, hs⟩
 refine ⟨trivial, ?_⟩
 replace hF := hF.st hs
 replace hT := hT.t hs; replace hl := hl.t hs; replace ga := ga.t hs; replace gb := gb.t hs; replace hc := hc.t hs; replace ga2 := ga2.t hs; replace gb2 := gb2.t hs; replace hg := hg.t hs; replace h44 := h44.t hs; replace g45 := g45.t hs; replace h56 := h56.t hs; replace g57 := g57.t hs; replace ga3 := ga3.t hs; replace gb3 := gb3.t hs
 refine yAt 66 61 65 ?_
 refine yA 0 66 ?_
 refine Sch.nil ?_
 refine run_ret1 (by kernel_rfl) Try.func7 Try.results7 rfl ?_
 exact ⟨rfl, hT.out1 (by decide)⟩
end Go.Proofs.Ytognfmeffnjijaa
