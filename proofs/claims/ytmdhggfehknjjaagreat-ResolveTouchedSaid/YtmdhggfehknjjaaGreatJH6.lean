/- Steps through functions of the program. -/
import Derived.Test.YtmdhggfehknjjaaGreatJH1
set_option linter.unusedVariables false
set_option linter.unusedSimpArgs false
set_option maxRecDepth 100000
set_option maxHeartbeats 4000000
namespace Go.Proofs.YtmdhggfehknjjaaGreat
open Go.K Go.K.Rep
noncomputable section
namespace F17
def c0 := bodyOf Tryz.f17
end F17
theorem resOf_ok {w₀ : World} {C : Nat → Nat} {l : List Bond} {ds : List Dcs} {vl vz : Value} (hF : Lim w₀ C) (hl : RV w₀ (Mc C) l vl) (hz : RV w₀ (Mc C) ds vz) (hv : Vld l) (h25 : (refsS l).length ≤ 24) (hm4 : ds.length ≤ 4096) (hO : ∀ i (h : i < ds.length), dcsOK ds[i]) (hA1 : ∀ i (h : i + 1 < ds.length), cmpD ds[i] ds[i + 1] < 0) : Calls Tryz.prog 17 #[vl, vz] w₀ (Ret fun v w' => Stp [] w₀ C w' C ∧ ∃ zs vb vp, StS cmpH (allW (wayS ds) (splitS l)) zs ∧ v = .tuple #[.agg #[vb, vp, .int .i64 (valueB l zs)], .int .i64 0] ∧ RV w' (Mc C) l vb ∧ RV w' (Mc C) zs vp) := by
 have hF0 := hF
 have hT := Stp.refl [2, 3, 4, 5, 6, 7, 8, 9] w₀ (col1 C)
 replace hF := hF.col1
 replace hl := hl.c1
 replace hz := hz.c1
 refine c_st F17.c0 25 [vl, vz] Tryz.func17 ?_
 show Run _ _ _ _ [(0, vl), (1, vz)] _ _
 refine run_sq (run_pl [nn 0, yy 1] ?_)
 refine aT (kq 4 (.alloc 26)) rfl rfl (a_alloc (cs := [.slice none 0 0, .slice none 0 0, .int .i64 0]) hF 3 (by kernel_rfl)) ?_
 rintro _ w1 ⟨Cw1, bw1, rfl, s_1, bx, hF⟩
 refine yAc 5 (.int .i64 0) ?_
 refine Sch.nil (run_sq (run_pl [yy 0, yy 1, nn 2, yy 3, yy 4, yy 5, yy 6, yy 7, yy 8, yy 9] ?_))
 refine yM 10 0 ?_
 refine yM 11 1 ?_
 replace hl := hl.t s_1; replace hz := hz.t s_1
 refine cG 12 41 [10, 11] [23, 27] Tryz.call41 rfl (solveS_ok (ds := ds) hF hl hz hv (by omega) hm4 hO hA1) ?_
 rintro _ w2 ⟨s_2, zs1, vp1, hSt1, rfl, hp1⟩
 refine yM 9 12 ?_
 refine yE 13 9 0 ?_
 refine yE 14 9 1 ?_
 refine yE 15 9 2 ?_
 refine yA 6 13 ?_
 refine yA 7 14 ?_
 refine yA 8 15 ?_
 refine Sch.nil (run_sq (run_sq (run_pl [yy 0, yy 1] ?_)))
 refine yM 16 8 ?_
 refine yV (kq 17 (.binOp .neq 34 (.tmp 16) (.const (.int .i64 0)) 34)) (fun _ => val_is (val_neq rfl rfl) (show _ = Value.bool false from congrArg Value.bool (decide_eq_false (by decide)))) ?_
 refine Sch.nil (run_cF 17 (run_sk (run_sq (run_pl [yy 0, nn 1, yy 2, yy 3, yy 4, nn 5, yy 6] ?_))))
 refine yM 20 0 ?_
 have hvl := hv.1
 replace hF := hF.st s_2; replace hl := hl.t s_2
 refine cG 21 42 [20] [23] Tryz.call42 rfl (copyB_ok hF hl (by omega)) ?_
 rintro v21 w3 ⟨s_3, hn⟩
 refine yM 22 6 ?_
 refine yM 23 7 ?_
 replace hp1 := hp1.t s_3
 refine yV (kq 24 (.build 26 #[(0, (.tmp 21)), (1, (.tmp 22)), (2, (.tmp 23))])) (fun _ => val_build (zs := [.slice none 0 0, .slice none 0 0, .int .i64 0]) (ps := [(0, 1), (1, 1), (2, 1)]) (qs := [(0, [v21]), (1, [vp1]), (2, [.int .i64 (valueB l zs1)])]) (cs := [v21, vp1, .int .i64 (valueB l zs1)]) (by kernel_rfl) (by kernel_rfl) (by exact ⟨rfl, ⟨_, rfl, (hn.one rfl).1⟩, rfl, ⟨_, rfl, (hp1.one rfl).1⟩, rfl, ⟨_, rfl, rfl⟩, trivial⟩) rfl) ?_
 replace bx := (bx.t s_2).t s_3
 refine aU (k0 (.store 26 (.tmp 4) (.tmp 24))) rfl (a_storeAll (vs := [v21, vp1, .int .i64 (valueB l zs1)]) (n := 3) rfl rfl (by kernel_rfl) rfl rfl (by intro u hu; simp only [List.mem_cons, List.not_mem_nil, or_false] at hu; rcases hu with rfl | rfl | rfl <;> first | rfl | exact (hn.one rfl).2 | exact (hp1.one rfl).2) bx rfl) ?_
 rintro _ w4 ⟨rfl, s_4, bx⟩
 refine yAc 5 (.int .i64 0) ?_
 refine Sch.nil ?_
 refine run_retC2 (by kernel_rfl) Tryz.func17 Tryz.results17 rfl rfl bx.at_ (by kernel_rfl) (by kernel_rfl) rfl ?_
 replace hT := (((hT.t s_1).t s_2).t s_3).t s_4; replace hp1 := hp1.t s_4; replace hn := hn.t s_4
 exact ⟨hT.out1 (by decide), zs1, _, _, hSt1, rfl, hn.out hT hF0 (Mc_col1 C), hp1.out hT hF0 (Mc_col1 C)⟩
end
end Go.Proofs.YtmdhggfehknjjaaGreat
