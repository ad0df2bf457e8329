/- Steps through functions of the program. -/
import Derived.Test.YtdmgmlmlielfbaaGreatJH3
set_option linter.unusedVariables false
set_option linter.unusedSimpArgs false
set_option maxRecDepth 100000
set_option maxHeartbeats 4000000
namespace Go.Proofs.YtdmgmlmlielfbaaGreat
open Go.K Go.K.Rep

/-- 'Exact' within the limit. -/
theorem solveXy_ok {w₀ : World} {C : Nat → Nat} {l : List Bond} {ds : List Dcs} {vl vz : Value} (hF : Lim w₀ C) (hl : RV w₀ (Mc C) l vl) (hz : RV w₀ (Mc C) ds vz) (hv : Vld l) (h25 : (refsS l).length ≤ 25) (hm4 : ds.length ≤ 4096) (hO : ∀ i (h : i < ds.length), dcsOK ds[i]) (hA1 : ∀ i (h : i + 1 < ds.length), cmpD ds[i] ds[i + 1] < 0) (h8 : ∀ k (hk : k < (splitS l).length), (refsS (splitS l)[k]).length ≤ 8) : Calls Tryz.prog 23 #[vl, vz] w₀ (Ret fun v w' => Stp [] w₀ C w' C ∧ ∃ zs vp, StS cmpH (allW (wayX ds) (splitS l)) zs ∧ v = .tuple #[vp, .int .i64 (valueB l zs), .int .i64 0] ∧ RV w' (Mc C) zs vp) :=
  (solveX_ok hF hl hz hv h25 hm4 hO hA1).mono (Ret.mono fun v w' h => ⟨h.1, by
    rcases h.2 with ⟨k, hk, h2, _⟩ | ⟨_, h2⟩
    · have := h8 k hk; omega
    · exact h2⟩)
/-- 'Exact' beyond the limit. -/
theorem solveXn_ok {w₀ : World} {C : Nat → Nat} {l : List Bond} {ds : List Dcs} {vl vz : Value} (hF : Lim w₀ C) (hl : RV w₀ (Mc C) l vl) (hz : RV w₀ (Mc C) ds vz) (hv : Vld l) (h25 : (refsS l).length ≤ 25) (hm4 : ds.length ≤ 4096) (hO : ∀ i (h : i < ds.length), dcsOK ds[i]) (hA1 : ∀ i (h : i + 1 < ds.length), cmpD ds[i] ds[i + 1] < 0) (h8 : ¬ (∀ k (hk : k < (splitS l).length), (refsS (splitS l)[k]).length ≤ 8)) : Calls Tryz.prog 23 #[vl, vz] w₀ (Ret fun v w' => Stp [] w₀ C w' C ∧ v = .tuple #[.slice none 0 0, .int .i64 0, .int .i64 1]) :=
  (solveX_ok hF hl hz hv h25 hm4 hO hA1).mono (Ret.mono fun v w' h => ⟨h.1, by
    rcases h.2 with ⟨k, hk, h2, h3⟩ | ⟨h2, _⟩
    · exact h3
    · exact absurd h2 h8⟩)
namespace F4
noncomputable def c0 := bodyOf Tryz.f4
noncomputable def c7 := (cl (cl (cr (cl (cr c0)))))
noncomputable def c15 := (cl (cr (cr (cr (cr c0)))))
noncomputable def c16 := (cr (cr (cr (cr (cr c0)))))
noncomputable def c23 := (cl (cl (cr (cl (cr c16)))))
end F4
/-- What is found is valid, its value is that of the bonds within persons, and the greedy way finds no more than the exact one. -/
theorem clusterValid_ok {w₀ : World} {C : Nat → Nat} {l : List Int} {vl : Value} (hF : Lim w₀ C) (hl : RV w₀ (Mc C) l vl) : Calls Tryz.prog 4 #[vl] w₀ (Ret fun v w' => v = .bool true ∧ Stp [] w₀ C w' C) := by
 have hF0 := hF
 have hT := Stp.refl [2, 3, 4, 5, 6, 7, 8, 9] w₀ (col1 C)
 replace hF := hF.col1
 replace hl : RV w₀ (Mc (col1 C)) l vl := by rw [Mc_col1]; exact hl
 refine calls_start (c := F4.c0) (N := 105) [vl] Tryz.func4 (by kernel_rfl) (by kernel_rfl) (by kernel_rfl) ?_
 show Run _ _ _ _ [(0, vl)] _ _
 refine run_sq ?_
 refine run_pl [yy 0] ?_
 refine yAc 2 (.bool false) ?_
 refine Sch.nil ?_
 refine run_sq ?_
 refine run_sq ?_
 refine run_pl [nn 0, yy 1, yy 2, yy 3, nn 4, yy 5, yy 6] ?_
 refine cS (kq 15 (.call { callee := .value (.func 11), args := #[], argTypes := #[] })) rfl rfl (ent Tryz.call11 rfl) (awake_ok hF) ?_
 rintro vw1 w1 ⟨rfl, hs⟩
 refine ⟨trivial, ?_⟩
 replace hF := hF.st hs
 replace hT := hT.t hs; replace hl := hl.t hs
 refine yV (kq 16 (.unOp .not 4 (.tmp 15))) (fun _ => val_not rfl) ?_
 refine yM 17 16 ?_
 refine yMg 18 0 2 false ?_
 refine cS (kg 19 (.call { callee := .value (.func 12), args := #[(.tmp 18)], argTypes := #[22] }) 2 false) rfl rfl (ent Tryz.call12 rfl) (few_any hl) ?_
 rintro vw2 w2 ⟨rfl, rfl⟩
 refine ⟨trivial, ?_⟩
 refine yV (kg 20 (.unOp .not 4 (.tmp 19)) 2 false) (fun _ => val_notd rfl) ?_
 refine yOf 21 17 20 ?_
 refine Sch.nil ?_
 refine run_i 21 rfl (fun h21 => ?_) (fun h21 => ?_)
 ·
  refine run_sq ?_
  refine run_pl [nn 0, yy 1] ?_
  refine cS (kq 22 (.call { callee := .value (.func 11), args := #[], argTypes := #[] })) rfl rfl (ent Tryz.call11 rfl) (awake_ok hF) ?_
  rintro vw3 w3 ⟨rfl, hs⟩
  refine ⟨trivial, ?_⟩
  replace hF := hF.st hs
  replace hT := hT.t hs; replace hl := hl.t hs
  refine yA 2 22 ?_
  refine Sch.nil ?_
  refine run_ret1 (by kernel_rfl) Tryz.func4 Tryz.results4 rfl ?_
  exact ⟨rfl, hT.out1 (by decide)⟩
 ·
  refine run_sk ?_
  refine run_sq ?_
  refine run_pl [yy 0, nn 1, yy 2] ?_
  refine yM 23 0 ?_
  refine cS (kq 24 (.call { callee := .value (.func 13), args := #[(.tmp 23)], argTypes := #[22] })) rfl rfl (ent Tryz.call13 rfl) (new_any hF hl) ?_
  rintro vw4 w4 ⟨Cd, bd, rfl, hs, hF, hd⟩
  refine ⟨trivial, ?_⟩
  replace hT := hT.t hs; replace hl := hl.t hs
  refine yA 3 24 ?_
  refine Sch.nil ?_
  refine run_sq ?_
  refine run_pl [yy 0, nn 1, yy 2, nn 3, yy 4, yy 5] ?_
  refine yM 25 3 ?_
  refine cS (kq 26 (.call { callee := .value (.func 14), args := #[(.tmp 25), (.const (.int .i64 3)), (.const (.int .i64 3)), (.const (.int .i64 4))], argTypes := #[28, 3, 3, 3] })) rfl rfl (ent Tryz.call14 rfl) (bonds_any (R := 3) (I := 3) (one := 4) hF (by decide) hd (by decide) (by decide) (by omega) (by omega)) ?_
  rintro vb w5 ⟨bl, hbl, ⟨hs, hb, hd⟩, _⟩
  refine ⟨trivial, ?_⟩
  replace hF := hF.st hs
  replace hT := hT.t hs; replace hl := hl.t hs
  have hv := hbl.vld (by decide) (by decide)
  have hrl := hbl.few
  have hbL := hv.1
  refine yM 27 3 ?_
  refine cS (kq 28 (.call { callee := .value (.func 30), args := #[(.tmp 27), (.const (.int .i64 3)), (.const (.int .i64 3)), (.const (.int .i64 10))], argTypes := #[28, 3, 3, 3] })) rfl rfl (ent Tryz.call30 rfl) (decs_any (R := 3) (I := 3) (one := 10) hF (by decide) hd (by decide) (by decide) (by omega) (by omega)) ?_
  rintro vz w6 ⟨dl, hdl, hs, hz, hd⟩
  refine ⟨trivial, ?_⟩
  replace hF := hF.st hs
  replace hT := hT.t hs; replace hl := hl.t hs; replace hb := hb.t hs
  refine yA 4 26 ?_
  refine yA 5 28 ?_
  refine Sch.nil ?_
  refine run_sq ?_
  refine run_pl [yy 0, yy 1, nn 2, yy 3, yy 4, yy 5, yy 6, yy 7, yy 8, yy 9] ?_
  refine yM 30 4 ?_
  refine yM 31 5 ?_
  refine cS (kq 32 (.call { callee := .value (.func 21), args := #[(.tmp 30), (.tmp 31)], argTypes := #[23, 24] })) rfl rfl (ent Tryz.call21 rfl) (solveS_ok (ds := dl) hF hb hz hv (by omega) hdl.len hdl.ok hdl.asc) ?_
  rintro _ w7 ⟨hs, zs1, vp1, hSt1, rfl, hp1⟩
  have hP1 := (sol_PV (fun i hi => wayS_PV dl _) hSt1).1
  refine ⟨trivial, ?_⟩
  replace hF := hF.st hs
  replace hT := hT.t hs; replace hl := hl.t hs
  replace hd := hd.st hs (by first | decide | (simp <;> omega)) (by first | decide | (simp <;> omega))
  replace hb := hb.t hs; replace hz := hz.t hs
  refine yM 29 32 ?_
  refine yV (kq 33 (.extract (.tmp 29) 0)) (fun _ => val_extract rfl rfl) ?_
  refine yV (kq 34 (.extract (.tmp 29) 1)) (fun _ => val_extract rfl rfl) ?_
  refine yV (kq 35 (.extract (.tmp 29) 2)) (fun _ => val_extract rfl rfl) ?_
  refine yA 6 33 ?_
  refine yA 7 34 ?_
  refine yA 8 35 ?_
  refine Sch.nil ?_
  refine run_sq ?_
  refine run_pl [yy 0, yy 1, nn 2, yy 3, yy 4, yy 5, yy 6, yy 7, yy 8, yy 9] ?_
  refine yM 37 4 ?_
  refine yM 38 5 ?_
  refine cS (kq 39 (.call { callee := .value (.func 18), args := #[(.tmp 37), (.tmp 38)], argTypes := #[23, 24] })) rfl rfl (ent Tryz.call18 rfl) (solveG_ok (ds := dl) hF hb hz hv (by omega) hdl.len hdl.ok hdl.asc) ?_
  rintro _ w8 ⟨hs, zs2, vp2, hSt2, rfl, hp2⟩
  have hP2 := greedy_PVs hSt2
  refine ⟨trivial, ?_⟩
  replace hF := hF.st hs
  replace hT := hT.t hs; replace hl := hl.t hs
  replace hd := hd.st hs (by first | decide | (simp <;> omega)) (by first | decide | (simp <;> omega))
  replace hb := hb.t hs; replace hz := hz.t hs; replace hp1 := hp1.t hs
  refine yM 36 39 ?_
  refine yV (kq 40 (.extract (.tmp 36) 0)) (fun _ => val_extract rfl rfl) ?_
  refine yV (kq 41 (.extract (.tmp 36) 1)) (fun _ => val_extract rfl rfl) ?_
  refine yV (kq 42 (.extract (.tmp 36) 2)) (fun _ => val_extract rfl rfl) ?_
  refine yA 9 40 ?_
  refine yA 10 41 ?_
  refine yA 11 42 ?_
  refine Sch.nil ?_
  refine run_sq ?_
  refine run_sq ?_
  refine run_pl [yy 0, yy 1, yy 2, yy 3, yy 4, yy 5, yy 6, yy 7, yy 8, yy 9, nn 10, yy 11, yy 12, yy 13, yy 14, yy 15, yy 16, nn 17, yy 18, yy 19, yy 20, yy 21, yy 22, nn 23, yy 24, yy 25, yy 26, yy 27, yy 28, yy 29, nn 30, yy 31, yy 32, yy 33] ?_
  refine yM 43 8 ?_
  refine yV (kq 44 (.binOp .neq 36 (.tmp 43) (.const (.int .i64 0)) 36)) (fun _ => val_F (val_neq rfl rfl) (by decide)) ?_
  refine yM 45 44 ?_
  refine yMg 46 11 2 false ?_
  refine yV (kg 47 (.binOp .neq 36 (.tmp 46) (.const (.int .i64 0)) 36) 2 false) (fun _ => val_F (val_neq rfl rfl) (by decide)) ?_
  refine yOf 48 45 47 ?_
  refine yM 49 48 ?_
  refine yMg 50 4 6 false ?_
  refine yMg 51 5 6 false ?_
  refine yMg 52 6 6 false ?_
  refine cS (kg 53 (.call { callee := .value (.func 26), args := #[(.tmp 50), (.tmp 51), (.tmp 52)], argTypes := #[23, 24, 25] }) 6 false) rfl rfl (ent Tryz.call26 rfl) (valid_ok (ds := dl) hF hb hz hp1 hv.check hv.1 hdl.len hdl.ok hdl.asc hP1) ?_
  rintro vw9 w9 ⟨rfl, hs⟩
  refine ⟨trivial, ?_⟩
  replace hF := hF.st hs
  replace hT := hT.t hs; replace hl := hl.t hs
  replace hd := hd.st hs (by first | decide | (simp <;> omega)) (by first | decide | (simp <;> omega))
  replace hb := hb.t hs; replace hz := hz.t hs; replace hp1 := hp1.t hs; replace hp2 := hp2.t hs
  refine yV (kg 54 (.binOp .neq 36 (.tmp 53) (.const (.int .i64 0)) 36) 6 false) (fun _ => val_F (val_neq rfl rfl) (by decide)) ?_
  refine yOf 55 49 54 ?_
  refine yM 56 55 ?_
  refine yMg 57 4 13 false ?_
  refine yMg 58 5 13 false ?_
  refine yMg 59 9 13 false ?_
  refine cS (kg 60 (.call { callee := .value (.func 26), args := #[(.tmp 57), (.tmp 58), (.tmp 59)], argTypes := #[23, 24, 25] }) 13 false) rfl rfl (ent Tryz.call26 rfl) (valid_ok (ds := dl) hF hb hz hp2 hv.check hv.1 hdl.len hdl.ok hdl.asc hP2) ?_
  rintro vw10 w10 ⟨rfl, hs⟩
  refine ⟨trivial, ?_⟩
  replace hF := hF.st hs
  replace hT := hT.t hs; replace hl := hl.t hs
  replace hd := hd.st hs (by first | decide | (simp <;> omega)) (by first | decide | (simp <;> omega))
  replace hb := hb.t hs; replace hz := hz.t hs; replace hp1 := hp1.t hs; replace hp2 := hp2.t hs
  refine yV (kg 61 (.binOp .neq 36 (.tmp 60) (.const (.int .i64 0)) 36) 13 false) (fun _ => val_F (val_neq rfl rfl) (by decide)) ?_
  refine yOf 62 56 61 ?_
  refine yM 63 62 ?_
  refine yMg 64 4 20 false ?_
  refine yMg 65 6 20 false ?_
  refine cS (kg 66 (.call { callee := .value (.func 28), args := #[(.tmp 64), (.tmp 65)], argTypes := #[23, 25] }) 20 false) rfl rfl (ent Tryz.call28 rfl) (value_ok hF hb hp1 (okB_w hv) hv.1) ?_
  rintro vw11 w11 ⟨rfl, hs⟩
  refine ⟨trivial, ?_⟩
  replace hF := hF.st hs
  replace hT := hT.t hs; replace hl := hl.t hs
  replace hd := hd.st hs (by first | decide | (simp <;> omega)) (by first | decide | (simp <;> omega))
  replace hb := hb.t hs; replace hz := hz.t hs; replace hp1 := hp1.t hs; replace hp2 := hp2.t hs
  refine yMg 67 7 20 false ?_
  refine yV (kg 68 (.binOp .neq 3 (.tmp 66) (.tmp 67) 3) 20 false) (fun _ => val_F (val_neq rfl rfl) (fun e => e rfl)) ?_
  refine yOf 69 63 68 ?_
  refine yM 70 69 ?_
  refine yMg 71 4 27 false ?_
  refine yMg 72 9 27 false ?_
  refine cS (kg 73 (.call { callee := .value (.func 28), args := #[(.tmp 71), (.tmp 72)], argTypes := #[23, 25] }) 27 false) rfl rfl (ent Tryz.call28 rfl) (value_ok hF hb hp2 (okB_w hv) hv.1) ?_
  rintro vw12 w12 ⟨rfl, hs⟩
  refine ⟨trivial, ?_⟩
  replace hF := hF.st hs
  replace hT := hT.t hs; replace hl := hl.t hs
  replace hd := hd.st hs (by first | decide | (simp <;> omega)) (by first | decide | (simp <;> omega))
  replace hb := hb.t hs; replace hz := hz.t hs; replace hp1 := hp1.t hs; replace hp2 := hp2.t hs
  refine yMg 74 10 27 false ?_
  refine yV (kg 75 (.binOp .neq 3 (.tmp 73) (.tmp 74) 3) 27 false) (fun _ => val_F (val_neq rfl rfl) (fun e => e rfl)) ?_
  refine yOf 76 70 75 ?_
  refine Sch.nil ?_
  refine run_cF 76 ?_
  refine run_sk ?_
  refine run_sq ?_
  by_cases hE : ∀ k (hk : k < (splitS bl).length), (refsS (splitS bl)[k]).length ≤ 8
  ·
   refine run_pl [yy 0, yy 1, nn 2, yy 3, yy 4, yy 5, yy 6, yy 7, yy 8, yy 9] ?_
   refine yM 78 4 ?_
   refine yM 79 5 ?_
   refine cS (kq 80 (.call { callee := .value (.func 23), args := #[(.tmp 78), (.tmp 79)], argTypes := #[23, 24] })) rfl rfl (ent Tryz.call23 rfl) (solveXy_ok (ds := dl) hF hb hz hv (by omega) hdl.len hdl.ok hdl.asc hE) ?_
   rintro _ w13 ⟨hs, zs3, vp3, hSt3, rfl, hp3⟩
   have hle := (exact_max2 hv hE hSt3).2 zs2 hP2
   rw [← allW_small hE] at hSt3
   have hz31 : zs1 = zs3 := hSt1.uniq cmpH_3 (fun _ _ => trivial) hSt3
   subst hz31
   refine ⟨trivial, ?_⟩
   replace hF := hF.st hs
   replace hT := hT.t hs; replace hl := hl.t hs
   replace hd := hd.st hs (by first | decide | (simp <;> omega)) (by first | decide | (simp <;> omega))
   replace hb := hb.t hs; replace hz := hz.t hs; replace hp1 := hp1.t hs; replace hp2 := hp2.t hs
   refine yM 77 80 ?_
   refine yV (kq 81 (.extract (.tmp 77) 0)) (fun _ => val_extract rfl rfl) ?_
   refine yV (kq 82 (.extract (.tmp 77) 1)) (fun _ => val_extract rfl rfl) ?_
   refine yV (kq 83 (.extract (.tmp 77) 2)) (fun _ => val_extract rfl rfl) ?_
   refine yA 12 81 ?_
   refine yA 13 82 ?_
   refine yA 14 83 ?_
   refine Sch.nil ?_
   refine run_sq ?_
   refine run_pl [yy 0, yy 1, yy 2, yy 3, yy 4, yy 5, yy 6, yy 7, yy 8, yy 9, yy 10, yy 11, yy 12, yy 13, yy 14, yy 15, yy 16, yy 17, nn 18, yy 19, yy 20, yy 21] ?_
   refine yM 84 14 ?_
   refine yV (kq 85 (.binOp .eql 36 (.tmp 84) (.const (.int .i64 1)) 36)) (fun _ => val_F (val_eql rfl rfl) (by decide)) ?_
   refine yM 86 85 ?_
   refine yMg 87 14 2 false ?_
   refine yV (kg 88 (.binOp .eql 36 (.tmp 87) (.const (.int .i64 0)) 36) 2 false) (fun _ => val_T (val_eql rfl rfl) rfl) ?_
   refine yMg 89 88 2 false ?_
   refine yMg 90 13 5 true ?_
   refine yMg 91 10 5 true ?_
   refine yV (kg 92 (.binOp .geq 3 (.tmp 90) (.tmp 91) 3) 5 true) (fun _ => val_T (val_geq rfl rfl) hle) ?_
   refine yV (kg 93 (.pick (.tmp 89) (.tmp 92) (.const (.bool false))) 2 false) (fun _ => val_pick_t rfl rfl) ?_
   refine yMg 94 93 2 false ?_
   refine yMg 95 13 10 true ?_
   refine yMg 96 7 10 true ?_
   refine yV (kg 97 (.binOp .eql 3 (.tmp 95) (.tmp 96) 3) 10 true) (fun _ => val_T (val_eql rfl rfl) rfl) ?_
   refine yV (kg 98 (.pick (.tmp 94) (.tmp 97) (.const (.bool false))) 2 false) (fun _ => val_pick_t rfl rfl) ?_
   refine yMg 99 98 2 false ?_
   refine yMg 100 12 15 true ?_
   refine yMg 101 6 15 true ?_
   refine cS (kg 102 (.call { callee := .value (.func 20), args := #[(.tmp 100), (.tmp 101)], argTypes := #[25, 25] }) 15 true) rfl rfl (ent Tryz.call20 rfl) (sameParts_ok hF hp3 hp1) ?_
   rintro vw14 w14 ⟨rfl, hs⟩
   refine ⟨trivial, ?_⟩
   replace hF := hF.st hs
   replace hT := hT.t hs; replace hl := hl.t hs
   replace hd := hd.st hs (by first | decide | (simp <;> omega)) (by first | decide | (simp <;> omega))
   replace hb := hb.t hs; replace hz := hz.t hs; replace hp1 := hp1.t hs; replace hp2 := hp2.t hs; replace hp3 := hp3.t hs
   refine yV (kg 103 (.pick (.tmp 99) (.tmp 102) (.const (.bool false))) 2 false) (fun _ => val_pick_t rfl rfl) ?_
   refine yOf 104 86 103 ?_
   refine yA 2 104 ?_
   refine Sch.nil ?_
   refine run_ret1 (by kernel_rfl) Tryz.func4 Tryz.results4 rfl ?_
   exact ⟨rfl, hT.out1 (by decide)⟩
  ·
   refine run_pl [yy 0, yy 1, nn 2, yy 3, yy 4, yy 5, yy 6, yy 7, yy 8, yy 9] ?_
   refine yM 78 4 ?_
   refine yM 79 5 ?_
   refine cS (kq 80 (.call { callee := .value (.func 23), args := #[(.tmp 78), (.tmp 79)], argTypes := #[23, 24] })) rfl rfl (ent Tryz.call23 rfl) (solveXn_ok (ds := dl) hF hb hz hv (by omega) hdl.len hdl.ok hdl.asc hE) ?_
   rintro vw15 w15 ⟨hs, rfl⟩
   refine ⟨trivial, ?_⟩
   replace hF := hF.st hs
   replace hT := hT.t hs; replace hl := hl.t hs
   replace hd := hd.st hs (by first | decide | (simp <;> omega)) (by first | decide | (simp <;> omega))
   replace hb := hb.t hs; replace hz := hz.t hs; replace hp1 := hp1.t hs; replace hp2 := hp2.t hs
   refine yM 77 80 ?_
   refine yV (kq 81 (.extract (.tmp 77) 0)) (fun _ => val_extract rfl rfl) ?_
   refine yV (kq 82 (.extract (.tmp 77) 1)) (fun _ => val_extract rfl rfl) ?_
   refine yV (kq 83 (.extract (.tmp 77) 2)) (fun _ => val_extract rfl rfl) ?_
   refine yA 12 81 ?_
   refine yA 13 82 ?_
   refine yA 14 83 ?_
   refine Sch.nil ?_
   refine run_sq ?_
   refine run_pl [yy 0, yy 1, yy 2, yy 3, yy 4, yy 5, yy 6, yy 7, yy 8, yy 9, yy 10, yy 11, yy 12, yy 13, yy 14, yy 15, yy 16, yy 17, nn 18, yy 19, yy 20, yy 21] ?_
   refine yM 84 14 ?_
   refine yV (kq 85 (.binOp .eql 36 (.tmp 84) (.const (.int .i64 1)) 36)) (fun _ => val_T (val_eql rfl rfl) rfl) ?_
   refine yM 86 85 ?_
   refine pX 87 2 false ?_
   refine pX 88 2 false ?_
   refine pX 89 2 false ?_
   refine pX 90 5 true ?_
   refine pX 91 5 true ?_
   refine pX 92 5 true ?_
   refine pX 93 2 false ?_
   refine pX 94 2 false ?_
   refine pX 95 10 true ?_
   refine pX 96 10 true ?_
   refine pX 97 10 true ?_
   refine pX 98 2 false ?_
   refine pX 99 2 false ?_
   refine pX 100 15 true ?_
   refine pX 101 15 true ?_
   refine pW (kg 102 (.call { callee := .value (.func 20), args := #[(.tmp 100), (.tmp 101)], argTypes := #[25, 25] }) 15 true) rfl rfl trivial ?_
   refine pX 103 2 false ?_
   refine yOt 104 86 103 ?_
   refine yA 2 104 ?_
   refine Sch.nil ?_
   refine run_ret1 (by kernel_rfl) Tryz.func4 Tryz.results4 rfl ?_
   exact ⟨rfl, hT.out1 (by decide)⟩
namespace F4B
noncomputable def c0 := bodyOf Tryz.f4
noncomputable def c7 := (cl (cl (cr (cl (cr c0)))))
noncomputable def c15 := (cl (cr (cr (cr (cr c0)))))
noncomputable def c16 := (cr (cr (cr (cr (cr c0)))))
noncomputable def c23 := (cl (cl (cr (cl (cr c16)))))
end F4B
/-- .. where more is handed than it looks at. -/
theorem clusterValid_big {w₀ : World} {C : Nat → Nat} {p : Option Addr} {n c : Nat} (hF : Lim w₀ C) (hn : 400 < n) : Calls Tryz.prog 4 #[.slice p n c] w₀ (Ret fun v w' => v = .bool true ∧ Stp [] w₀ C w' C) := by
 have hF0 := hF
 have hT := Stp.refl [2, 3, 4, 5, 6, 7, 8, 9] w₀ (col1 C)
 replace hF := hF.col1
 refine calls_start (c := F4B.c0) (N := 105) [.slice p n c] Tryz.func4 (by kernel_rfl) (by kernel_rfl) (by kernel_rfl) ?_
 show Run _ _ _ _ [(0, .slice p n c)] _ _
 refine run_sq ?_
 refine run_pl [yy 0] ?_
 refine yAc 2 (.bool false) ?_
 refine Sch.nil ?_
 refine run_sq ?_
 refine run_sq ?_
 refine run_pl [nn 0, yy 1, yy 2, yy 3, nn 4, yy 5, yy 6] ?_
 refine cS (kq 15 (.call { callee := .value (.func 11), args := #[], argTypes := #[] })) rfl rfl (ent Tryz.call11 rfl) (awake_ok hF) ?_
 rintro vw1 w1 ⟨rfl, hs⟩
 refine ⟨trivial, ?_⟩
 replace hF := hF.st hs
 replace hT := hT.t hs
 refine yV (kq 16 (.unOp .not 4 (.tmp 15))) (fun _ => val_not rfl) ?_
 refine yM 17 16 ?_
 refine yMg 18 0 2 false ?_
 refine cS (kg 19 (.call { callee := .value (.func 12), args := #[(.tmp 18)], argTypes := #[22] }) 2 false) rfl rfl (ent Tryz.call12 rfl) (few_ok _ _ _ _) ?_
 rintro vw2 w2 ⟨rfl, rfl⟩
 refine ⟨trivial, ?_⟩
 rw [decide_eq_false (show ¬ (n : Int) ≤ 400 by omega)]
 refine yV (kg 20 (.unOp .not 4 (.tmp 19)) 2 false) (fun _ => val_not rfl) ?_
 refine yOf 21 17 20 ?_
 refine Sch.nil ?_
 refine run_cT 21 ?_
 refine run_sq ?_
 refine run_pl [nn 0, yy 1] ?_
 refine cS (kq 22 (.call { callee := .value (.func 11), args := #[], argTypes := #[] })) rfl rfl (ent Tryz.call11 rfl) (awake_ok hF) ?_
 rintro vw3 w3 ⟨rfl, hs⟩
 refine ⟨trivial, ?_⟩
 replace hF := hF.st hs
 replace hT := hT.t hs
 refine yA 2 22 ?_
 refine Sch.nil ?_
 refine run_ret1 (by kernel_rfl) Tryz.func4 Tryz.results4 rfl ?_
 exact ⟨rfl, hT.out1 (by decide)⟩
end Go.Proofs.YtdmgmlmlielfbaaGreat
