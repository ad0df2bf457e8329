/- Steps through functions of the program. -/
import Derived.Test.YtdmgmlmlielfbaaGreatJH3
set_option linter.unusedVariables false
set_option linter.unusedSimpArgs false
set_option maxRecDepth 100000
set_option maxHeartbeats 4000000
namespace Go.Proofs.YtdmgmlmlielfbaaGreat
open Go.K Go.K.Rep

namespace F9
noncomputable def c0 := bodyOf Tryz.f9
noncomputable def c7 := (cl (cl (cr (cl (cr c0)))))
noncomputable def c15 := (cl (cr (cr (cr (cr c0)))))
noncomputable def c16 := (cr (cr (cr (cr (cr c0)))))
noncomputable def c23 := (cl (cl (cr (cl (cr c16)))))
noncomputable def c30 := (cl (cl (cr (cr (cr c16)))))
noncomputable def c31 := (cr (cl (cr (cr (cr c16)))))
noncomputable def c40 := (cl (cr (cr (cl (cl c31)))))
noncomputable def c47 := (cl (cl (cr (cr (cl c40)))))
noncomputable def c48 := (cr (cl (cr (cr (cl c40)))))
noncomputable def c54 := (cl (cr (cr (cr (cl c40)))))
noncomputable def c55 := (cr (cr (cr (cr (cl c40)))))
noncomputable def c62 := (cl (cr (cl (cl (cr c55)))))
noncomputable def c65 := (cr (cr (cl (cl (cr c55)))))
noncomputable def c72 := (cl (cr (cr (cl (cl c65)))))
noncomputable def c79 := (cr (cr (cr (cl (cl c65)))))
noncomputable def c81 := (cr (cr (cr (cl (cl c31)))))
noncomputable def c83 := (cl (cr (cr (cr (cr c16)))))
end F9
/-- Each component is solved by itself: the persons of all bonds are those of the bonds of each component. -/
theorem clusterParts_ok {w₀ : World} {C : Nat → Nat} {l : List Int} {vl : Value} (hF : Lim w₀ C) (hl : RV w₀ (Mc C) l vl) : Calls Tryz.prog 9 #[vl] w₀ (Ret fun v w' => v = .bool true ∧ Stp [] w₀ C w' C) := by
 have hF0 := hF
 have hT := Stp.refl [2, 3, 4, 5, 6, 7, 8, 9] w₀ (col1 C)
 replace hF := hF.col1
 replace hl : RV w₀ (Mc (col1 C)) l vl := by rw [Mc_col1]; exact hl
 refine calls_start (c := F9.c0) (N := 106) [vl] Tryz.func9 (by kernel_rfl) (by kernel_rfl) (by kernel_rfl) ?_
 show Run _ _ _ _ [(0, vl)] _ _
 refine run_sq ?_
 refine run_pl [yy 0] ?_
 refine yAc 2 (.bool false) ?_
 refine Sch.nil ?_
 refine run_sq ?_
 refine run_sq ?_
 refine run_pl [nn 0, yy 1, yy 2, yy 3, nn 4, yy 5, yy 6] ?_
 refine cS (kq 21 (.call { callee := .value (.func 11), args := #[], argTypes := #[] })) rfl rfl (ent Tryz.call11 rfl) (awake_ok hF) ?_
 rintro vw1 w1 ⟨rfl, hs⟩
 refine ⟨trivial, ?_⟩
 replace hF := hF.st hs
 replace hT := hT.t hs; replace hl := hl.t hs
 refine yV (kq 22 (.unOp .not 4 (.tmp 21))) (fun _ => val_not rfl) ?_
 refine yM 23 22 ?_
 refine yMg 24 0 2 false ?_
 refine cS (kg 25 (.call { callee := .value (.func 12), args := #[(.tmp 24)], argTypes := #[22] }) 2 false) rfl rfl (ent Tryz.call12 rfl) (few_any hl) ?_
 rintro vw2 w2 ⟨rfl, rfl⟩
 refine ⟨trivial, ?_⟩
 refine yV (kg 26 (.unOp .not 4 (.tmp 25)) 2 false) (fun _ => val_notd rfl) ?_
 refine yOf 27 23 26 ?_
 refine Sch.nil ?_
 refine run_i 27 rfl (fun h27 => ?_) (fun h27 => ?_)
 ·
  refine run_sq ?_
  refine run_pl [nn 0, yy 1] ?_
  refine cS (kq 28 (.call { callee := .value (.func 11), args := #[], argTypes := #[] })) rfl rfl (ent Tryz.call11 rfl) (awake_ok hF) ?_
  rintro vw3 w3 ⟨rfl, hs⟩
  refine ⟨trivial, ?_⟩
  replace hF := hF.st hs
  replace hT := hT.t hs; replace hl := hl.t hs
  refine yA 2 28 ?_
  refine Sch.nil ?_
  refine run_ret1 (by kernel_rfl) Tryz.func9 Tryz.results9 rfl ?_
  exact ⟨rfl, hT.out1 (by decide)⟩
 ·
  refine run_sk ?_
  refine run_sq ?_
  refine run_pl [yy 0, nn 1, yy 2] ?_
  refine yM 29 0 ?_
  refine cS (kq 30 (.call { callee := .value (.func 13), args := #[(.tmp 29)], argTypes := #[22] })) rfl rfl (ent Tryz.call13 rfl) (new_any hF hl) ?_
  rintro vw4 w4 ⟨Cd, bd, rfl, hs, hF, hd⟩
  refine ⟨trivial, ?_⟩
  replace hT := hT.t hs; replace hl := hl.t hs
  refine yA 3 30 ?_
  refine Sch.nil ?_
  refine run_sq ?_
  refine run_pl [yy 0, nn 1, yy 2, nn 3, yy 4, yy 5] ?_
  refine yM 31 3 ?_
  refine cS (kq 32 (.call { callee := .value (.func 14), args := #[(.tmp 31), (.const (.int .i64 4)), (.const (.int .i64 4)), (.const (.int .i64 10))], argTypes := #[28, 3, 3, 3] })) rfl rfl (ent Tryz.call14 rfl) (bonds_any (R := 4) (I := 4) (one := 10) hF (by decide) hd (by decide) (by decide) (by omega) (by omega)) ?_
  rintro vb w5 ⟨bl, hbl, ⟨hs, hb, hd⟩, _⟩
  refine ⟨trivial, ?_⟩
  replace hF := hF.st hs
  replace hT := hT.t hs; replace hl := hl.t hs
  have hv := hbl.vld (by decide) (by decide)
  have hrl := hbl.few
  have hbL := hv.1
  refine yM 33 3 ?_
  refine cS (kq 34 (.call { callee := .value (.func 30), args := #[(.tmp 33), (.const (.int .i64 4)), (.const (.int .i64 4)), (.const (.int .i64 20))], argTypes := #[28, 3, 3, 3] })) rfl rfl (ent Tryz.call30 rfl) (decs_any (R := 4) (I := 4) (one := 20) hF (by decide) hd (by decide) (by decide) (by omega) (by omega)) ?_
  rintro vz w6 ⟨dl, hdl, hs, hz, hd⟩
  refine ⟨trivial, ?_⟩
  replace hF := hF.st hs
  replace hT := hT.t hs; replace hl := hl.t hs; replace hb := hb.t hs
  refine yA 4 32 ?_
  refine yA 5 34 ?_
  refine Sch.nil ?_
  refine run_sq ?_
  refine run_pl [yy 0, yy 1, nn 2, yy 3, yy 4, yy 5, yy 6, yy 7, yy 8, yy 9] ?_
  refine yM 36 4 ?_
  refine yM 37 5 ?_
  refine cS (kq 38 (.call { callee := .value (.func 21), args := #[(.tmp 36), (.tmp 37)], argTypes := #[23, 24] })) rfl rfl (ent Tryz.call21 rfl) (solveS_ok (ds := dl) hF hb hz hv (by omega) hdl.len hdl.ok hdl.asc) ?_
  rintro _ w7 ⟨hs, zs1, vp1, hSt1, rfl, hp1⟩
  have hP1 := (sol_PV (fun i hi => wayS_PV dl _) hSt1).1
  refine ⟨trivial, ?_⟩
  replace hF := hF.st hs
  replace hT := hT.t hs; replace hl := hl.t hs
  replace hd := hd.st hs (by first | decide | (simp <;> omega)) (by first | decide | (simp <;> omega))
  replace hb := hb.t hs; replace hz := hz.t hs
  refine yM 35 38 ?_
  refine yV (kq 39 (.extract (.tmp 35) 0)) (fun _ => val_extract rfl rfl) ?_
  refine yV (kq 40 (.extract (.tmp 35) 1)) (fun _ => val_extract rfl rfl) ?_
  refine yV (kq 41 (.extract (.tmp 35) 2)) (fun _ => val_extract rfl rfl) ?_
  refine yA 6 39 ?_
  refine yA 7 40 ?_
  refine yA 8 41 ?_
  refine Sch.nil ?_
  refine run_sq ?_
  refine run_pl [yy 0, nn 1, yy 2, yy 3, yy 4, yy 5, yy 6] ?_
  refine yM 43 4 ?_
  refine cS (kq 44 (.call { callee := .value (.func 33), args := #[(.tmp 43)], argTypes := #[23] })) rfl rfl (ent Tryz.call33 rfl) (split_ok hF hb (by omega)) ?_
  rintro vw8 w8 ⟨vu, rfl, hs, hu⟩
  rw [if_pos hv.check] at hu
  rw [hv.check]
  refine ⟨trivial, ?_⟩
  replace hF := hF.st hs
  replace hT := hT.t hs; replace hl := hl.t hs
  replace hd := hd.st hs (by first | decide | (simp <;> omega)) (by first | decide | (simp <;> omega))
  replace hb := hb.t hs; replace hz := hz.t hs; replace hp1 := hp1.t hs
  refine yM 42 44 ?_
  refine yV (kq 45 (.extract (.tmp 42) 0)) (fun _ => val_extract rfl rfl) ?_
  refine yV (kq 46 (.extract (.tmp 42) 1)) (fun _ => val_extract rfl rfl) ?_
  refine yA 9 45 ?_
  refine yA 10 46 ?_
  refine Sch.nil ?_
  refine run_sq ?_
  refine run_sq ?_
  refine run_pl [yy 0, yy 1, yy 2, yy 3, yy 4, yy 5] ?_
  have hsb := sum_b hv zs1
  have hsp : (splitS bl).length ≤ 4096 := by have := splitS_len bl; have := parts_le bl; omega
  have hal := hSt1.len
  clear hd
  refine yM 47 8 ?_
  refine yV (kq 48 (.binOp .neq 36 (.tmp 47) (.const (.int .i64 0)) 36)) (fun _ => val_F (val_neq rfl rfl) (by decide)) ?_
  refine yM 49 48 ?_
  refine yMg 50 10 2 false ?_
  refine yV (kg 51 (.binOp .neq 36 (.tmp 50) (.const (.int .i64 0)) 36) 2 false) (fun _ => val_F (val_neq rfl rfl) (by decide)) ?_
  refine yOf 52 49 51 ?_
  refine Sch.nil ?_
  refine run_cF 52 ?_
  refine run_sk ?_
  refine run_sq ?_
  refine run_pl [yy 0, yy 1] ?_
  refine yAc 11 (.int .i64 0) ?_
  refine yAc 12 (.int .i64 0) ?_
  refine Sch.nil ?_
  refine run_sq ?_
  refine run_sq ?_
  refine run_pl [yy 0, yy 1, yy 2] ?_
  refine yM 53 9 ?_
  refine yS (kq 54 (.call { callee := .builtin .len, args := #[(.tmp 53)], argTypes := #[33] })) rfl rfl (fun w' hS => hu.lenV rfl Tryz.underlying33 w' ) ?_
  refine yV (kq 55 (.move (.const (.int .i64 0)))) (fun _ => val_move rfl) ?_
  refine Sch.nil ?_
  refine run_bk 0 ?_
  
  refine run_lp (ι := Nat × Int × Nat × (Nat → Nat)) (I := fun x w => x.1 ≤ (splitS bl).length ∧ x.2.1 = (((splitS bl).take x.1).map fun p => valueB p zs1).sum ∧ x.2.2.1 = (allW (wayS dl) ((splitS bl).take x.1)).length ∧ Lim w x.2.2.2 ∧ Stp [2, 3, 4, 5, 6, 7, 8, 9] w₀ (col1 C) w x.2.2.2 ∧ RV w (Mc x.2.2.2) dl vz ∧ RV w (Mc x.2.2.2) zs1 vp1 ∧ RV w (Mc x.2.2.2) (splitS bl) vu) (e := fun x => [(5, vz), (6, vp1), (7, .int .i64 (valueB bl zs1)), (11, .int .i64 (x.2.1 : Int)), (12, .int .i64 (x.2.2.1 : Nat)), (53, vu), (54, .int .i64 (splitS bl).length), (55, .int .i64 x.1)]) (m := fun x => (splitS bl).length - x.1) (x₀ := (0, 0, 0, Cd)) (sr 5 (sr 6 (sr 7 (sr 11 (sr 12 (sr 53 (sr 54 (sr 55 (sub_nil _))))))))) ?_ ?_
  · exact ⟨Nat.zero_le _, by simp, by simp [allW], hF, hT, hz, hp1, hu⟩
  intro ⟨k, sm, cn, C1⟩ w9 hI next
  obtain ⟨hk, hsm, hcn, hF, hT, hz, hp1, hu⟩ := hI
  try simp only at hk hsm hcn hF hT hz hp1 hu
  have next1 := next
  clear next
  show Run _ _ _ _ [(5, vz), (6, vp1), (7, .int .i64 (valueB bl zs1)), (11, .int .i64 (sm : Int)), (12, .int .i64 (cn : Nat)), (53, vu), (54, .int .i64 (splitS bl).length), (55, .int .i64 k)] _ _
  have hle := hu.le
  have hsbk := hsb k hk
  rw [← hsm] at hsbk
  have hcb := allW_le (wf := wayS dl) (ps := (splitS bl)) k
  rw [← hcn] at hcb
  refine run_sq ?_
  refine run_pl [yy 0] ?_
  refine yV (kq 56 (.binOp .lss 3 (.tmp 55) (.tmp 54) 3)) (fun _ => val_lss rfl rfl) ?_
  refine Sch.nil ?_
  refine run_sq ?_
  refine run_i 56 rfl (fun h56 => ?_) (fun h56 => ?_)
  ·
   have hkl : k < (splitS bl).length := by omega
   have hst := sum_take hkl zs1
   have hnx := congrArg List.length (allW_next (wf := wayS dl) hkl)
   rw [List.length_append] at hnx
   have hcb2 := allW_le (wf := wayS dl) (ps := (splitS bl)) (k + 1)
   have hsb2 := hsb (k + 1) hkl
   have hvp := split_vld hv hkl
   have hrp := split_refsl hkl
   refine run_sk ?_
   refine run_sq ?_
   refine run_bk 1 ?_
   refine run_sq ?_
   refine run_pl [yy 0, nn 1, yy 2] ?_
   refine iS (e := 23) (kq 57 (.indexAddr 33 (.tmp 53) (.tmp 55))) rfl rfl hu rfl (by kernel_rfl) rfl (by omega) (by omega) ?_
   intro b57 o57 h57
   try simp only [Int.toNat_natCast] at h57
   refine lN (kq 58 (.load 23 (.tmp 57))) rfl rfl trivial h57 (by kernel_rfl) rfl rfl ?_
   intro v58 g58
   refine yA 14 58 ?_
   refine Sch.nil ?_
   refine run_sq ?_
   refine run_pl [yy 0, yy 1, nn 2, yy 3, yy 4, yy 5, yy 6, yy 7, yy 8, yy 9] ?_
   refine yM 60 14 ?_
   refine yM 61 5 ?_
   refine cS (kq 62 (.call { callee := .value (.func 21), args := #[(.tmp 60), (.tmp 61)], argTypes := #[23, 24] })) rfl rfl (ent Tryz.call21 rfl) (solveS_ok (ds := dl) hF g58 hz hvp (by omega) hdl.len hdl.ok hdl.asc) ?_
   rintro _ w10 ⟨hs, zs2, vp2, hSt2, rfl, hp2⟩
   obtain ⟨hq1, hq2, hq3⟩ := part_sol hkl hSt1 hSt2
   rw [hq1]
   refine ⟨trivial, ?_⟩
   replace hF := hF.st hs
   replace hT := hT.t hs; replace hz := hz.t hs; replace hp1 := hp1.t hs; replace hu := hu.t hs; replace h57 := h57.t hs; replace g58 := g58.t hs
   refine yM 59 62 ?_
   refine yV (kq 63 (.extract (.tmp 59) 0)) (fun _ => val_extract rfl rfl) ?_
   refine yV (kq 64 (.extract (.tmp 59) 1)) (fun _ => val_extract rfl rfl) ?_
   refine yV (kq 65 (.extract (.tmp 59) 2)) (fun _ => val_extract rfl rfl) ?_
   refine yA 15 63 ?_
   refine yA 16 64 ?_
   refine yA 17 65 ?_
   refine Sch.nil ?_
   refine run_sq ?_
   refine run_sq ?_
   refine run_pl [yy 0, yy 1] ?_
   refine yM 66 17 ?_
   refine yV (kq 67 (.binOp .neq 36 (.tmp 66) (.const (.int .i64 0)) 36)) (fun _ => val_is (val_neq rfl rfl) (show _ = Value.bool false from congrArg Value.bool (decide_eq_false (by decide)))) ?_
   refine Sch.nil ?_
   refine run_cF 67 ?_
   refine run_sk ?_
   refine run_sq ?_
   refine run_pl [yy 0, yy 1, yy 2, yy 3] ?_
   refine yM 68 11 ?_
   refine yM 69 16 ?_
   refine yV (kq 70 (.binOp .add 3 (.tmp 68) (.tmp 69) 3)) (fun _ => val_addi rfl rfl (by omega) (by omega)) ?_
   refine yA 11 70 ?_
   refine Sch.nil ?_
   refine run_sq ?_
   refine run_pl [yy 0, yy 1, yy 2] ?_
   refine yM 71 15 ?_
   refine yS (kq 72 (.call { callee := .builtin .len, args := #[(.tmp 71)], argTypes := #[25] })) rfl rfl (fun w' hS => hp2.lenV rfl Tryz.underlying25 w' ) ?_
   refine yV (kq 73 (.move (.const (.int .i64 0)))) (fun _ => val_move rfl) ?_
   refine Sch.nil ?_
   refine run_bk 2 ?_
   
   refine run_lp (ι := Nat × (Nat → Nat)) (I := fun x w => x.1 ≤ zs2.length ∧ Lim w x.2 ∧ Stp [2, 3, 4, 5, 6, 7, 8, 9] w₀ (col1 C) w x.2 ∧ RV w (Mc x.2) dl vz ∧ RV w (Mc x.2) zs1 vp1 ∧ RV w (Mc x.2) (splitS bl) vu ∧ RV w (Mc x.2) zs2 vp2) (e := fun x => [(5, vz), (6, vp1), (7, .int .i64 (valueB bl zs1)), (11, .int .i64 (sm + valueB ((splitS bl)[k]'hkl) zs1)), (12, .int .i64 ((cn + x.1 : Nat) : Int)), (53, vu), (54, .int .i64 (splitS bl).length), (55, .int .i64 k), (71, vp2), (72, .int .i64 zs2.length), (73, .int .i64 x.1)]) (m := fun x => zs2.length - x.1) (x₀ := (0, C1)) (sr 5 (sr 6 (sr 7 (sr 11 (sr 12 (sr 53 (sr 54 (sr 55 (sr 71 (sr 72 (sr 73 (sub_nil _)))))))))))) ?_ ?_
   · exact ⟨Nat.zero_le _, hF, hT, hz, hp1, hu, hp2⟩
   intro ⟨i, C1⟩ w11 hI next
   obtain ⟨hi, hF, hT, hz, hp1, hu, hp2⟩ := hI
   try simp only at hi hF hT hz hp1 hu hp2
   have next2 := next
   clear next
   show Run _ _ _ _ [(5, vz), (6, vp1), (7, .int .i64 (valueB bl zs1)), (11, .int .i64 (sm + valueB ((splitS bl)[k]'hkl) zs1)), (12, .int .i64 ((cn + i : Nat) : Int)), (53, vu), (54, .int .i64 (splitS bl).length), (55, .int .i64 k), (71, vp2), (72, .int .i64 zs2.length), (73, .int .i64 i)] _ _
   have hle2 := hp2.le
   have hle1 := hp1.le
   refine run_sq ?_
   refine run_pl [yy 0] ?_
   refine yV (kq 74 (.binOp .lss 3 (.tmp 73) (.tmp 72) 3)) (fun _ => val_lss rfl rfl) ?_
   refine Sch.nil ?_
   refine run_sq ?_
   refine run_i 74 rfl (fun h74 => ?_) (fun h74 => ?_)
   ·
    have hil : i < zs2.length := by omega
    obtain ⟨hym, hy2⟩ := hq3 _ (List.getElem_mem hil)
    have hy0 : 0 < (zs2[i]'hil).length := by omega
    obtain ⟨j, hj, hfj, hjy⟩ := find_at hP1 hym (List.getElem_mem hy0)
    refine run_sk ?_
    refine run_sq ?_
    refine run_bk 3 ?_
    refine run_sq ?_
    refine run_pl [yy 0, nn 1, yy 2] ?_
    refine iS (e := 53) (kq 75 (.indexAddr 25 (.tmp 71) (.tmp 73))) rfl rfl hp2 rfl (by kernel_rfl) rfl (by omega) (by omega) ?_
    intro b75 o75 h75
    try simp only [Int.toNat_natCast] at h75
    refine lN (kq 76 (.load 53 (.tmp 75))) rfl rfl trivial h75 (by kernel_rfl) rfl rfl ?_
    intro v76 g76
    refine yA 19 76 ?_
    refine Sch.nil ?_
    refine run_sq ?_
    refine run_pl [yy 0, yy 1, yy 2, nn 3, nn 4, yy 5] ?_
    refine yM 77 6 ?_
    refine yM 78 19 ?_
    refine iS (e := 47) (kq 79 (.indexAddr 53 (.tmp 78) (.const (.int .i64 0)))) rfl rfl g76 rfl (by kernel_rfl) rfl (by omega) (by omega) ?_
    intro b79 o79 h79
    try simp only [Int.toNat_natCast] at h79
    refine lNA (kq 80 (.load 47 (.tmp 79))) rfl rfl trivial h79 (by kernel_rfl) (by kernel_rfl) rfl rfl ?_
    intro v80 g80
    obtain rfl := rv_couple.1 g80
    refine cS (kq 81 (.call { callee := .value (.func 34), args := #[(.tmp 77), (.tmp 80)], argTypes := #[25, 47] })) rfl rfl (ent Tryz.call34 rfl) (find_ok (c := (zs2[i]'hil)[0]'hy0) hF hp1) ?_
    rintro vw12 w12 ⟨rfl, hs⟩
    rw [hfj]
    refine ⟨trivial, ?_⟩
    replace hF := hF.st hs
    replace hT := hT.t hs; replace hz := hz.t hs; replace hp1 := hp1.t hs; replace hu := hu.t hs; replace hp2 := hp2.t hs; replace h75 := h75.t hs; replace g76 := g76.t hs; replace h79 := h79.t hs
    refine yA 20 81 ?_
    refine Sch.nil ?_
    refine run_sq ?_
    refine run_sq ?_
    refine run_pl [yy 0, yy 1, yy 2, yy 3, yy 4, yy 5, nn 6, yy 7, nn 8, yy 9, yy 10] ?_
    refine yM 82 20 ?_
    refine yV (kq 83 (.binOp .lss 3 (.tmp 82) (.const (.int .i64 0)) 3)) (fun _ => val_F (val_lss rfl rfl) (by omega)) ?_
    refine yM 84 83 ?_
    refine yMg 85 6 2 false ?_
    refine yMg 86 20 2 false ?_
    refine iS (e := 53) (kg 87 (.indexAddr 25 (.tmp 85) (.tmp 86)) 2 false) rfl rfl hp1 rfl (by kernel_rfl) rfl (by omega) (by omega) ?_
    intro b87 o87 h87
    try simp only [Int.toNat_natCast] at h87
    refine lN (kg 88 (.load 53 (.tmp 87)) 2 false) rfl rfl trivial h87 (by kernel_rfl) rfl rfl ?_
    intro v88 g88
    rw [hjy] at g88
    refine yMg 89 19 2 false ?_
    refine cS (kg 90 (.call { callee := .value (.func 35), args := #[(.tmp 88), (.tmp 89)], argTypes := #[53, 53] }) 2 false) rfl rfl (ent Tryz.call35 rfl) (sameRefs_ok hF g88 g76) ?_
    rintro vw13 w13 ⟨rfl, hs⟩
    refine ⟨trivial, ?_⟩
    replace hF := hF.st hs
    replace hT := hT.t hs; replace hz := hz.t hs; replace hp1 := hp1.t hs; replace hu := hu.t hs; replace hp2 := hp2.t hs; replace h75 := h75.t hs; replace g76 := g76.t hs; replace h79 := h79.t hs; replace h87 := h87.t hs; replace g88 := g88.t hs
    refine yV (kg 91 (.unOp .not 4 (.tmp 90)) 2 false) (fun _ => val_not rfl) ?_
    refine yOf 92 84 91 ?_
    refine Sch.nil ?_
    refine run_cF 92 ?_
    refine run_sk ?_
    refine run_pl [yy 0, yy 1, yy 2] ?_
    refine yM 93 12 ?_
    refine yV (kq 94 (.binOp .add 3 (.tmp 93) (.const (.int .i64 1)) 3)) (fun _ => val_addi rfl rfl (by omega) (by omega)) ?_
    refine yA 12 94 ?_
    refine Sch.nil ?_
    refine run_inBlock ?_
    refine run_pl [yy 0, yy 1] ?_
    refine yV (kq 95 (.binOp .add 3 (.tmp 73) (.const (.int .i64 1)) 3)) (fun _ => val_addi rfl rfl (by omega) (by omega)) ?_
    refine yM 73 95 ?_
    refine Sch.nil ?_
    refine kp (sub_cons 5 rfl rfl (sub_cons 6 rfl rfl (sub_cons 7 rfl rfl (sub_cons 11 rfl rfl (sub_cons 12 rfl (eq_int (by simp only; omega)) (sub_cons 53 rfl rfl (sub_cons 54 rfl rfl (sub_cons 55 rfl rfl (sub_cons 71 rfl rfl (sub_cons 72 rfl rfl (sub_cons 73 rfl (eq_int (by simp)) (sub_nil _)))))))))))) (next2 (i + 1, C1) _ ⟨(by first | omega | (simp only; omega)), hF, hT, hz, hp1, hu, hp2⟩ (by first | omega | (simp only; omega)))
   ·
    have hil : i = zs2.length := by omega
    refine run_ex 2 ?_
    refine run_inBlock ?_
    refine run_pl [yy 0, yy 1] ?_
    refine yV (kq 96 (.binOp .add 3 (.tmp 55) (.const (.int .i64 1)) 3)) (fun _ => val_addi rfl rfl (by omega) (by omega)) ?_
    refine yM 55 96 ?_
    refine Sch.nil ?_
    refine kp (sub_cons 5 rfl rfl (sub_cons 6 rfl rfl (sub_cons 7 rfl rfl (sub_cons 11 rfl rfl (sub_cons 12 rfl (eq_int (by rw [hil])) (sub_cons 53 rfl rfl (sub_cons 54 rfl rfl (sub_cons 55 rfl (eq_int (by simp)) (sub_nil _))))))))) (next1 (k + 1, (sm + valueB ((splitS bl)[k]'hkl) zs1), (cn + zs2.length), C1) _ ⟨(by first | omega | (simp only; omega)), (by simp only; rw [hst, hsm]), (by simp only; omega), hF, hT, hz, hp1, hu⟩ (by first | omega | (simp only; omega)))
  ·
   have hkl : k = (splitS bl).length := by omega
   rw [hkl, List.take_length] at hsm hcn
   rw [← value_split] at hsm
   refine run_ex 0 ?_
   refine run_sq ?_
   refine run_pl [yy 0, yy 1, yy 2, yy 3, yy 4, yy 5, yy 6, yy 7, yy 8, yy 9] ?_
   refine yM 97 11 ?_
   refine yM 98 7 ?_
   refine yV (kq 99 (.binOp .eql 3 (.tmp 97) (.tmp 98) 3)) (fun _ => val_T (val_eql rfl rfl) hsm) ?_
   refine yM 100 99 ?_
   refine yMg 101 12 3 true ?_
   refine yMg 102 6 3 true ?_
   refine yS (kg 103 (.call { callee := .builtin .len, args := #[(.tmp 102)], argTypes := #[25] }) 3 true) rfl rfl (fun w' hS => hp1.lenV rfl Tryz.underlying25 w' ) ?_
   refine yV (kg 104 (.binOp .eql 3 (.tmp 101) (.tmp 103) 3) 3 true) (fun _ => val_T (val_eql rfl rfl) (by omega)) ?_
   refine yAt 105 100 104 ?_
   refine yA 2 105 ?_
   refine Sch.nil ?_
   refine run_ret1 (by kernel_rfl) Tryz.func9 Tryz.results9 rfl ?_
   exact ⟨rfl, hT.out1 (by decide)⟩
namespace F9B
noncomputable def c0 := bodyOf Tryz.f9
noncomputable def c7 := (cl (cl (cr (cl (cr c0)))))
noncomputable def c15 := (cl (cr (cr (cr (cr c0)))))
noncomputable def c16 := (cr (cr (cr (cr (cr c0)))))
noncomputable def c23 := (cl (cl (cr (cl (cr c16)))))
noncomputable def c30 := (cl (cl (cr (cr (cr c16)))))
noncomputable def c31 := (cr (cl (cr (cr (cr c16)))))
noncomputable def c40 := (cl (cr (cr (cl (cl c31)))))
noncomputable def c47 := (cl (cl (cr (cr (cl c40)))))
noncomputable def c48 := (cr (cl (cr (cr (cl c40)))))
noncomputable def c54 := (cl (cr (cr (cr (cl c40)))))
noncomputable def c55 := (cr (cr (cr (cr (cl c40)))))
noncomputable def c62 := (cl (cr (cl (cl (cr c55)))))
noncomputable def c65 := (cr (cr (cl (cl (cr c55)))))
noncomputable def c72 := (cl (cr (cr (cl (cl c65)))))
noncomputable def c79 := (cr (cr (cr (cl (cl c65)))))
noncomputable def c81 := (cr (cr (cr (cl (cl c31)))))
noncomputable def c83 := (cl (cr (cr (cr (cr c16)))))
end F9B
/-- .. where more is handed than it looks at. -/
theorem clusterParts_big {w₀ : World} {C : Nat → Nat} {p : Option Addr} {n c : Nat} (hF : Lim w₀ C) (hn : 400 < n) : Calls Tryz.prog 9 #[.slice p n c] w₀ (Ret fun v w' => v = .bool true ∧ Stp [] w₀ C w' C) := by
 have hF0 := hF
 have hT := Stp.refl [2, 3, 4, 5, 6, 7, 8, 9] w₀ (col1 C)
 replace hF := hF.col1
 refine calls_start (c := F9B.c0) (N := 106) [.slice p n c] Tryz.func9 (by kernel_rfl) (by kernel_rfl) (by kernel_rfl) ?_
 show Run _ _ _ _ [(0, .slice p n c)] _ _
 refine run_sq ?_
 refine run_pl [yy 0] ?_
 refine yAc 2 (.bool false) ?_
 refine Sch.nil ?_
 refine run_sq ?_
 refine run_sq ?_
 refine run_pl [nn 0, yy 1, yy 2, yy 3, nn 4, yy 5, yy 6] ?_
 refine cS (kq 21 (.call { callee := .value (.func 11), args := #[], argTypes := #[] })) rfl rfl (ent Tryz.call11 rfl) (awake_ok hF) ?_
 rintro vw1 w1 ⟨rfl, hs⟩
 refine ⟨trivial, ?_⟩
 replace hF := hF.st hs
 replace hT := hT.t hs
 refine yV (kq 22 (.unOp .not 4 (.tmp 21))) (fun _ => val_not rfl) ?_
 refine yM 23 22 ?_
 refine yMg 24 0 2 false ?_
 refine cS (kg 25 (.call { callee := .value (.func 12), args := #[(.tmp 24)], argTypes := #[22] }) 2 false) rfl rfl (ent Tryz.call12 rfl) (few_ok _ _ _ _) ?_
 rintro vw2 w2 ⟨rfl, rfl⟩
 refine ⟨trivial, ?_⟩
 rw [decide_eq_false (show ¬ (n : Int) ≤ 400 by omega)]
 refine yV (kg 26 (.unOp .not 4 (.tmp 25)) 2 false) (fun _ => val_not rfl) ?_
 refine yOf 27 23 26 ?_
 refine Sch.nil ?_
 refine run_cT 27 ?_
 refine run_sq ?_
 refine run_pl [nn 0, yy 1] ?_
 refine cS (kq 28 (.call { callee := .value (.func 11), args := #[], argTypes := #[] })) rfl rfl (ent Tryz.call11 rfl) (awake_ok hF) ?_
 rintro vw3 w3 ⟨rfl, hs⟩
 refine ⟨trivial, ?_⟩
 replace hF := hF.st hs
 replace hT := hT.t hs
 refine yA 2 28 ?_
 refine Sch.nil ?_
 refine run_ret1 (by kernel_rfl) Tryz.func9 Tryz.results9 rfl ?_
 exact ⟨rfl, hT.out1 (by decide)⟩
end Go.Proofs.YtdmgmlmlielfbaaGreat
