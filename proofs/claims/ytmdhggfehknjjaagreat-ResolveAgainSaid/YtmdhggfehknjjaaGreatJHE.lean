/- Steps through functions of the program. -/
import Derived.Test.YtmdhggfehknjjaaGreatJHF
import Derived.Test.YtmdhggfehknjjaaGreatJH8
import Derived.Test.YtmdhggfehknjjaaGreatJHD
set_option linter.unusedVariables false
set_option linter.unusedSimpArgs false
set_option maxRecDepth 100000
set_option maxHeartbeats 4000000
namespace Go.Proofs.YtmdhggfehknjjaaGreat
open Go.K Go.K.Rep
namespace F4
noncomputable def c0 := bodyOf Tryz.f4
end F4
theorem resolveAgain_ok {w₀ : World} {C : Nat → Nat} {l : List Int} {vl : Value} (hF : Lim w₀ C) (hl : RV w₀ (Mc C) l vl) : Calls Tryz.prog 4 #[vl] w₀ (Ret fun v w' => v = .bool true ∧ Stp [] w₀ C w' C) := by
 have hF0 := hF
 have hT := Stp.refl [2, 3, 4, 5, 6, 7, 8, 9] w₀ (col1 C)
 replace hF := hF.col1
 replace hl : RV w₀ (Mc (col1 C)) l vl := by rw [Mc_col1]; exact hl
 refine c_st F4.c0 100 [vl] Tryz.func4 ?_
 show Run _ _ _ _ [(0, vl)] _ _
 refine run_sq (run_pl [yy 0] ?_)
 refine yAc 2 (.bool false) ?_
 refine Sch.nil (run_sq (run_sq (run_pl [nn 0, yy 1, yy 2, yy 3, nn 4, yy 5, yy 6] ?_)))
 refine cG 18 9 [] [] Tryz.call9 rfl (awake_ok hF) ?_
 rintro vw1 w1 ⟨rfl, s_1⟩
 refine yV (kq 19 (.unOp .not 4 (.tmp 18))) (fun _ => val_not rfl) ?_
 refine yM 20 19 ?_
 refine yMg 21 0 2 false ?_
 replace hl := hl.t s_1
 refine cT (kg 22 (.call { callee := .value (.func 10), args := #[(.tmp 21)], argTypes := #[22] }) 2 false) rfl rfl (ent Tryz.call10 rfl) (few_any hl) ?_
 rintro vw2 w2 ⟨rfl, rfl⟩
 refine yV (kg 23 (.unOp .not 4 (.tmp 22)) 2 false) (fun _ => val_notd rfl) ?_
 refine yOf 24 20 23 ?_
 refine Sch.nil ?_
 refine run_i 24 rfl (fun h24 => ?_) (fun h24 => ?_)
 ·
  refine run_sq (run_pl [nn 0, yy 1] ?_)
  replace hF := hF.st s_1
  refine cG 25 9 [] [] Tryz.call9 rfl (awake_ok hF) ?_
  rintro vw3 w3 ⟨rfl, s_2⟩
  refine yA 2 25 ?_
  refine Sch.nil ?_
  refine rt1 Tryz.func4 Tryz.results4 ?_
  replace hT := (hT.t s_1).t s_2
  exact ⟨rfl, hT.out1 (by decide)⟩
 refine run_sk (run_sq (run_pl [yy 0, nn 1, yy 2] ?_))
 refine yM 26 0 ?_
 replace hF := hF.st s_1
 refine cG 27 11 [26] [22] Tryz.call11 rfl (new_any hF hl) ?_
 rintro vw4 w4 ⟨Cd, bd, rfl, s_3, hF, hd⟩
 refine yA 3 27 ?_
 refine Sch.nil (run_sq (run_pl [yy 0, nn 1, yy 2, nn 3, yy 4, yy 5] ?_))
 refine yM 28 3 ?_
 refine cT (kq 29 (.call { callee := .value (.func 12), args := #[(.tmp 28), (.const (.int .i64 3)), (.const (.int .i64 3)), (.const (.int .i64 6))], argTypes := #[30, 3, 3, 3] })) rfl rfl (ent Tryz.call12 rfl) (bonds_any (R := 3) (I := 3) (one := 6) hF (by decide) hd (by decide) (by decide) (by omega) (by omega)) ?_
 rintro vb w5 ⟨bl, hbl, ⟨s_4, hb, hd⟩, _⟩
 have hv := hbl.vld (by decide) (by decide)
 have hrl := hbl.few
 have hbL := hv.1
 refine yM 30 3 ?_
 replace hF := hF.st s_4
 refine cT (kq 31 (.call { callee := .value (.func 13), args := #[(.tmp 30), (.const (.int .i64 3)), (.const (.int .i64 3)), (.const (.int .i64 15))], argTypes := #[30, 3, 3, 3] })) rfl rfl (ent Tryz.call13 rfl) (decs_any (R := 3) (I := 3) (one := 15) hF (by decide) hd (by decide) (by decide) (by omega) (by omega)) ?_
 rintro vz w6 ⟨dl, hdl, s_5, hz, hd⟩
 refine yA 4 29 ?_
 refine yA 5 31 ?_
 refine Sch.nil ?_
 have hG0 := Gd.of hbl
 have hGv := hG0.vld (by decide)
 have hGf := hG0.few
 refine run_sq (run_pl [yy 0, yy 1, nn 2, yy 3, yy 4, yy 5, nn 6, nn 7, yy 8] ?_)
 refine yM 33 4 ?_
 refine yM 34 5 ?_
 replace hF := hF.st s_5; replace hb := hb.t s_5
 refine cG 35 17 [33, 34] [23, 27] Tryz.call17 rfl (resOf_ok (ds := dl) hF hb hz hGv (by omega) hdl.len hdl.ok hdl.asc) ?_
 rintro _ w7 ⟨s_6, zs1, vb1, vp1, hSt1, rfl, hb1, hp1⟩
 replace hd := hd.st s_6 (by first | decide | (simp <;> omega)) (by first | decide | (simp <;> omega))
 refine yM 32 35 ?_
 refine yE 36 32 0 ?_
 refine yE 37 32 1 ?_
 replace hF := hF.st s_6
 refine aT (kq 6 (.alloc 26)) rfl rfl (a_alloc (cs := [.slice none 0 0, .slice none 0 0, .int .i64 0]) hF 4 (by kernel_rfl)) ?_
 rintro _ w8 ⟨Cw8, bw8, rfl, s_7, bs, hF⟩
 replace hd := hd.st s_7 (by first | decide | (simp <;> omega)) (by first | decide | (simp <;> omega))
 replace hb1 := hb1.t s_7; replace hp1 := hp1.t s_7
 refine aU (k0 (.store 26 (.tmp 6) (.tmp 36))) rfl (a_storeAll (vs := [vb1, vp1, .int .i64 (valueB bl zs1)]) (n := 3) rfl rfl (by kernel_rfl) rfl rfl (by intro u hu; simp only [List.mem_cons, List.not_mem_nil, or_false] at hu; rcases hu with rfl | rfl | rfl <;> first | rfl | exact (hb1.one rfl).2 | exact (hp1.one rfl).2) bs rfl) ?_
 rintro _ w9 ⟨rfl, s_8, bs⟩
 replace hd := hd.st s_8 (by first | decide | (simp <;> omega)) (by first | decide | (simp <;> omega))
 refine yA 7 37 ?_
 refine Sch.nil (run_sq (run_sq (run_pl [yy 0, yy 1] ?_)))
 refine yM 38 7 ?_
 refine yV (kq 39 (.binOp .neq 34 (.tmp 38) (.const (.int .i64 0)) 34)) (fun _ => val_is (val_neq rfl rfl) (show _ = Value.bool false from congrArg Value.bool (decide_eq_false (by decide)))) ?_
 refine Sch.nil (run_cF 39 (run_sk (run_sq (run_sq (run_pl [yy 0] ?_)))))
 refine yAc 8 (.int .i64 0) ?_
 refine Sch.nil (run_bk 0 ?_)
 refine run_lp (ι := Nat × (List Bond) × Value × (List Dcs) × Value × (List (List Couple)) × Value × Value × (Nat → Nat)) (I := fun x w => x.1 ≤ 5 ∧ Gd (9 + 3 * (x.1 : Int)) x.2.1 ∧ Dds 3 3 x.2.2.2.1 ∧ StS cmpH (allW (wayS x.2.2.2.1) (splitS x.2.1)) x.2.2.2.2.2.1 ∧ Lim w x.2.2.2.2.2.2.2.2 ∧ Stp [2, 3, 4, 5, 6, 7, 8, 9] w₀ (col1 C) w x.2.2.2.2.2.2.2.2 ∧ DeckIs w x.2.2.2.2.2.2.2.2 3 bd ∧ RV w (Mc x.2.2.2.2.2.2.2.2) x.2.1 x.2.2.1 ∧ RV w (Mc x.2.2.2.2.2.2.2.2) x.2.2.2.1 x.2.2.2.2.1 ∧ RV w (Mc x.2.2.2.2.2.2.2.2) x.2.1 x.2.2.2.2.2.2.1 ∧ RV w (Mc x.2.2.2.2.2.2.2.2) x.2.2.2.2.2.1 x.2.2.2.2.2.2.2.1 ∧ OwnB w x.2.2.2.2.2.2.2.2 4 bw8 (.cells [x.2.2.2.2.2.2.1, x.2.2.2.2.2.2.2.1, .int .i64 (valueB x.2.1 x.2.2.2.2.2.1)].toArray 26)) (e := fun x => [(3, .pointer (some ⟨bd, 0, none⟩)), (4, x.2.2.1), (5, x.2.2.2.2.1), (6, .pointer (some ⟨bw8, 0, none⟩)), (8, .int .i64 x.1)]) (m := fun x => 5 - x.1) (x₀ := (0, bl, vb, dl, vz, zs1, vb1, vp1, Cw8)) (sr 3 (sr 4 (sr 5 (sr 6 (sr 8 (sub_nil _)))))) ?_ ?_
 ·
   replace hT := ((((((hT.t s_1).t s_3).t s_4).t s_5).t s_6).t s_7).t s_8; replace hb := ((hb.t s_6).t s_7).t s_8; replace hz := ((hz.t s_6).t s_7).t s_8; replace hF := hF.st s_8; replace hb1 := hb1.t s_8; replace hp1 := hp1.t s_8
   exact ⟨Nat.zero_le _, by simpa using hG0, hdl, hSt1, hF, hT, hd, hb, hz, hb1, hp1, bs⟩
 intro ⟨k, cl, vc, al, va, zl, xb, xp, C1⟩ w10 hI next
 obtain ⟨hk, hG, hdl, hS, hF, hT, hd, hc, ha, hb1, hp1, bs⟩ := hI
 try simp only at hk hG hdl hS hF hT hd hc ha hb1 hp1 bs
 have next1 := next
 clear next
 show Run _ _ _ _ [(3, .pointer (some ⟨bd, 0, none⟩)), (4, vc), (5, va), (6, .pointer (some ⟨bw8, 0, none⟩)), (8, .int .i64 k)] _ _
 refine run_sq (run_sq (run_pl [yy 0, yy 1] ?_))
 refine yM 40 8 ?_
 refine yV (kq 41 (.binOp .lss 3 (.tmp 40) (.const (.int .i64 5)) 3)) (fun _ => val_lss rfl rfl) ?_
 refine Sch.nil ?_
 refine run_i 41 rfl (fun h41 => ?_) (fun h41 => ?_)
 ·
  have hk5 : k < 5 := by omega
  refine run_sk (run_sq (run_bk 1 (run_sq (run_pl [yy 0, yy 1, nn 2, yy 3, yy 4, yy 5] ?_))))
  refine yM 44 3 ?_
  refine yM 45 4 ?_
  refine cG 46 19 [44, 45] [30, 23] Tryz.call19 rfl (changed_ok (m := 9 + 3 * (k : Int)) hF (by decide) hd hc hG ⟨by omega, by omega⟩) ?_
  rintro vn w11 ⟨nl, hGn, s_9, hn, hd⟩
  have hvo := hG.vld (by omega)
  have hvn := hGn.vld (by omega)
  have hfo := hG.few
  have hfn := hGn.few
  have hPo := (sol_PV (fun i hi => wayS_PV al _) hS).1
  refine yM 47 5 ?_
  refine yA 9 46 ?_
  refine yA 10 47 ?_
  refine Sch.nil (run_sq (run_sq (run_pl [yy 0, nn 1] ?_)))
  refine yM 48 3 ?_
  replace hF := hF.st s_9
  refine cT (kq 49 (.call { callee := .value (.func 15), args := #[(.tmp 48), (.const (.int .i64 2))], argTypes := #[30, 3] })) rfl rfl (ent Tryz.call15 rfl) (one_any (n := 2) hF (by decide) hd (by omega) (by omega)) ?_
  rintro vw12 w12 ⟨t, rfl, s_10, hd⟩
  refine Sch.nil ?_
  refine run_c 49 rfl (fun h49 => ?_) (fun h49 => ?_)
  ·
   refine run_pl [yy 0, nn 1, yy 2] ?_
   refine yM 50 3 ?_
   replace hF := hF.st s_10
   refine cT (kq 51 (.call { callee := .value (.func 13), args := #[(.tmp 50), (.const (.int .i64 3)), (.const (.int .i64 3)), (.const (.int .i64 15))], argTypes := #[30, 3, 3, 3] })) rfl rfl (ent Tryz.call13 rfl) (decs_any (R := 3) (I := 3) (one := 15) hF (by decide) hd (by decide) (by decide) (by omega) (by omega)) ?_
   rintro vz2 w13 ⟨dl2, hdl2, s_11, hz2, hd⟩
   refine yA 10 51 ?_
   refine Sch.nil (run_sq (run_pl [nn 0, yy 1, yy 2, yy 3, nn 4, yy 5, yy 6, yy 7, yy 8, nn 9, nn 10, yy 11, yy 12] ?_))
   replace bs := ((bs.t s_9).t s_10).t s_11
   refine nS (kq 53 (.load 26 (.tmp 6))) rfl rfl trivial (val_loadOwnAgg (n := 3) (vs := [xb, xp, .int .i64 (valueB cl zl)]) bs.at_ (by kernel_rfl) (by kernel_rfl) rfl rfl rfl) ?_
   refine yM 54 5 ?_
   refine yM 55 9 ?_
   refine yM 56 10 ?_
   replace ha := ((ha.t s_9).t s_10).t s_11; replace hb1 := ((hb1.t s_9).t s_10).t s_11; replace hp1 := ((hp1.t s_9).t s_10).t s_11; replace hn := (hn.t s_10).t s_11; replace hF := hF.st s_11
   refine cG 57 22 [53, 54, 55, 56] [26, 27, 23, 27] Tryz.call22 rfl (again_ok (old := cl) (nw := nl) (d1 := al) (d2 := dl2) (tt := valueB cl zl) hF hb1 hp1 ha hn hz2 hvo hvn  hS (by omega) (by omega) hdl.len hdl.ok hdl.asc hdl2.len hdl2.ok hdl2.asc) ?_
   rintro _ w14 ⟨s_12, us2, vb2, vp2, hSu2, rfl, hb2, hp2⟩
   replace hd := hd.st s_12 (by first | decide | (simp <;> omega)) (by first | decide | (simp <;> omega))
   refine yM 52 57 ?_
   refine yE 58 52 0 ?_
   refine yE 59 52 1 ?_
   refine yE 60 52 2 ?_
   replace hF := hF.st s_12
   refine aT (kq 11 (.alloc 26)) rfl rfl (a_alloc (cs := [.slice none 0 0, .slice none 0 0, .int .i64 0]) hF 5 (by kernel_rfl)) ?_
   rintro _ w15 ⟨Cw15, bw15, rfl, s_13, b2, hF⟩
   replace hd := hd.st s_13 (by first | decide | (simp <;> omega)) (by first | decide | (simp <;> omega))
   replace hb2 := hb2.t s_13; replace hp2 := hp2.t s_13
   refine aU (k0 (.store 26 (.tmp 11) (.tmp 58))) rfl (a_storeAll (vs := [vb2, vp2, .int .i64 (valueB nl us2)]) (n := 3) rfl rfl (by kernel_rfl) rfl rfl (by intro u hu; simp only [List.mem_cons, List.not_mem_nil, or_false] at hu; rcases hu with rfl | rfl | rfl <;> first | rfl | exact (hb2.one rfl).2 | exact (hp2.one rfl).2) b2 rfl) ?_
   rintro _ w16 ⟨rfl, s_14, b2⟩
   replace hd := hd.st s_14 (by first | decide | (simp <;> omega)) (by first | decide | (simp <;> omega))
   refine yA 12 59 ?_
   refine yA 13 60 ?_
   refine Sch.nil (run_sq (run_pl [yy 0, yy 1, nn 2, yy 3, yy 4, yy 5, nn 6, nn 7, yy 8] ?_))
   refine yM 62 9 ?_
   refine yM 63 10 ?_
   replace hn := ((hn.t s_12).t s_13).t s_14; replace hz2 := ((hz2.t s_12).t s_13).t s_14; replace hF := hF.st s_14
   refine cG 64 17 [62, 63] [23, 27] Tryz.call17 rfl (resOf_ok (ds := dl2) hF hn hz2 hvn (by omega) hdl2.len hdl2.ok hdl2.asc) ?_
   rintro _ w17 ⟨s_15, zs3, vb3, vp3, hSt3, rfl, hb3, hp3⟩
   have e23 : us2 = zs3 := hSu2.uniq cmpH_3 (fun _ _ => trivial) hSt3
   subst e23
   replace hd := hd.st s_15 (by first | decide | (simp <;> omega)) (by first | decide | (simp <;> omega))
   refine yM 61 64 ?_
   refine yE 65 61 0 ?_
   refine yE 66 61 1 ?_
   replace hF := hF.st s_15
   refine aT (kq 14 (.alloc 26)) rfl rfl (a_alloc (cs := [.slice none 0 0, .slice none 0 0, .int .i64 0]) hF 6 (by kernel_rfl)) ?_
   rintro _ w18 ⟨Cw18, bw18, rfl, s_16, b3, hF⟩
   replace hd := hd.st s_16 (by first | decide | (simp <;> omega)) (by first | decide | (simp <;> omega))
   replace hb3 := hb3.t s_16; replace hp3 := hp3.t s_16
   refine aU (k0 (.store 26 (.tmp 14) (.tmp 65))) rfl (a_storeAll (vs := [vb3, vp3, .int .i64 (valueB nl us2)]) (n := 3) rfl rfl (by kernel_rfl) rfl rfl (by intro u hu; simp only [List.mem_cons, List.not_mem_nil, or_false] at hu; rcases hu with rfl | rfl | rfl <;> first | rfl | exact (hb3.one rfl).2 | exact (hp3.one rfl).2) b3 rfl) ?_
   rintro _ w19 ⟨rfl, s_17, b3⟩
   replace hd := hd.st s_17 (by first | decide | (simp <;> omega)) (by first | decide | (simp <;> omega))
   refine yA 15 66 ?_
   refine Sch.nil (run_sq (run_pl [nn 0, yy 1, yy 2, yy 3, nn 4, yy 5, yy 6, yy 7, yy 8, yy 9] ?_))
   replace bs := (((((bs.t s_12).t s_13).t s_14).t s_15).t s_16).t s_17
   refine nS (kq 68 (.load 26 (.tmp 6))) rfl rfl trivial (val_loadOwnAgg (n := 3) (vs := [xb, xp, .int .i64 (valueB cl zl)]) bs.at_ (by kernel_rfl) (by kernel_rfl) rfl rfl rfl) ?_
   refine yM 69 5 ?_
   refine yM 70 9 ?_
   refine yM 71 10 ?_
   replace ha := (((((ha.t s_12).t s_13).t s_14).t s_15).t s_16).t s_17; replace hb1 := (((((hb1.t s_12).t s_13).t s_14).t s_15).t s_16).t s_17; replace hp1 := (((((hp1.t s_12).t s_13).t s_14).t s_15).t s_16).t s_17; replace hn := ((hn.t s_15).t s_16).t s_17; replace hz2 := ((hz2.t s_15).t s_16).t s_17; replace hF := hF.st s_17
   refine cG 72 20 [68, 69, 70, 71] [26, 27, 23, 27] Tryz.call20 rfl (touched_ok (old := cl) (nw := nl) (d1 := al) (d2 := dl2) (tt := valueB cl zl) hF hb1 hp1 ha hn hz2 hvo hvn  hPo hdl.len hdl.ok hdl.asc hdl2.len hdl2.ok hdl2.asc) ?_
   rintro _ w20 ⟨s_18, vt, rfl, ht⟩
   replace hd := hd.st s_18 (by first | decide | (simp <;> omega)) (by first | decide | (simp <;> omega))
   refine yM 67 72 ?_
   refine yE 73 67 0 ?_
   refine yE 74 67 1 ?_
   refine yA 16 73 ?_
   refine yA 17 74 ?_
   refine Sch.nil (run_sq (run_sq (run_pl [yy 0, yy 1, yy 2, yy 3, yy 4, yy 5, yy 6, yy 7, yy 8, yy 9, yy 10, nn 11, nn 12, nn 13, yy 14, yy 15, yy 16, yy 17, yy 18, yy 19, yy 20, yy 21] ?_)))
   refine yM 75 13 ?_
   refine yV (kq 76 (.binOp .neq 34 (.tmp 75) (.const (.int .i64 0)) 34)) (fun _ => val_F (val_neq rfl rfl) (by decide)) ?_
   refine yM 77 76 ?_
   refine yMg 78 15 2 false ?_
   refine yV (kg 79 (.binOp .neq 34 (.tmp 78) (.const (.int .i64 0)) 34) 2 false) (fun _ => val_F (val_neq rfl rfl) (by decide)) ?_
   refine yOf 80 77 79 ?_
   refine yM 81 80 ?_
   refine yMg 82 17 6 false ?_
   refine yV (kg 83 (.binOp .neq 34 (.tmp 82) (.const (.int .i64 0)) 34) 6 false) (fun _ => val_F (val_neq rfl rfl) (by decide)) ?_
   refine yOf 84 81 83 ?_
   refine yM 85 84 ?_
   replace b2 := (((b2.t s_15).t s_16).t s_17).t s_18
   refine nS (kg 86 (.load 26 (.tmp 11)) 10 false) rfl rfl trivial (val_loadOwnAgg (n := 3) (vs := [vb2, vp2, .int .i64 (valueB nl us2)]) b2.at_ (by kernel_rfl) (by kernel_rfl) rfl rfl rfl) ?_
   replace b3 := b3.t s_18
   refine nS (kg 87 (.load 26 (.tmp 14)) 10 false) rfl rfl trivial (val_loadOwnAgg (n := 3) (vs := [vb3, vp3, .int .i64 (valueB nl us2)]) b3.at_ (by kernel_rfl) (by kernel_rfl) rfl rfl rfl) ?_
   replace hb2 := ((((hb2.t s_14).t s_15).t s_16).t s_17).t s_18; replace hp2 := ((((hp2.t s_14).t s_15).t s_16).t s_17).t s_18; replace hb3 := (hb3.t s_17).t s_18; replace hp3 := (hp3.t s_17).t s_18; replace hF := hF.st s_18
   refine cT (kg 88 (.call { callee := .value (.func 18), args := #[(.tmp 86), (.tmp 87)], argTypes := #[26, 26] }) 10 false) rfl rfl (ent Tryz.call18 rfl) (sameSol_ok hF hb2 hp2 hb3 hp3) ?_
   rintro vw21 w21 ⟨rfl, s_19⟩
   replace hd := hd.st s_19 (by first | decide | (simp <;> omega)) (by first | decide | (simp <;> omega))
   refine yV (kg 89 (.unOp .not 4 (.tmp 88)) 10 false) (fun _ => val_not rfl) ?_
   refine yOf 90 85 89 ?_
   refine yM 91 90 ?_
   refine yMg 92 12 16 false ?_
   refine yMg 93 16 16 false ?_
   replace ht := ht.t s_19
   refine yS (kg 94 (.call { callee := .builtin .len, args := #[(.tmp 93)], argTypes := #[24] }) 16 false) rfl rfl (fun w' hS => ht.lenV rfl Tryz.underlying24 w' ) ?_
   refine yV (kg 95 (.binOp .neq 3 (.tmp 92) (.tmp 94) 3) 16 false) (fun _ => val_F (val_neq rfl rfl) (fun e => e rfl)) ?_
   refine yOf 96 91 95 ?_
   refine Sch.nil (run_cF 96 (run_sk (run_pl [nn 0, yy 1, yy 2, nn 3, yy 4, yy 5] ?_)))
   replace b2 := b2.t s_19
   refine nS (kq 97 (.load 26 (.tmp 11))) rfl rfl trivial (val_loadOwnAgg (n := 3) (vs := [vb2, vp2, .int .i64 (valueB nl us2)]) b2.at_ (by kernel_rfl) (by kernel_rfl) rfl rfl rfl) ?_
   refine yM 98 9 ?_
   refine yM 99 10 ?_
   replace bs := (bs.t s_18).t s_19; replace hb2 := hb2.t s_19; replace hp2 := hp2.t s_19
   refine aU (k0 (.store 26 (.tmp 6) (.tmp 97))) rfl (a_storeAll (vs := [vb2, vp2, .int .i64 (valueB nl us2)]) (n := 3) rfl rfl (by kernel_rfl) rfl rfl (by intro u hu; simp only [List.mem_cons, List.not_mem_nil, or_false] at hu; rcases hu with rfl | rfl | rfl <;> first | rfl | exact (hb2.one rfl).2 | exact (hp2.one rfl).2) bs rfl) ?_
   rintro _ w22 ⟨rfl, s_20, bs⟩
   replace hd := hd.st s_20 (by first | decide | (simp <;> omega)) (by first | decide | (simp <;> omega))
   refine yA 4 98 ?_
   refine yA 5 99 ?_
   refine Sch.nil (run_inBlock (run_pl [yy 0, yy 1, yy 2] ?_))
   refine yM 42 8 ?_
   refine yI 43 3 42 1 ?_
   refine yA 8 43 ?_
   refine Sch.nil ?_
   replace hT := (((((((((((hT.t s_9).t s_10).t s_11).t s_12).t s_13).t s_14).t s_15).t s_16).t s_17).t s_18).t s_19).t s_20; replace hn := ((hn.t s_18).t s_19).t s_20; replace hz2 := ((hz2.t s_18).t s_19).t s_20; replace hF := (hF.st s_19).st s_20; replace hb2 := hb2.t s_20; replace hp2 := hp2.t s_20
   refine kp (sub_cons 3 rfl rfl (sub_cons 4 rfl rfl (sub_cons 5 rfl rfl (sub_cons 6 rfl rfl (sub_cons 8 rfl (eq_int (by simp)) (sub_nil _)))))) (next1 (k + 1, nl, vn, dl2, vz2, us2, vb2, vp2, Cw18) _ ⟨(by first | omega | (simp only; omega)), (hGn.mono (by first | omega | (simp only; omega))), hdl2, hSu2, hF, hT, hd, hn, hz2, hb2, hp2, bs⟩ (by first | omega | (simp only; omega)))
  obtain ⟨dl2, hde⟩ : ∃ d, d = al := ⟨_, rfl⟩
  have hdl2 := hdl
  rw [← hde] at hdl2
  replace ha := (ha.t s_9).t s_10
  have hz2 := ha
  rw [← hde] at hz2
  refine run_sk (run_sq (run_pl [nn 0, yy 1, yy 2, yy 3, nn 4, yy 5, yy 6, yy 7, yy 8, nn 9, nn 10, yy 11, yy 12] ?_))
  replace bs := (bs.t s_9).t s_10
  refine nS (kq 53 (.load 26 (.tmp 6))) rfl rfl trivial (val_loadOwnAgg (n := 3) (vs := [xb, xp, .int .i64 (valueB cl zl)]) bs.at_ (by kernel_rfl) (by kernel_rfl) rfl rfl rfl) ?_
  refine yM 54 5 ?_
  refine yM 55 9 ?_
  refine yM 56 10 ?_
  replace hb1 := (hb1.t s_9).t s_10; replace hp1 := (hp1.t s_9).t s_10; replace hF := hF.st s_10; replace hn := hn.t s_10
  refine cG 57 22 [53, 54, 55, 56] [26, 27, 23, 27] Tryz.call22 rfl (again_ok (old := cl) (nw := nl) (d1 := al) (d2 := dl2) (tt := valueB cl zl) hF hb1 hp1 ha hn hz2 hvo hvn  hS (by omega) (by omega) hdl.len hdl.ok hdl.asc hdl2.len hdl2.ok hdl2.asc) ?_
  rintro _ w23 ⟨s_21, us2, vb2, vp2, hSu2, rfl, hb2, hp2⟩
  replace hd := hd.st s_21 (by first | decide | (simp <;> omega)) (by first | decide | (simp <;> omega))
  refine yM 52 57 ?_
  refine yE 58 52 0 ?_
  refine yE 59 52 1 ?_
  refine yE 60 52 2 ?_
  replace hF := hF.st s_21
  refine aT (kq 11 (.alloc 26)) rfl rfl (a_alloc (cs := [.slice none 0 0, .slice none 0 0, .int .i64 0]) hF 5 (by kernel_rfl)) ?_
  rintro _ w24 ⟨Cw24, bw24, rfl, s_22, b2, hF⟩
  replace hd := hd.st s_22 (by first | decide | (simp <;> omega)) (by first | decide | (simp <;> omega))
  replace hb2 := hb2.t s_22; replace hp2 := hp2.t s_22
  refine aU (k0 (.store 26 (.tmp 11) (.tmp 58))) rfl (a_storeAll (vs := [vb2, vp2, .int .i64 (valueB nl us2)]) (n := 3) rfl rfl (by kernel_rfl) rfl rfl (by intro u hu; simp only [List.mem_cons, List.not_mem_nil, or_false] at hu; rcases hu with rfl | rfl | rfl <;> first | rfl | exact (hb2.one rfl).2 | exact (hp2.one rfl).2) b2 rfl) ?_
  rintro _ w25 ⟨rfl, s_23, b2⟩
  replace hd := hd.st s_23 (by first | decide | (simp <;> omega)) (by first | decide | (simp <;> omega))
  refine yA 12 59 ?_
  refine yA 13 60 ?_
  refine Sch.nil (run_sq (run_pl [yy 0, yy 1, nn 2, yy 3, yy 4, yy 5, nn 6, nn 7, yy 8] ?_))
  refine yM 62 9 ?_
  refine yM 63 10 ?_
  replace hn := ((hn.t s_21).t s_22).t s_23; replace hz2 := ((hz2.t s_21).t s_22).t s_23; replace hF := hF.st s_23
  refine cG 64 17 [62, 63] [23, 27] Tryz.call17 rfl (resOf_ok (ds := dl2) hF hn hz2 hvn (by omega) hdl2.len hdl2.ok hdl2.asc) ?_
  rintro _ w26 ⟨s_24, zs3, vb3, vp3, hSt3, rfl, hb3, hp3⟩
  have e23 : us2 = zs3 := hSu2.uniq cmpH_3 (fun _ _ => trivial) hSt3
  subst e23
  replace hd := hd.st s_24 (by first | decide | (simp <;> omega)) (by first | decide | (simp <;> omega))
  refine yM 61 64 ?_
  refine yE 65 61 0 ?_
  refine yE 66 61 1 ?_
  replace hF := hF.st s_24
  refine aT (kq 14 (.alloc 26)) rfl rfl (a_alloc (cs := [.slice none 0 0, .slice none 0 0, .int .i64 0]) hF 6 (by kernel_rfl)) ?_
  rintro _ w27 ⟨Cw27, bw27, rfl, s_25, b3, hF⟩
  replace hd := hd.st s_25 (by first | decide | (simp <;> omega)) (by first | decide | (simp <;> omega))
  replace hb3 := hb3.t s_25; replace hp3 := hp3.t s_25
  refine aU (k0 (.store 26 (.tmp 14) (.tmp 65))) rfl (a_storeAll (vs := [vb3, vp3, .int .i64 (valueB nl us2)]) (n := 3) rfl rfl (by kernel_rfl) rfl rfl (by intro u hu; simp only [List.mem_cons, List.not_mem_nil, or_false] at hu; rcases hu with rfl | rfl | rfl <;> first | rfl | exact (hb3.one rfl).2 | exact (hp3.one rfl).2) b3 rfl) ?_
  rintro _ w28 ⟨rfl, s_26, b3⟩
  replace hd := hd.st s_26 (by first | decide | (simp <;> omega)) (by first | decide | (simp <;> omega))
  refine yA 15 66 ?_
  refine Sch.nil (run_sq (run_pl [nn 0, yy 1, yy 2, yy 3, nn 4, yy 5, yy 6, yy 7, yy 8, yy 9] ?_))
  replace bs := (((((bs.t s_21).t s_22).t s_23).t s_24).t s_25).t s_26
  refine nS (kq 68 (.load 26 (.tmp 6))) rfl rfl trivial (val_loadOwnAgg (n := 3) (vs := [xb, xp, .int .i64 (valueB cl zl)]) bs.at_ (by kernel_rfl) (by kernel_rfl) rfl rfl rfl) ?_
  refine yM 69 5 ?_
  refine yM 70 9 ?_
  refine yM 71 10 ?_
  replace ha := (((((ha.t s_21).t s_22).t s_23).t s_24).t s_25).t s_26; replace hb1 := (((((hb1.t s_21).t s_22).t s_23).t s_24).t s_25).t s_26; replace hp1 := (((((hp1.t s_21).t s_22).t s_23).t s_24).t s_25).t s_26; replace hn := ((hn.t s_24).t s_25).t s_26; replace hz2 := ((hz2.t s_24).t s_25).t s_26; replace hF := hF.st s_26
  refine cG 72 20 [68, 69, 70, 71] [26, 27, 23, 27] Tryz.call20 rfl (touched_ok (old := cl) (nw := nl) (d1 := al) (d2 := dl2) (tt := valueB cl zl) hF hb1 hp1 ha hn hz2 hvo hvn  hPo hdl.len hdl.ok hdl.asc hdl2.len hdl2.ok hdl2.asc) ?_
  rintro _ w29 ⟨s_27, vt, rfl, ht⟩
  replace hd := hd.st s_27 (by first | decide | (simp <;> omega)) (by first | decide | (simp <;> omega))
  refine yM 67 72 ?_
  refine yE 73 67 0 ?_
  refine yE 74 67 1 ?_
  refine yA 16 73 ?_
  refine yA 17 74 ?_
  refine Sch.nil (run_sq (run_sq (run_pl [yy 0, yy 1, yy 2, yy 3, yy 4, yy 5, yy 6, yy 7, yy 8, yy 9, yy 10, nn 11, nn 12, nn 13, yy 14, yy 15, yy 16, yy 17, yy 18, yy 19, yy 20, yy 21] ?_)))
  refine yM 75 13 ?_
  refine yV (kq 76 (.binOp .neq 34 (.tmp 75) (.const (.int .i64 0)) 34)) (fun _ => val_F (val_neq rfl rfl) (by decide)) ?_
  refine yM 77 76 ?_
  refine yMg 78 15 2 false ?_
  refine yV (kg 79 (.binOp .neq 34 (.tmp 78) (.const (.int .i64 0)) 34) 2 false) (fun _ => val_F (val_neq rfl rfl) (by decide)) ?_
  refine yOf 80 77 79 ?_
  refine yM 81 80 ?_
  refine yMg 82 17 6 false ?_
  refine yV (kg 83 (.binOp .neq 34 (.tmp 82) (.const (.int .i64 0)) 34) 6 false) (fun _ => val_F (val_neq rfl rfl) (by decide)) ?_
  refine yOf 84 81 83 ?_
  refine yM 85 84 ?_
  replace b2 := (((b2.t s_24).t s_25).t s_26).t s_27
  refine nS (kg 86 (.load 26 (.tmp 11)) 10 false) rfl rfl trivial (val_loadOwnAgg (n := 3) (vs := [vb2, vp2, .int .i64 (valueB nl us2)]) b2.at_ (by kernel_rfl) (by kernel_rfl) rfl rfl rfl) ?_
  replace b3 := b3.t s_27
  refine nS (kg 87 (.load 26 (.tmp 14)) 10 false) rfl rfl trivial (val_loadOwnAgg (n := 3) (vs := [vb3, vp3, .int .i64 (valueB nl us2)]) b3.at_ (by kernel_rfl) (by kernel_rfl) rfl rfl rfl) ?_
  replace hb2 := ((((hb2.t s_23).t s_24).t s_25).t s_26).t s_27; replace hp2 := ((((hp2.t s_23).t s_24).t s_25).t s_26).t s_27; replace hb3 := (hb3.t s_26).t s_27; replace hp3 := (hp3.t s_26).t s_27; replace hF := hF.st s_27
  refine cT (kg 88 (.call { callee := .value (.func 18), args := #[(.tmp 86), (.tmp 87)], argTypes := #[26, 26] }) 10 false) rfl rfl (ent Tryz.call18 rfl) (sameSol_ok hF hb2 hp2 hb3 hp3) ?_
  rintro vw30 w30 ⟨rfl, s_28⟩
  replace hd := hd.st s_28 (by first | decide | (simp <;> omega)) (by first | decide | (simp <;> omega))
  refine yV (kg 89 (.unOp .not 4 (.tmp 88)) 10 false) (fun _ => val_not rfl) ?_
  refine yOf 90 85 89 ?_
  refine yM 91 90 ?_
  refine yMg 92 12 16 false ?_
  refine yMg 93 16 16 false ?_
  replace ht := ht.t s_28
  refine yS (kg 94 (.call { callee := .builtin .len, args := #[(.tmp 93)], argTypes := #[24] }) 16 false) rfl rfl (fun w' hS => ht.lenV rfl Tryz.underlying24 w' ) ?_
  refine yV (kg 95 (.binOp .neq 3 (.tmp 92) (.tmp 94) 3) 16 false) (fun _ => val_F (val_neq rfl rfl) (fun e => e rfl)) ?_
  refine yOf 96 91 95 ?_
  refine Sch.nil (run_cF 96 (run_sk (run_pl [nn 0, yy 1, yy 2, nn 3, yy 4, yy 5] ?_)))
  replace b2 := b2.t s_28
  refine nS (kq 97 (.load 26 (.tmp 11))) rfl rfl trivial (val_loadOwnAgg (n := 3) (vs := [vb2, vp2, .int .i64 (valueB nl us2)]) b2.at_ (by kernel_rfl) (by kernel_rfl) rfl rfl rfl) ?_
  refine yM 98 9 ?_
  refine yM 99 10 ?_
  replace bs := (bs.t s_27).t s_28; replace hb2 := hb2.t s_28; replace hp2 := hp2.t s_28
  refine aU (k0 (.store 26 (.tmp 6) (.tmp 97))) rfl (a_storeAll (vs := [vb2, vp2, .int .i64 (valueB nl us2)]) (n := 3) rfl rfl (by kernel_rfl) rfl rfl (by intro u hu; simp only [List.mem_cons, List.not_mem_nil, or_false] at hu; rcases hu with rfl | rfl | rfl <;> first | rfl | exact (hb2.one rfl).2 | exact (hp2.one rfl).2) bs rfl) ?_
  rintro _ w31 ⟨rfl, s_29, bs⟩
  replace hd := hd.st s_29 (by first | decide | (simp <;> omega)) (by first | decide | (simp <;> omega))
  refine yA 4 98 ?_
  refine yA 5 99 ?_
  refine Sch.nil (run_inBlock (run_pl [yy 0, yy 1, yy 2] ?_))
  refine yM 42 8 ?_
  refine yI 43 3 42 1 ?_
  refine yA 8 43 ?_
  refine Sch.nil ?_
  replace hT := ((((((((((hT.t s_9).t s_10).t s_21).t s_22).t s_23).t s_24).t s_25).t s_26).t s_27).t s_28).t s_29; replace hn := ((hn.t s_27).t s_28).t s_29; replace hz2 := ((hz2.t s_27).t s_28).t s_29; replace hF := (hF.st s_28).st s_29; replace hb2 := hb2.t s_29; replace hp2 := hp2.t s_29
  refine kp (sub_cons 3 rfl rfl (sub_cons 4 rfl rfl (sub_cons 5 rfl rfl (sub_cons 6 rfl rfl (sub_cons 8 rfl (eq_int (by simp)) (sub_nil _)))))) (next1 (k + 1, nl, vn, dl2, va, us2, vb2, vp2, Cw27) _ ⟨(by first | omega | (simp only; omega)), (hGn.mono (by first | omega | (simp only; omega))), hdl2, hSu2, hF, hT, hd, hn, hz2, hb2, hp2, bs⟩ (by first | omega | (simp only; omega)))
 refine run_ex 0 ?_
 refine run_sq (run_pl [yy 0] ?_)
 refine yAc 2 (.bool true) ?_
 refine Sch.nil ?_
 refine rt1 Tryz.func4 Tryz.results4 ?_
 exact ⟨rfl, hT.out1 (by decide)⟩
namespace F4B
end F4B
end Go.Proofs.YtmdhggfehknjjaaGreat
