/- Steps through functions of the program. -/
import Derived.Test.YtdmgmlmlielfbaaGreatJG5
import Derived.Test.YtdmgmlmlielfbaaGreatJU3
import Derived.Test.YtdmgmlmlielfbaaGreatL3
set_option linter.unusedVariables false
set_option linter.unusedSimpArgs false
set_option maxRecDepth 100000
set_option maxHeartbeats 4000000
namespace Go.Proofs.YtdmgmlmlielfbaaGreat
open Go.K Go.K.Rep
noncomputable section
namespace F10
def c0 := bodyOf Tryz.f10
end F10
theorem clusterPairs_ok {w₀ : World} {C : Nat → Nat} {l : List Int} {vl : Value} (hF : Lim w₀ C) (hl : RV w₀ (Mc C) l vl) : Calls Tryz.prog 10 #[vl] w₀ (Ret fun v w' => v = .bool true ∧ Stp [] w₀ C w' C) := by
 have hF0 := hF
 have hT := Stp.refl [2, 3, 4, 5, 6, 7, 8, 9] w₀ (col1 C)
 replace hF := hF.col1
 replace hl := hl.c1
 refine c_st F10.c0 97 [vl] Tryz.func10 ?_
 show Run _ _ _ _ [(0, vl)] _ _
 refine run_sq (run_pl [yy 0] ?_)
 refine yAc 2 (.bool false) ?_
 refine Sch.nil (run_sq (run_sq (run_pl [nn 0, yy 1, yy 2, yy 3, nn 4, yy 5, yy 6] ?_)))
 refine cG 16 11 [] [] Tryz.call11 rfl (awake_ok hF) ?_
 rintro vw1 w1 ⟨rfl, s_1⟩
 refine yV (kq 17 (.unOp .not 4 (.tmp 16))) (fun _ => val_not rfl) ?_
 refine yM 18 17 ?_
 refine yMg 19 0 2 false ?_
 replace hl := hl.t s_1
 refine cT (kg 20 (.call { callee := .value (.func 12), args := #[(.tmp 19)], argTypes := #[22] }) 2 false) rfl rfl (ent Tryz.call12 rfl) (few_any hl) ?_
 rintro vw2 w2 ⟨rfl, rfl⟩
 refine yV (kg 21 (.unOp .not 4 (.tmp 20)) 2 false) (fun _ => val_notd rfl) ?_
 refine yOf 22 18 21 ?_
 refine Sch.nil ?_
 refine run_i 22 rfl (fun h22 => ?_) (fun h22 => ?_)
 ·
  refine run_sq (run_pl [nn 0, yy 1] ?_)
  replace hF := hF.st s_1
  refine cG 23 11 [] [] Tryz.call11 rfl (awake_ok hF) ?_
  rintro vw3 w3 ⟨rfl, s_2⟩
  refine yA 2 23 ?_
  refine Sch.nil ?_
  refine rt1 Tryz.func10 Tryz.results10 ?_
  replace hT := (hT.t s_1).t s_2
  exact ⟨rfl, hT.out1 (by decide)⟩
 refine run_sk (run_sq (run_pl [yy 0, nn 1, yy 2] ?_))
 refine yM 24 0 ?_
 replace hF := hF.st s_1
 refine cG 25 13 [24] [22] Tryz.call13 rfl (new_any hF hl) ?_
 rintro vw4 w4 ⟨Cd, bd, rfl, s_3, hF, hd⟩
 refine yA 3 25 ?_
 refine Sch.nil (run_sq (run_pl [yy 0, yy 1, nn 2, yy 3, nn 4, yy 5] ?_))
 refine yM 26 3 ?_
 refine yM 27 3 ?_
 refine cT (kq 28 (.call { callee := .value (.func 15), args := #[(.tmp 27), (.const (.int .i64 3))], argTypes := #[28, 3] })) rfl rfl (ent Tryz.call15 rfl) (next_any (n := 3) hF (by decide) hd (by omega) (by omega)) ?_
 rintro vw5 w5 ⟨q, rfl, hq, s_4, hd⟩
 refine yV (kq 29 (.binOp .add 3 (.const (.int .i64 2)) (.tmp 28) 3)) (fun _ => val_addi rfl rfl (by omega) (by omega)) ?_
 replace hF := hF.st s_4
 refine cT (kq 30 (.call { callee := .value (.func 14), args := #[(.tmp 26), (.const (.int .i64 2)), (.const (.int .i64 4)), (.tmp 29)], argTypes := #[28, 3, 3, 3] })) rfl rfl (ent Tryz.call14 rfl) (bonds_any (R := 2) (I := 4) (one := 2 + (q : Int)) hF (by decide) hd (by decide) (by decide) (by omega) (by omega)) ?_
 rintro vb w6 ⟨bl, hbl, ⟨s_5, hb, hd⟩, _⟩
 have hv := hbl.vld (by decide) (by decide)
 have hrl := hbl.few
 have hbL := hv.1
 have hO := two_ok hbl
 clear hd
 refine yA 4 30 ?_
 refine Sch.nil (run_sq (run_pl [yy 0, nn 1, yy 2, yy 3, yy 4, yy 5, yy 6, yy 7, yy 8] ?_))
 refine yM 32 4 ?_
 replace hF := hF.st s_5
 refine cT (kq 33 (.call { callee := .value (.func 23), args := #[(.tmp 32), (.const (.slice none 0 0))], argTypes := #[23, 24] })) rfl rfl (ent Tryz.call23 rfl) (solveY_ok (ds := []) hF hb rv_nil hv (by omega) (by decide) (fun i h => by cases h) (fun i h => by cases h)) ?_
 rintro _ w7 ⟨s_6, zs1, vp1, hSt1, rfl, hp1⟩
 obtain ⟨hP1, hmax1⟩ := exact_max hv (by omega) hSt1
 obtain ⟨hck, hsT⟩ := pairs_law hv hO hP1 hmax1
 refine yM 31 33 ?_
 refine yE 34 31 0 ?_
 refine yE 35 31 1 ?_
 refine yE 36 31 2 ?_
 refine yA 5 34 ?_
 refine yA 6 35 ?_
 refine yA 7 36 ?_
 refine Sch.nil (run_sq (run_pl [yy 0] ?_))
 refine yV (kq 8 (.assign (.const (.slice none 0 0)))) (fun _ => val_assign rfl) ?_
 refine Sch.nil (run_sq (run_sq (run_pl [yy 0, yy 1, yy 2] ?_)))
 refine yM 37 4 ?_
 replace hb := hb.t s_6
 refine yS (kq 38 (.call { callee := .builtin .len, args := #[(.tmp 37)], argTypes := #[23] })) rfl rfl (fun w' hS => hb.lenV rfl Tryz.underlying23 w' ) ?_
 refine yC 39 (.int .i64 0) ?_
 refine Sch.nil (run_bk 0 ?_)
 refine run_lp (ι := Nat × Value × (Nat → Nat)) (I := fun x w => x.1 ≤ bl.length ∧ Lim w x.2.2 ∧ Stp [2, 3, 4, 5, 6, 7, 8, 9] w₀ (col1 C) w x.2.2 ∧ RV w (Mc x.2.2) bl vb ∧ RV w (Mc x.2.2) zs1 vp1 ∧ OwnL w x.2.2 5 62 x.2.1 ((bl.take x.1).map edB)) (e := fun x => [(5, vp1), (6, .int .i64 (valueB bl zs1)), (7, .int .i64 0), (8, x.2.1), (37, vb), (38, .int .i64 bl.length), (39, .int .i64 x.1)]) (m := fun x => bl.length - x.1) (x₀ := (0, .slice none 0 0, Cd)) (sr 5 (sr 6 (sr 7 (sr 8 (sr 37 (sr 38 (sr 39 (sub_nil _)))))))) ?_ ?_
 ·
   replace hT := ((((hT.t s_1).t s_3).t s_4).t s_5).t s_6; replace hF := hF.st s_6
   exact ⟨Nat.zero_le _, hF, hT, hb, hp1, OwnL.nil⟩
 intro ⟨k, vo, C1⟩ w8 hI next1
 obtain ⟨hk, hF, hT, hb, hp1, ho⟩ := hI
 try simp only at hk hF hT hb hp1 ho
 show Run _ _ _ _ [(5, vp1), (6, .int .i64 (valueB bl zs1)), (7, .int .i64 0), (8, vo), (37, vb), (38, .int .i64 bl.length), (39, .int .i64 k)] _ _
 have hle := hb.le
 have hel : ((bl.take k).map edB).length ≤ bl.length := by rw [List.length_map, List.length_take]; omega
 refine run_sq (run_pl [yy 0] ?_)
 refine yL 40 3 39 38 ?_
 refine Sch.nil (run_sq ?_)
 refine run_i 40 rfl (fun h40 => ?_) (fun h40 => ?_)
 ·
  have hkl : k < bl.length := by omega
  refine run_sk (run_sq (run_bk 1 (run_sq (run_pl [yy 0, nn 1, nn 2, nn 3] ?_))))
  refine iR 49 41 23 37 39 hb rfl (h := ?_)
  intro b41 o41 h41
  try simp only [Int.toNat_natCast] at h41
  refine lNA (kq 42 (.load 49 (.tmp 41))) rfl rfl trivial h41 (by kernel_rfl) (by kernel_rfl) rfl rfl ?_
  intro v42 g42
  obtain rfl := rv_bond.1 g42
  refine aT (kq 10 (.alloc 49)) rfl rfl (a_alloc (cs := [.int .i64 0, .int .i64 0, .int .i64 0, .int .i64 0, .int .i64 0]) hF 6 (by kernel_rfl)) ?_
  rintro _ w9 ⟨Cw9, bw9, rfl, s_7, bx, hF⟩
  refine aU (k0 (.store 49 (.tmp 10) (.tmp 42))) rfl (a_storeAll (vs := encB (bl[k]'hkl)) (n := 5) rfl rfl (by kernel_rfl) rfl rfl (by intro u hu; simp only [encB, List.mem_cons, List.not_mem_nil, or_false] at hu; rcases hu with rfl | rfl | rfl | rfl | rfl <;> rfl) bx rfl) ?_
  rintro _ w10 ⟨rfl, s_8, bx⟩
  refine Sch.nil (run_pl [yy 0, yy 1, yy 2, nn 3, yy 4, yy 5, nn 6, yy 7, nn 8, yy 9, nn 10, nn 11, yy 12] ?_)
  refine yM 43 8 ?_
  refine yF 44 49 10 0 0 ?_
  refine yF 45 47 44 1 1 ?_
  refine nO 46 3 45 bx.at_ rfl rfl ?_
  refine yF 47 49 10 1 2 ?_
  refine yF 48 47 47 1 1 ?_
  refine nO 49 3 48 bx.at_ rfl rfl ?_
  refine yF 50 49 10 2 4 ?_
  refine nO 51 3 50 bx.at_ rfl rfl ?_
  refine yV (kq 52 (.build 62 #[(0, (.tmp 46)), (1, (.tmp 49)), (2, (.tmp 51))])) (fun _ => val_build (zs := [.int .i64 0, .int .i64 0, .int .i64 0]) (ps := [(0, 1), (1, 1), (2, 1)]) (qs := [(0, [.int .i64 (bl[k]'hkl).A.b]), (1, [.int .i64 (bl[k]'hkl).B.b]), (2, [.int .i64 (bl[k]'hkl).w])]) (cs := encE (edB (bl[k]'hkl))) (by kernel_rfl) (by kernel_rfl) (by exact ⟨rfl, ⟨_, rfl, rfl⟩, rfl, ⟨_, rfl, rfl⟩, rfl, ⟨_, rfl, rfl⟩, trivial⟩) rfl) ?_
  replace hF := hF.st s_8
  refine aT (kq 53 (.buildSlice 60 1 #[(0, (.tmp 52))])) rfl rfl (a_buildSlice (ys := ([edB (bl[k]'hkl)] : List K.Edge)) (e := 62) (bytes := 24) hF (by kernel_rfl) rfl (by decide) (by decide) ⟨rfl, ⟨_, rfl, rv_edge.2 rfl⟩, trivial⟩) ?_
  rintro v53 w11 ⟨s_9, g53, hF⟩
  replace ho := ((ho.t s_7).t s_8).t s_9
  refine aT (kq 54 (.call { callee := .builtin .append, args := #[(.tmp 43), (.tmp 53)], argTypes := #[60, 60] })) rfl rfl (a_append (e := 62) (bytes := 24) hF (by decide) rfl rfl (by kernel_rfl) (by decide) ho g53 (by simp only [List.length_cons, List.length_nil]; omega) (by simp only [List.length_cons, List.length_nil]; omega)) ?_
  rintro v54 w12 ⟨Cw12, s_10, ho, hF⟩
  refine yA 8 54 ?_
  refine Sch.nil (run_inBlock (run_pl [yy 0, yy 1] ?_))
  refine yI 55 3 39 1 ?_
  refine yM 39 55 ?_
  refine Sch.nil ?_
  replace hT := (((hT.t s_7).t s_8).t s_9).t s_10; replace hb := (((hb.t s_7).t s_8).t s_9).t s_10; replace hp1 := (((hp1.t s_7).t s_8).t s_9).t s_10
  refine kp (sr 5 (sr 6 (sr 7 (sr 8 (sr 37 (sr 38 (sub_cons 39 rfl (eq_int (by simp)) (sub_nil _)))))))) (next1 (k + 1, v54, Cw12) _ ⟨(by first | omega | (simp only; omega)), hF, hT, hb, hp1, (by simp only; rw [List.take_succ_eq_append_getElem hkl, List.map_append]; exact ho)⟩ (by first | omega | (simp only; omega)))
 have hkl : k = bl.length := by omega
 rw [hkl, List.take_length] at ho hel
 replace hF := hF.frz 5
 replace hT := hT.frz (n := 5) (fun b => Nat.lt_of_lt_of_le (col1_lt2 C b) (by decide))
 replace hb := hb.frz 5
 replace hp1 := hp1.frz 5
 have he_ := ho.frz (n := 5) (by decide) (by omega)
 clear ho
 have he := he_
 clear he_
 refine run_ex 0 ?_
 refine run_sq (run_pl [yy 0, nn 1, yy 2, yy 3, yy 4, yy 5, yy 6, yy 7, yy 8] ?_)
 refine yM 57 8 ?_
 refine cT (kq 58 (.call { callee := .value (.func 36), args := #[(.const (.int .i64 5)), (.const (.int .i64 5)), (.tmp 57)], argTypes := #[3, 3, 60] })) rfl rfl (ent Tryz.call36 rfl) (solve_okA (n := 5) (m := 5) (l := bl.map edB) hF he) ?_
 rintro _ w13 ⟨u, rfl, s_11, _⟩
 rw [hck, hsT]
 refine yM 56 58 ?_
 refine yE 59 56 0 ?_
 refine yE 60 56 1 ?_
 refine yE 61 56 2 ?_
 refine yA 11 59 ?_
 refine yA 12 60 ?_
 refine yA 13 61 ?_
 refine Sch.nil (run_sq (run_sq (run_pl [yy 0, yy 1, yy 2, yy 3, yy 4, yy 5, yy 6, yy 7, yy 8, yy 9, yy 10] ?_)))
 refine yM 62 7 ?_
 refine yV (kq 63 (.binOp .neq 36 (.tmp 62) (.const (.int .i64 0)) 36)) (fun _ => val_F (val_neq rfl rfl) (by decide)) ?_
 refine yM 64 63 ?_
 refine yMg 65 13 2 false ?_
 refine yV (kg 66 (.binOp .neq 36 (.tmp 65) (.const (.int .i64 0)) 36) 2 false) (fun _ => val_F (val_neq rfl rfl) (by decide)) ?_
 refine yOf 67 64 66 ?_
 refine yM 68 67 ?_
 refine yMg 69 6 6 false ?_
 refine yMg 70 12 6 false ?_
 refine yV (kg 71 (.binOp .neq 3 (.tmp 69) (.tmp 70) 3) 6 false) (fun _ => val_F (val_neq rfl rfl) (fun e => e rfl)) ?_
 refine yOf 72 68 71 ?_
 refine Sch.nil (run_cF 72 (run_sk (run_sq (run_sq (run_pl [yy 0, yy 1, yy 2] ?_)))))
 refine yM 73 5 ?_
 replace hp1 := hp1.t s_11
 refine yS (kq 74 (.call { callee := .builtin .len, args := #[(.tmp 73)], argTypes := #[25] })) rfl rfl (fun w' hS => hp1.lenV rfl Tryz.underlying25 w' ) ?_
 refine yC 75 (.int .i64 0) ?_
 refine Sch.nil (run_bk 2 ?_)
 refine run_lp (ι := Nat × (Nat → Nat)) (I := fun x w => x.1 ≤ zs1.length ∧ Lim w x.2 ∧ Stp [2, 3, 4, 5, 6, 7, 8, 9] w₀ (col1 C) w x.2 ∧ RV w (Mc x.2) zs1 vp1) (e := fun x => [(73, vp1), (74, .int .i64 zs1.length), (75, .int .i64 x.1)]) (m := fun x => zs1.length - x.1) (x₀ := (0, K.frz 5 C1)) (sr 73 (sr 74 (sr 75 (sub_nil _)))) ?_ ?_
 ·
   replace hF := hF.st s_11; replace hT := hT.t s_11
   exact ⟨Nat.zero_le _, hF, hT, hp1⟩
 intro ⟨j, C1⟩ w14 hI next2
 obtain ⟨hj, hF, hT, hp1⟩ := hI
 try simp only at hj hF hT hp1
 show Run _ _ _ _ [(73, vp1), (74, .int .i64 zs1.length), (75, .int .i64 j)] _ _
 have hle2 := hp1.le
 refine run_sq (run_pl [yy 0] ?_)
 refine yL 76 3 75 74 ?_
 refine Sch.nil (run_sq ?_)
 refine run_i 76 rfl (fun h76 => ?_) (fun h76 => ?_)
 ·
  have hjl : j < zs1.length := by omega
  obtain ⟨y, hyb, hys⟩ := two_shape hv hO hP1 (List.getElem_mem hjl)
  have hyo := hO y hyb
  have hya : y.A.a = 0 := hyo.1
  have hyc : y.B.a = 1 := hyo.2.1
  have hy2 : [y.A, y.B].length = 2 := rfl
  refine run_sk (run_sq (run_bk 3 (run_sq (run_pl [yy 0, nn 1, yy 2] ?_))))
  refine iR 53 77 25 73 75 hp1 rfl (h := ?_)
  intro b77 o77 h77
  try simp only [Int.toNat_natCast] at h77
  refine lN (kq 78 (.load 53 (.tmp 77))) rfl rfl trivial h77 (by kernel_rfl) rfl rfl ?_
  intro v78 g78
  rw [hys] at g78
  refine yA 15 78 ?_
  refine Sch.nil (run_sq (run_pl [yy 0, yy 1, yy 2, yy 3, yy 4, yy 5, yy 6, nn 7, yy 8, yy 9, yy 10, yy 11, yy 12, yy 13, nn 14, yy 15, yy 16] ?_))
  refine yM 79 15 ?_
  refine yS (kq 80 (.call { callee := .builtin .len, args := #[(.tmp 79)], argTypes := #[53] })) rfl rfl (fun w' hS => g78.lenV rfl Tryz.underlying53 w' ) ?_
  refine yV (kq 81 (.binOp .neq 3 (.tmp 80) (.const (.int .i64 2)) 3)) (fun _ => val_F (val_neq rfl rfl) (fun e => e rfl)) ?_
  refine yM 82 81 ?_
  refine yMg 83 15 3 false ?_
  refine iS (e := 47) (kg 84 (.indexAddr 53 (.tmp 83) (.const (.int .i64 0))) 3 false) rfl rfl g78 rfl (by kernel_rfl) rfl (by omega) (by omega) ?_
  intro b84 o84 h84
  try simp only [Int.toNat_natCast] at h84
  have h85 := RA.ca h84
  refine yFg 85 47 84 0 0 3 false ?_
  refine lN (kg 86 (.load 3 (.tmp 85)) 3 false) rfl rfl trivial h85 (by kernel_rfl) rfl rfl ?_
  intro v86 g86
  first | (obtain rfl := rv_nat.1 g86) | (obtain rfl := rv_int.1 g86)
  refine yV (kg 87 (.binOp .neq 3 (.tmp 86) (.const (.int .i64 0)) 3) 3 false) (fun _ => val_F (val_neq rfl rfl) (fun e => e hya)) ?_
  refine yOf 88 82 87 ?_
  refine yM 89 88 ?_
  refine yMg 90 15 10 false ?_
  refine iS (e := 47) (kg 91 (.indexAddr 53 (.tmp 90) (.const (.int .i64 1))) 10 false) rfl rfl g78 rfl (by kernel_rfl) rfl (by omega) (by omega) ?_
  intro b91 o91 h91
  try simp only [Int.toNat_natCast] at h91
  have h92 := RA.ca h91
  refine yFg 92 47 91 0 0 10 false ?_
  refine lN (kg 93 (.load 3 (.tmp 92)) 10 false) rfl rfl trivial h92 (by kernel_rfl) rfl rfl ?_
  intro v93 g93
  first | (obtain rfl := rv_nat.1 g93) | (obtain rfl := rv_int.1 g93)
  refine yV (kg 94 (.binOp .neq 3 (.tmp 93) (.const (.int .i64 1)) 3) 10 false) (fun _ => val_F (val_neq rfl rfl) (fun e => e hyc)) ?_
  refine yOf 95 89 94 ?_
  refine Sch.nil (run_cF 95 (run_sk (run_inBlock (run_pl [yy 0, yy 1] ?_))))
  refine yI 96 3 75 1 ?_
  refine yM 75 96 ?_
  refine Sch.nil ?_
  refine kp (sr 73 (sr 74 (sub_cons 75 rfl (eq_int (by simp)) (sub_nil _)))) (next2 (j + 1, C1) _ ⟨(by first | omega | (simp only; omega)), hF, hT, hp1⟩ (by first | omega | (simp only; omega)))
 have hjl : j = zs1.length := by omega
 refine run_ex 2 ?_
 refine run_sq (run_pl [yy 0] ?_)
 refine yAc 2 (.bool true) ?_
 refine Sch.nil ?_
 refine rt1 Tryz.func10 Tryz.results10 ?_
 exact ⟨rfl, hT.out1 (by decide)⟩
namespace F10B
end F10B
end
end Go.Proofs.YtdmgmlmlielfbaaGreat
