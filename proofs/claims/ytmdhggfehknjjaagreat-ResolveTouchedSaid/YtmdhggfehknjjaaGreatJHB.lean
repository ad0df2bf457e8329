/- Steps through functions of the program. -/
import Derived.Test.YtmdhggfehknjjaaGreatJH6
import Derived.Test.YtmdhggfehknjjaaGreatJH9
import Derived.Test.YtmdhggfehknjjaaGreatJHA
import Derived.Test.YtmdhggfehknjjaaGreatL2
set_option linter.unusedVariables false
set_option linter.unusedSimpArgs false
set_option maxRecDepth 100000
set_option maxHeartbeats 4000000
namespace Go.Proofs.YtmdhggfehknjjaaGreat
open Go.K Go.K.Rep
noncomputable section
namespace F9
def c0 := bodyOf Tryz.f9
def o3 := rops (cl (cr (cr (cr c0))))
end F9
theorem awake_ok {w₀ : World} {C : Nat → Nat} (hF : Lim w₀ C) : Calls Tryz.prog 9 #[] w₀ (Ret fun v w' => v = .bool true ∧ Stp [] w₀ C w' C) := by
 have hF0 := hF
 have hT := Stp.refl [2, 3, 4, 5, 6, 7, 8, 9] w₀ (col1 C)
 replace hF := hF.col1
 refine c_st F9.c0 76 [] Tryz.func9 ?_
 show Run _ _ _ _ [] _ _
 refine run_sq (run_pl [yy 0] ?_)
 refine yAc 0 (.bool false) ?_
 refine Sch.nil (run_sq (run_pl [yy 0, yy 1, yy 2, yy 3, yy 4, yy 5, nn 6, yy 7] ?_))
 refine yV (kq 10 (.build 55 #[(1, (.const (.int .i64 1)))])) (fun _ => val_build (zs := [.int .i64 0, .int .i64 0]) (ps := [(0, 1), (1, 1)]) (qs := [(1, [.int .i64 1])]) (cs := [.int .i64 0, .int .i64 1]) (by kernel_rfl) (by kernel_rfl) ⟨rfl, ⟨_, rfl, rfl⟩, trivial⟩ rfl) ?_
 refine yV (kq 11 (.build 55 #[(0, (.const (.int .i64 1))), (1, (.const (.int .i64 1)))])) (fun _ => val_build (zs := [.int .i64 0, .int .i64 0]) (ps := [(0, 1), (1, 1)]) (qs := [(0, [.int .i64 1]), (1, [.int .i64 1])]) (cs := [.int .i64 1, .int .i64 1]) (by kernel_rfl) (by kernel_rfl) ⟨rfl, ⟨_, rfl, rfl⟩, rfl, ⟨_, rfl, rfl⟩, trivial⟩ rfl) ?_
 refine yV (kq 12 (.build 58 #[(0, (.tmp 10)), (1, (.tmp 11)), (2, (.const (.int .i64 3)))])) (fun _ => val_build (zs := [.int .i64 0, .int .i64 0, .int .i64 0, .int .i64 0, .int .i64 0]) (ps := [(0, 2), (2, 2), (4, 1)]) (qs := [(0, encR (⟨0, 1⟩ : Couple)), (1, encR (⟨1, 1⟩ : Couple)), (2, [.int .i64 3])]) (cs := encB (⟨⟨0, 1⟩, ⟨1, 1⟩, 3⟩ : Bond)) (by kernel_rfl) (by kernel_rfl) ⟨rfl, ⟨_, rfl, rfl⟩, rfl, ⟨_, rfl, rfl⟩, rfl, ⟨_, rfl, rfl⟩, trivial⟩ rfl) ?_
 refine yV (kq 13 (.build 55 #[(1, (.const (.int .i64 2)))])) (fun _ => val_build (zs := [.int .i64 0, .int .i64 0]) (ps := [(0, 1), (1, 1)]) (qs := [(1, [.int .i64 2])]) (cs := [.int .i64 0, .int .i64 2]) (by kernel_rfl) (by kernel_rfl) ⟨rfl, ⟨_, rfl, rfl⟩, trivial⟩ rfl) ?_
 refine yV (kq 14 (.build 55 #[(0, (.const (.int .i64 1))), (1, (.const (.int .i64 2)))])) (fun _ => val_build (zs := [.int .i64 0, .int .i64 0]) (ps := [(0, 1), (1, 1)]) (qs := [(0, [.int .i64 1]), (1, [.int .i64 2])]) (cs := [.int .i64 1, .int .i64 2]) (by kernel_rfl) (by kernel_rfl) ⟨rfl, ⟨_, rfl, rfl⟩, rfl, ⟨_, rfl, rfl⟩, trivial⟩ rfl) ?_
 refine yV (kq 15 (.build 58 #[(0, (.tmp 13)), (1, (.tmp 14)), (2, (.const (.int .i64 4)))])) (fun _ => val_build (zs := [.int .i64 0, .int .i64 0, .int .i64 0, .int .i64 0, .int .i64 0]) (ps := [(0, 2), (2, 2), (4, 1)]) (qs := [(0, encR (⟨0, 2⟩ : Couple)), (1, encR (⟨1, 2⟩ : Couple)), (2, [.int .i64 4])]) (cs := encB (⟨⟨0, 2⟩, ⟨1, 2⟩, 4⟩ : Bond)) (by kernel_rfl) (by kernel_rfl) ⟨rfl, ⟨_, rfl, rfl⟩, rfl, ⟨_, rfl, rfl⟩, rfl, ⟨_, rfl, rfl⟩, trivial⟩ rfl) ?_
 refine aT (kq 16 (.buildSlice 23 2 #[(0, (.tmp 12)), (1, (.tmp 15))])) rfl rfl (a_buildSlice (ys := (aaL : List Bond)) (e := 58) (bytes := 40) hF (by kernel_rfl) rfl (by decide) (by decide) ⟨rfl, ⟨_, rfl, rv_bond.2 rfl⟩, rfl, ⟨_, rfl, rv_bond.2 rfl⟩, trivial⟩) ?_
 rintro v16 w1 ⟨s_1, g16, hF⟩
 refine yA 1 16 ?_
 refine Sch.nil (run_sq (run_pl [yy 0, nn 1, yy 2, yy 3, yy 4, nn 5, nn 6, yy 7] ?_))
 refine yM 18 1 ?_
 refine cT (kq 19 (.call { callee := .value (.func 17), args := #[(.tmp 18), (.const (.slice none 0 0))], argTypes := #[23, 27] })) rfl rfl (ent Tryz.call17 rfl) (resOf_ok (ds := []) hF g16 rv_nil aa_vld (by rw [aa_refs]; decide) (by decide) (fun i h => by cases h) (fun i h => by cases h)) ?_
 rintro _ w2 ⟨s_2, zs1, vb1, vp1, hSt1, rfl, hb1, hp1⟩
 obtain rfl := aa_zs hSt1
 clear hSt1
 rw [aa_value]
 refine yM 17 19 ?_
 refine yE 20 17 0 ?_
 refine yE 21 17 1 ?_
 replace hF := hF.st s_2
 refine aT (kq 2 (.alloc 26)) rfl rfl (a_alloc (cs := [.slice none 0 0, .slice none 0 0, .int .i64 0]) hF 3 (by kernel_rfl)) ?_
 rintro _ w3 ⟨Cw3, bw3, rfl, s_3, b1, hF⟩
 replace hb1 := hb1.t s_3; replace hp1 := hp1.t s_3
 refine aU (k0 (.store 26 (.tmp 2) (.tmp 20))) rfl (a_storeAll (vs := [vb1, vp1, .int .i64 7]) (n := 3) rfl rfl (by kernel_rfl) rfl rfl (by intro u hu; simp only [List.mem_cons, List.not_mem_nil, or_false] at hu; rcases hu with rfl | rfl | rfl <;> first | rfl | exact (hb1.one rfl).2 | exact (hp1.one rfl).2) b1 rfl) ?_
 rintro _ w4 ⟨rfl, s_4, b1⟩
 refine yA 3 21 ?_
 refine Sch.nil (run_sq ?_)
 refine run_tree (id := 3) (ops := F9.o3) [4] (Cw3) 12 (.fork [0, 1, 2] 3 (.run [yy 4, yy 5, yy 6, yy 7, nn 8, nn 9, yy 10, yy 11]) 8 (.run [nn 3, yy 4, yy 5, yy 6, yy 7, nn 9, yy 10, yy 11])) Tryz_mixed (by kernel_rfl) (by kernel_rfl) (by kernel_rfl) ?_
 intro w5 s_5
 have hR := Stp.refl [4] w5 (Cw3)
 have haal1 : aaL.length = 2 := rfl
 refine tr_fork ?_
 show SchQ _ _ _ _ _ [yy 0, yy 1, yy 2] _ _
 replace b1 := b1.t s_5
 refine yS (kq 23 (.load 26 (.tmp 2))) rfl rfl (fun w' hS => val_loadOwnAgg (n := 3) (vs := [vb1, vp1, .int .i64 7]) (b1.stay hS (by decide)) (by kernel_rfl) (by kernel_rfl) rfl rfl rfl) ?_
 refine yM 24 1 ?_
 replace g16 := (((g16.t s_2).t s_3).t s_4).t s_5
 refine sTR (e' := 58) (kq 25 (.slice 23 (.tmp 24) none (some (.const (.int .i64 1))) none)) rfl rfl g16 rfl (by kernel_rfl) rfl (by omega) (by omega) ?_
 intro v25 h25
 try simp only [Int.toNat_natCast] at h25
 replace h25 : RV _ _ abL v25 := h25
 refine tr_do2 ?_ ?_
 ·
  show SchQ _ _ _ _ _ [nn 3] _ _
  replace hF := (hF.st s_4).st s_5; replace hb1 := (hb1.t s_4).t s_5; replace hp1 := (hp1.t s_4).t s_5
  refine cS (kq 26 (.call { callee := .value (.func 22), args := #[(.tmp 23), (.const (.slice none 0 0)), (.tmp 25), (.const (.slice none 0 0))], argTypes := #[26, 27, 23, 27] })) rfl rfl (ent Tryz.call22 rfl) (again_ok (old := aaL) (nw := abL) (d1 := []) (d2 := []) (tt := 7) hF hb1 hp1 rv_nil h25 rv_nil aa_vld ab_vld aa_sts (by rw [aa_refs]; decide) (by rw [ab_refs]; decide) (by decide) (fun i h => by cases h) (fun i h => by cases h) (by decide) (fun i h => by cases h) (fun i h => by cases h)) ?_
  rintro _ w6 ⟨s_6, us2, vb2, vp2, hSu2, rfl, hb2, hp2⟩
  obtain rfl := ab_zs hSu2
  clear hSu2
  rw [ab_value, ab_unk]
  refine ⟨(hR.trans s_6 (by simp)).ext, ?_⟩
  replace hR := hR.t s_6
  refine tr_next hR.ext ?_
  refine tr_run ?_
  show SchQ _ _ _ _ _ [yy 4, yy 5, yy 6, yy 7, nn 8, nn 9, yy 10, yy 11] _ _
  refine yM 22 26 ?_
  refine yE 27 22 0 ?_
  refine yE 28 22 1 ?_
  refine yE 29 22 2 ?_
  replace hF := hF.st s_6
  refine aS (kq 4 (.alloc 26)) rfl rfl (a_alloc (cs := [.slice none 0 0, .slice none 0 0, .int .i64 0]) hF 4 (by kernel_rfl)) ?_
  rintro _ w7 ⟨Cw7, bw7, rfl, s_7, b2, hF⟩
  refine ⟨(hR.trans s_7 (by simp)).ext, ?_⟩
  replace hb2 := hb2.t s_7; replace hp2 := hp2.t s_7
  refine aN (k0 (.store 26 (.tmp 4) (.tmp 27))) rfl (a_storeAll (vs := [vb2, vp2, .int .i64 3]) (n := 3) rfl rfl (by kernel_rfl) rfl rfl (by intro u hu; simp only [List.mem_cons, List.not_mem_nil, or_false] at hu; rcases hu with rfl | rfl | rfl <;> first | rfl | exact (hb2.one rfl).2 | exact (hp2.one rfl).2) b2 rfl) ?_
  rintro _ w8 ⟨rfl, s_8, b2⟩
  replace hR := hR.t s_7
  refine ⟨(hR.trans s_8 (by simp)).ext, ?_⟩
  refine yA 5 28 ?_
  refine yA 6 29 ?_
  refine Sch.nil (run_sq (run_pl [nn 0, yy 1, nn 2, yy 3, yy 4, yy 5, yy 6, nn 7, nn 8, yy 9, yy 10] ?_))
  refine nS (kq 31 (.load 26 (.tmp 4))) rfl rfl trivial (val_loadOwnAgg (n := 3) (vs := [vb2, vp2, .int .i64 3]) b2.at_ (by kernel_rfl) (by kernel_rfl) rfl rfl rfl) ?_
  refine yM 32 1 ?_
  replace g16 := ((g16.t s_6).t s_7).t s_8; replace hF := hF.st s_8; replace hb2 := hb2.t s_8; replace hp2 := hp2.t s_8
  refine cT (kq 33 (.call { callee := .value (.func 22), args := #[(.tmp 31), (.const (.slice none 0 0)), (.tmp 32), (.const (.slice none 0 0))], argTypes := #[26, 27, 23, 27] })) rfl rfl (ent Tryz.call22 rfl) (again_ok (old := abL) (nw := aaL) (d1 := []) (d2 := []) (tt := 3) hF hb2 hp2 rv_nil g16 rv_nil ab_vld aa_vld ab_sts (by rw [ab_refs]; decide) (by rw [aa_refs]; decide) (by decide) (fun i h => by cases h) (fun i h => by cases h) (by decide) (fun i h => by cases h) (fun i h => by cases h)) ?_
  rintro _ w9 ⟨s_9, us3, vb3, vp3, hSu3, rfl, hb3, hp3⟩
  obtain rfl := aa_zs hSu3
  clear hSu3
  rw [aa_value, aa_unk]
  refine yM 30 33 ?_
  refine yE 34 30 0 ?_
  refine yE 35 30 1 ?_
  refine yE 36 30 2 ?_
  replace hF := hF.st s_9
  refine aT (kq 7 (.alloc 26)) rfl rfl (a_alloc (cs := [.slice none 0 0, .slice none 0 0, .int .i64 0]) hF 5 (by kernel_rfl)) ?_
  rintro _ w10 ⟨Cw10, bw10, rfl, s_10, b3, hF⟩
  replace hb3 := hb3.t s_10; replace hp3 := hp3.t s_10
  refine aU (k0 (.store 26 (.tmp 7) (.tmp 34))) rfl (a_storeAll (vs := [vb3, vp3, .int .i64 7]) (n := 3) rfl rfl (by kernel_rfl) rfl rfl (by intro u hu; simp only [List.mem_cons, List.not_mem_nil, or_false] at hu; rcases hu with rfl | rfl | rfl <;> first | rfl | exact (hb3.one rfl).2 | exact (hp3.one rfl).2) b3 rfl) ?_
  rintro _ w11 ⟨rfl, s_11, b3⟩
  refine yA 8 35 ?_
  refine yA 9 36 ?_
  refine Sch.nil (run_sq (run_pl [yy 0, yy 1, yy 2, yy 3, yy 4, yy 5, yy 6, yy 7, yy 8, yy 9, yy 10, yy 11, yy 12, yy 13, yy 14, yy 15, yy 16, yy 17, yy 18, yy 19, nn 20, yy 21, yy 22, yy 23, yy 24, nn 25, yy 26, yy 27, yy 28, yy 29, nn 30, yy 31, yy 32, yy 33, yy 34, nn 35, nn 36, nn 37, yy 38, yy 39] ?_))
  have haal : aaP.length = 2 := rfl
  refine yM 37 3 ?_
  refine yV (kq 38 (.binOp .eql 34 (.tmp 37) (.const (.int .i64 0)) 34)) (fun _ => val_T (val_eql rfl rfl) rfl) ?_
  refine yM 39 38 ?_
  refine yMg 40 6 2 true ?_
  refine yV (kg 41 (.binOp .eql 34 (.tmp 40) (.const (.int .i64 0)) 34) 2 true) (fun _ => val_T (val_eql rfl rfl) rfl) ?_
  refine yAt 42 39 41 ?_
  refine yM 43 42 ?_
  refine yMg 44 9 6 true ?_
  refine yV (kg 45 (.binOp .eql 34 (.tmp 44) (.const (.int .i64 0)) 34) 6 true) (fun _ => val_T (val_eql rfl rfl) rfl) ?_
  refine yAt 46 43 45 ?_
  refine yM 47 46 ?_
  refine yMg 48 5 10 true ?_
  refine yV (kg 49 (.binOp .eql 3 (.tmp 48) (.const (.int .i64 0)) 3) 10 true) (fun _ => val_T (val_eql rfl rfl) rfl) ?_
  refine yAt 50 47 49 ?_
  refine yM 51 50 ?_
  refine yMg 52 8 14 true ?_
  refine yV (kg 53 (.binOp .eql 3 (.tmp 52) (.const (.int .i64 1)) 3) 14 true) (fun _ => val_T (val_eql rfl rfl) rfl) ?_
  refine yAt 54 51 53 ?_
  refine yM 55 54 ?_
  refine yFg 56 26 2 2 2 18 true ?_
  replace b1 := (((((b1.t s_6).t s_7).t s_8).t s_9).t s_10).t s_11
  refine nS (kg 57 (.load 3 (.tmp 56)) 18 true) rfl rfl trivial (val_loadOwn b1.at_ (by kernel_rfl) rfl rfl) ?_
  refine yV (kg 58 (.binOp .eql 3 (.tmp 57) (.const (.int .i64 7)) 3) 18 true) (fun _ => val_T (val_eql rfl rfl) rfl) ?_
  refine yAt 59 55 58 ?_
  refine yM 60 59 ?_
  refine yFg 61 26 4 2 2 23 true ?_
  replace b2 := ((b2.t s_9).t s_10).t s_11
  refine nS (kg 62 (.load 3 (.tmp 61)) 23 true) rfl rfl trivial (val_loadOwn b2.at_ (by kernel_rfl) rfl rfl) ?_
  refine yV (kg 63 (.binOp .eql 3 (.tmp 62) (.const (.int .i64 3)) 3) 23 true) (fun _ => val_T (val_eql rfl rfl) rfl) ?_
  refine yAt 64 60 63 ?_
  refine yM 65 64 ?_
  refine yFg 66 26 7 1 1 28 true ?_
  refine nS (kg 67 (.load 24 (.tmp 66)) 28 true) rfl rfl trivial (val_loadOwn b3.at_ (by kernel_rfl) rfl rfl) ?_
  replace hp3 := hp3.t s_11
  refine yS (kg 68 (.call { callee := .builtin .len, args := #[(.tmp 67)], argTypes := #[24] }) 28 true) rfl rfl (fun w' hS => hp3.lenV rfl Tryz.underlying24 w' ) ?_
  refine yV (kg 69 (.binOp .eql 3 (.tmp 68) (.const (.int .i64 2)) 3) 28 true) (fun _ => val_T (val_eql rfl rfl) rfl) ?_
  refine yAt 70 65 69 ?_
  refine yM 71 70 ?_
  refine nS (kg 72 (.load 26 (.tmp 2)) 34 true) rfl rfl trivial (val_loadOwnAgg (n := 3) (vs := [vb1, vp1, .int .i64 7]) b1.at_ (by kernel_rfl) (by kernel_rfl) rfl rfl rfl) ?_
  refine nS (kg 73 (.load 26 (.tmp 7)) 34 true) rfl rfl trivial (val_loadOwnAgg (n := 3) (vs := [vb3, vp3, .int .i64 7]) b3.at_ (by kernel_rfl) (by kernel_rfl) rfl rfl rfl) ?_
  replace hb1 := (((((hb1.t s_6).t s_7).t s_8).t s_9).t s_10).t s_11; replace hp1 := (((((hp1.t s_6).t s_7).t s_8).t s_9).t s_10).t s_11; replace hF := hF.st s_11; replace hb3 := hb3.t s_11
  refine cT (kg 74 (.call { callee := .value (.func 18), args := #[(.tmp 72), (.tmp 73)], argTypes := #[26, 26] }) 34 true) rfl rfl (ent Tryz.call18 rfl) (sameSol_ok hF hb1 hp1 hb3 hp3) ?_
  rintro vw12 w12 ⟨rfl, s_12⟩
  refine yAt 75 71 74 ?_
  refine yA 0 75 ?_
  refine Sch.nil ?_
  refine rt1 Tryz.func9 Tryz.results9 ?_
  replace hT := (((((((((((hT.t s_1).t s_2).t s_3).t s_4).t s_5).t s_6).t s_7).t s_8).t s_9).t s_10).t s_11).t s_12
  exact ⟨rfl, hT.out1 (by decide)⟩
 show SchQ _ _ _ _ _ [nn 8] _ _
 replace hF := (hF.st s_4).st s_5
 refine aS (kq 4 (.alloc 26)) rfl rfl (a_alloc (cs := [.slice none 0 0, .slice none 0 0, .int .i64 0]) hF 4 (by kernel_rfl)) ?_
 rintro _ w13 ⟨Cw13, bw13, rfl, s_13, b2, hF⟩
 refine ⟨(hR.trans s_13 (by simp)).ext, ?_⟩
 replace hR := hR.t s_13
 refine tr_next hR.ext ?_
 refine tr_run ?_
 show SchQ _ _ _ _ _ [nn 3, yy 4, yy 5, yy 6, yy 7, nn 9, yy 10, yy 11] _ _
 replace hb1 := ((hb1.t s_4).t s_5).t s_13; replace hp1 := ((hp1.t s_4).t s_5).t s_13; replace h25 := h25.t s_13
 refine cS (kq 26 (.call { callee := .value (.func 22), args := #[(.tmp 23), (.const (.slice none 0 0)), (.tmp 25), (.const (.slice none 0 0))], argTypes := #[26, 27, 23, 27] })) rfl rfl (ent Tryz.call22 rfl) (again_ok (old := aaL) (nw := abL) (d1 := []) (d2 := []) (tt := 7) hF hb1 hp1 rv_nil h25 rv_nil aa_vld ab_vld aa_sts (by rw [aa_refs]; decide) (by rw [ab_refs]; decide) (by decide) (fun i h => by cases h) (fun i h => by cases h) (by decide) (fun i h => by cases h) (fun i h => by cases h)) ?_
 rintro _ w14 ⟨s_14, us2, vb2, vp2, hSu2, rfl, hb2, hp2⟩
 obtain rfl := ab_zs hSu2
 clear hSu2
 rw [ab_value, ab_unk]
 refine ⟨(hR.trans s_14 (by simp)).ext, ?_⟩
 refine yM 22 26 ?_
 refine yE 27 22 0 ?_
 refine yE 28 22 1 ?_
 refine yE 29 22 2 ?_
 replace b2 := b2.t s_14
 refine aN (k0 (.store 26 (.tmp 4) (.tmp 27))) rfl (a_storeAll (vs := [vb2, vp2, .int .i64 3]) (n := 3) rfl rfl (by kernel_rfl) rfl rfl (by intro u hu; simp only [List.mem_cons, List.not_mem_nil, or_false] at hu; rcases hu with rfl | rfl | rfl <;> first | rfl | exact (hb2.one rfl).2 | exact (hp2.one rfl).2) b2 rfl) ?_
 rintro _ w15 ⟨rfl, s_15, b2⟩
 replace hR := hR.t s_14
 refine ⟨(hR.trans s_15 (by simp)).ext, ?_⟩
 refine yA 5 28 ?_
 refine yA 6 29 ?_
 refine Sch.nil (run_sq (run_pl [nn 0, yy 1, nn 2, yy 3, yy 4, yy 5, yy 6, nn 7, nn 8, yy 9, yy 10] ?_))
 refine nS (kq 31 (.load 26 (.tmp 4))) rfl rfl trivial (val_loadOwnAgg (n := 3) (vs := [vb2, vp2, .int .i64 3]) b2.at_ (by kernel_rfl) (by kernel_rfl) rfl rfl rfl) ?_
 refine yM 32 1 ?_
 replace g16 := ((g16.t s_13).t s_14).t s_15; replace hF := (hF.st s_14).st s_15; replace hb2 := hb2.t s_15; replace hp2 := hp2.t s_15
 refine cT (kq 33 (.call { callee := .value (.func 22), args := #[(.tmp 31), (.const (.slice none 0 0)), (.tmp 32), (.const (.slice none 0 0))], argTypes := #[26, 27, 23, 27] })) rfl rfl (ent Tryz.call22 rfl) (again_ok (old := abL) (nw := aaL) (d1 := []) (d2 := []) (tt := 3) hF hb2 hp2 rv_nil g16 rv_nil ab_vld aa_vld ab_sts (by rw [ab_refs]; decide) (by rw [aa_refs]; decide) (by decide) (fun i h => by cases h) (fun i h => by cases h) (by decide) (fun i h => by cases h) (fun i h => by cases h)) ?_
 rintro _ w16 ⟨s_16, us3, vb3, vp3, hSu3, rfl, hb3, hp3⟩
 obtain rfl := aa_zs hSu3
 clear hSu3
 rw [aa_value, aa_unk]
 refine yM 30 33 ?_
 refine yE 34 30 0 ?_
 refine yE 35 30 1 ?_
 refine yE 36 30 2 ?_
 replace hF := hF.st s_16
 refine aT (kq 7 (.alloc 26)) rfl rfl (a_alloc (cs := [.slice none 0 0, .slice none 0 0, .int .i64 0]) hF 5 (by kernel_rfl)) ?_
 rintro _ w17 ⟨Cw17, bw17, rfl, s_17, b3, hF⟩
 replace hb3 := hb3.t s_17; replace hp3 := hp3.t s_17
 refine aU (k0 (.store 26 (.tmp 7) (.tmp 34))) rfl (a_storeAll (vs := [vb3, vp3, .int .i64 7]) (n := 3) rfl rfl (by kernel_rfl) rfl rfl (by intro u hu; simp only [List.mem_cons, List.not_mem_nil, or_false] at hu; rcases hu with rfl | rfl | rfl <;> first | rfl | exact (hb3.one rfl).2 | exact (hp3.one rfl).2) b3 rfl) ?_
 rintro _ w18 ⟨rfl, s_18, b3⟩
 refine yA 8 35 ?_
 refine yA 9 36 ?_
 refine Sch.nil (run_sq (run_pl [yy 0, yy 1, yy 2, yy 3, yy 4, yy 5, yy 6, yy 7, yy 8, yy 9, yy 10, yy 11, yy 12, yy 13, yy 14, yy 15, yy 16, yy 17, yy 18, yy 19, nn 20, yy 21, yy 22, yy 23, yy 24, nn 25, yy 26, yy 27, yy 28, yy 29, nn 30, yy 31, yy 32, yy 33, yy 34, nn 35, nn 36, nn 37, yy 38, yy 39] ?_))
 have haal : aaP.length = 2 := rfl
 refine yM 37 3 ?_
 refine yV (kq 38 (.binOp .eql 34 (.tmp 37) (.const (.int .i64 0)) 34)) (fun _ => val_T (val_eql rfl rfl) rfl) ?_
 refine yM 39 38 ?_
 refine yMg 40 6 2 true ?_
 refine yV (kg 41 (.binOp .eql 34 (.tmp 40) (.const (.int .i64 0)) 34) 2 true) (fun _ => val_T (val_eql rfl rfl) rfl) ?_
 refine yAt 42 39 41 ?_
 refine yM 43 42 ?_
 refine yMg 44 9 6 true ?_
 refine yV (kg 45 (.binOp .eql 34 (.tmp 44) (.const (.int .i64 0)) 34) 6 true) (fun _ => val_T (val_eql rfl rfl) rfl) ?_
 refine yAt 46 43 45 ?_
 refine yM 47 46 ?_
 refine yMg 48 5 10 true ?_
 refine yV (kg 49 (.binOp .eql 3 (.tmp 48) (.const (.int .i64 0)) 3) 10 true) (fun _ => val_T (val_eql rfl rfl) rfl) ?_
 refine yAt 50 47 49 ?_
 refine yM 51 50 ?_
 refine yMg 52 8 14 true ?_
 refine yV (kg 53 (.binOp .eql 3 (.tmp 52) (.const (.int .i64 1)) 3) 14 true) (fun _ => val_T (val_eql rfl rfl) rfl) ?_
 refine yAt 54 51 53 ?_
 refine yM 55 54 ?_
 refine yFg 56 26 2 2 2 18 true ?_
 replace b1 := (((((b1.t s_13).t s_14).t s_15).t s_16).t s_17).t s_18
 refine nS (kg 57 (.load 3 (.tmp 56)) 18 true) rfl rfl trivial (val_loadOwn b1.at_ (by kernel_rfl) rfl rfl) ?_
 refine yV (kg 58 (.binOp .eql 3 (.tmp 57) (.const (.int .i64 7)) 3) 18 true) (fun _ => val_T (val_eql rfl rfl) rfl) ?_
 refine yAt 59 55 58 ?_
 refine yM 60 59 ?_
 refine yFg 61 26 4 2 2 23 true ?_
 replace b2 := ((b2.t s_16).t s_17).t s_18
 refine nS (kg 62 (.load 3 (.tmp 61)) 23 true) rfl rfl trivial (val_loadOwn b2.at_ (by kernel_rfl) rfl rfl) ?_
 refine yV (kg 63 (.binOp .eql 3 (.tmp 62) (.const (.int .i64 3)) 3) 23 true) (fun _ => val_T (val_eql rfl rfl) rfl) ?_
 refine yAt 64 60 63 ?_
 refine yM 65 64 ?_
 refine yFg 66 26 7 1 1 28 true ?_
 refine nS (kg 67 (.load 24 (.tmp 66)) 28 true) rfl rfl trivial (val_loadOwn b3.at_ (by kernel_rfl) rfl rfl) ?_
 replace hp3 := hp3.t s_18
 refine yS (kg 68 (.call { callee := .builtin .len, args := #[(.tmp 67)], argTypes := #[24] }) 28 true) rfl rfl (fun w' hS => hp3.lenV rfl Tryz.underlying24 w' ) ?_
 refine yV (kg 69 (.binOp .eql 3 (.tmp 68) (.const (.int .i64 2)) 3) 28 true) (fun _ => val_T (val_eql rfl rfl) rfl) ?_
 refine yAt 70 65 69 ?_
 refine yM 71 70 ?_
 refine nS (kg 72 (.load 26 (.tmp 2)) 34 true) rfl rfl trivial (val_loadOwnAgg (n := 3) (vs := [vb1, vp1, .int .i64 7]) b1.at_ (by kernel_rfl) (by kernel_rfl) rfl rfl rfl) ?_
 refine nS (kg 73 (.load 26 (.tmp 7)) 34 true) rfl rfl trivial (val_loadOwnAgg (n := 3) (vs := [vb3, vp3, .int .i64 7]) b3.at_ (by kernel_rfl) (by kernel_rfl) rfl rfl rfl) ?_
 replace hb1 := ((((hb1.t s_14).t s_15).t s_16).t s_17).t s_18; replace hp1 := ((((hp1.t s_14).t s_15).t s_16).t s_17).t s_18; replace hF := hF.st s_18; replace hb3 := hb3.t s_18
 refine cT (kg 74 (.call { callee := .value (.func 18), args := #[(.tmp 72), (.tmp 73)], argTypes := #[26, 26] }) 34 true) rfl rfl (ent Tryz.call18 rfl) (sameSol_ok hF hb1 hp1 hb3 hp3) ?_
 rintro vw19 w19 ⟨rfl, s_19⟩
 refine yAt 75 71 74 ?_
 refine yA 0 75 ?_
 refine Sch.nil ?_
 refine rt1 Tryz.func9 Tryz.results9 ?_
 replace hT := (((((((((((hT.t s_1).t s_2).t s_3).t s_4).t s_5).t s_13).t s_14).t s_15).t s_16).t s_17).t s_18).t s_19
 exact ⟨rfl, hT.out1 (by decide)⟩
end
end Go.Proofs.YtmdhggfehknjjaaGreat
