/- Steps through functions of the program. -/
import Derived.Test.YtmdhggfehknjjaaGreatJH4
import Derived.Test.YtmdhggfehknjjaaGreatJH5
set_option linter.unusedVariables false
set_option linter.unusedSimpArgs false
set_option maxRecDepth 100000
set_option maxHeartbeats 4000000
namespace Go.Proofs.YtmdhggfehknjjaaGreat
open Go.K Go.K.Rep
noncomputable section
namespace F45
def c0 := bodyOf Tryz.f45
def c34 := (cr (cr (cr (cr (cr c0)))))
def c42 := (cl (cr (cl (cr (cr c34)))))
def c51 := (cl (cl (cr (cr (cl c42)))))
def o16 := rops (cr c51)
end F45
theorem divide_ok {w₀ : World} {C : Nat → Nat} {old nw : List Bond} {d1 d2 : List Dcs} {zs : List (List Couple)} {vb vp vz1 vn vz2 : Value} {tt : Int} (hF : Lim w₀ C) (hb : RV w₀ (Mc C) old vb) (hp : RV w₀ (Mc C) zs vp) (hz1 : RV w₀ (Mc C) d1 vz1) (hl : RV w₀ (Mc C) nw vn) (hz2 : RV w₀ (Mc C) d2 vz2) (hvo : Vld old) (hvn : Vld nw) (hPo : PV old d1 zs)
    (hm1 : d1.length ≤ 4096) (hO1 : ∀ i (h : i < d1.length), dcsOK d1[i]) (hA1 : ∀ i (h : i + 1 < d1.length), cmpD d1[i] d1[i + 1] < 0) (hm2 : d2.length ≤ 4096) (hO2 : ∀ i (h : i < d2.length), dcsOK d2[i]) (hA2 : ∀ i (h : i + 1 < d2.length), cmpD d2[i] d2[i + 1] < 0) : Calls Tryz.prog 45 #[.agg #[vb, vp, .int .i64 tt], vz1, vn, vz2] w₀ (Ret fun v w' => Stp [] w₀ C w' C ∧ ∃ vq vu vk, v = .tuple #[.agg #[vq, vu, vk], .int .i64 0] ∧ RV w' (Mc C) (partsS nw) vq ∧ RV w' (Mc C) (splitS nw) vu ∧ RV w' (Mc C) (keptL old d1 d2 nw (splitS nw).length) vk) := by
 have hF0 := hF
 have hT := Stp.refl [2, 3, 4, 5, 6, 7, 8, 9] w₀ (col1 C)
 replace hF := hF.col1
 replace hb := hb.c1
 replace hp := hp.c1
 replace hz1 := hz1.c1
 replace hl := hl.c1
 replace hz2 := hz2.c1
 have hlo := hvo.1
 have hln := hvn.1
 have hrn := refsS_len nw
 have hpl := parts_le nw
 have hsp := splitS_len nw
 refine c_st F45.c0 84 [.agg #[vb, vp, .int .i64 tt], vz1, vn, vz2] Tryz.func45 ?_
 show Run _ _ _ _ [(0, .agg #[vb, vp, .int .i64 tt]), (1, vz1), (2, vn), (3, vz2)] _ _
 refine run_sq (run_pl [nn 0, nn 1, yy 2] ?_)
 refine aT (kq 4 (.box 26 (.tmp 0))) rfl rfl (a_box (cs := [vb, vp, .int .i64 tt]) hF 3 rfl rfl) ?_
 rintro _ w1 ⟨Cw1, bw1, rfl, s_1, hx, hF⟩
 refine aT (kq 8 (.alloc 97)) rfl rfl (a_alloc (cs := [.slice none 0 0, .slice none 0 0, .slice none 0 0]) hF 4 (by kernel_rfl)) ?_
 rintro _ w2 ⟨Cw2, bw2, rfl, s_2, br, hF⟩
 refine yAc 9 (.int .i64 0) ?_
 refine Sch.nil (run_sq (run_sq (run_pl [yy 0, nn 1, yy 2, yy 3, nn 4, nn 5, yy 6] ?_)))
 refine yF 16 26 4 0 0 ?_
 replace hx := hx.t s_2
 refine nO 17 23 16 hx.at_ rfl rfl ?_
 refine yM 18 1 ?_
 refine yF 19 26 4 1 1 ?_
 refine nO 20 24 19 hx.at_ rfl rfl ?_
 replace hb := (hb.t s_1).t s_2; replace hp := (hp.t s_1).t s_2; replace hz1 := (hz1.t s_1).t s_2
 refine cG 21 81 [17, 18, 20] [23, 27, 24] Tryz.call81 rfl (valid_ok hF hb hz1 hp hvo.check hlo hm1 hO1 hA1 hPo) ?_
 rintro vw3 w3 ⟨rfl, s_3⟩
 refine yA 10 21 ?_
 refine Sch.nil (run_sq (run_pl [yy 0, yy 1] ?_))
 refine yM 22 10 ?_
 refine yV (kq 23 (.binOp .neq 34 (.tmp 22) (.const (.int .i64 0)) 34)) (fun _ => val_is (val_neq rfl rfl) (show _ = Value.bool false from congrArg Value.bool (decide_eq_false (by decide)))) ?_
 refine Sch.nil (run_cF 23 (run_sk (run_sq (run_sq (run_pl [yy 0, nn 1, yy 2] ?_)))))
 refine yM 26 2 ?_
 replace hl := ((hl.t s_1).t s_2).t s_3; replace hF := hF.st s_3
 refine cG 27 82 [26] [23] Tryz.call82 rfl (check_ok hF hl) ?_
 rintro vw4 w4 ⟨rfl, s_4⟩
 rw [hvn.check]
 refine yA 11 27 ?_
 refine Sch.nil (run_sq (run_pl [yy 0, yy 1] ?_))
 refine yM 28 11 ?_
 refine yV (kq 29 (.binOp .neq 34 (.tmp 28) (.const (.int .i64 0)) 34)) (fun _ => val_is (val_neq rfl rfl) (show _ = Value.bool false from congrArg Value.bool (decide_eq_false (by decide)))) ?_
 refine Sch.nil (run_cF 29 (run_sk (run_sq (run_sq (run_pl [yy 0, nn 1, yy 2] ?_)))))
 refine yM 32 3 ?_
 replace hz2 := (((hz2.t s_1).t s_2).t s_3).t s_4; replace hF := hF.st s_4
 refine cG 33 63 [32] [27] Tryz.call63 rfl (decided_ok hF hz2 hm2 hO2 hA2) ?_
 rintro vw5 w5 ⟨rfl, s_5⟩
 refine yA 12 33 ?_
 refine Sch.nil (run_sq (run_pl [yy 0, yy 1] ?_))
 refine yM 34 12 ?_
 refine yV (kq 35 (.binOp .neq 34 (.tmp 34) (.const (.int .i64 0)) 34)) (fun _ => val_is (val_neq rfl rfl) (show _ = Value.bool false from congrArg Value.bool (decide_eq_false (by decide)))) ?_
 refine Sch.nil (run_cF 35 (run_sk (run_sq (run_pl [nn 0] ?_))))
 replace hF := hF.st s_5
 refine aT (kq 13 (.alloc 97)) rfl rfl (a_alloc (cs := [.slice none 0 0, .slice none 0 0, .slice none 0 0]) hF 5 (by kernel_rfl)) ?_
 rintro _ w6 ⟨Cw6, bw6, rfl, s_6, bo, hF⟩
 refine Sch.nil (run_sq (run_pl [yy 0, nn 1, yy 2, yy 3, yy 4, yy 5, nn 6] ?_))
 refine yM 39 2 ?_
 replace hl := ((hl.t s_4).t s_5).t s_6
 refine cG 40 83 [39] [23] Tryz.call83 rfl (of_ok hF hl (by omega)) ?_
 rintro vw7 w7 ⟨vq, rfl, s_7, _, hq⟩
 rw [if_pos hvn.check] at hq
 rw [hvn.check]
 refine yM 38 40 ?_
 refine yE 41 38 0 ?_
 refine yE 42 38 1 ?_
 refine yF 43 97 13 0 0 ?_
 replace bo := bo.t s_7
 refine aU (k0 (.store 24 (.tmp 43) (.tmp 41))) rfl (a_store1 rfl rfl (by kernel_rfl) (hq.one rfl).1 (hq.one rfl).2 bo (by simp)) ?_
 rintro _ w8 ⟨rfl, s_8, bo⟩
 replace bo : OwnB _ _ 5 _ (.cells ([vq, .slice none 0 0, .slice none 0 0]).toArray 97) := bo
 refine Sch.nil (run_sq (run_pl [yy 0, nn 1, yy 2, yy 3, yy 4, yy 5, nn 6] ?_))
 refine yM 45 2 ?_
 replace hF := (hF.st s_7).st s_8; replace hl := (hl.t s_7).t s_8
 refine cG 46 84 [45] [23] Tryz.call84 rfl (split_ok hF hl (by omega)) ?_
 rintro vw9 w9 ⟨vu, rfl, s_9, hu⟩
 rw [if_pos hvn.check] at hu
 rw [hvn.check]
 refine yM 44 46 ?_
 refine yE 47 44 0 ?_
 refine yE 48 44 1 ?_
 refine yF 49 97 13 1 1 ?_
 replace bo := bo.t s_9
 refine aU (k0 (.store 39 (.tmp 49) (.tmp 47))) rfl (a_store1 rfl rfl (by kernel_rfl) (hu.one rfl).1 (hu.one rfl).2 bo (by simp)) ?_
 rintro _ w10 ⟨rfl, s_10, bo⟩
 replace bo : OwnB _ _ 5 _ (.cells ([vq, vu, .slice none 0 0]).toArray 97) := bo
 refine Sch.nil (run_sq (run_sq (run_pl [yy 0, nn 1, yy 2, yy 3] ?_)))
 refine yF 50 97 13 0 0 ?_
 refine nO 51 24 50 bo.at_ rfl rfl ?_
 replace hq := ((hq.t s_8).t s_9).t s_10
 refine yS (kq 52 (.call { callee := .builtin .len, args := #[(.tmp 51)], argTypes := #[24] })) rfl rfl (fun w' hS => hq.lenV rfl Tryz.underlying24 w' ) ?_
 refine yC 53 (.int .i64 0) ?_
 refine Sch.nil (run_bk 0 ?_)
 refine run_lp (ι := Nat × Value × (Nat → Nat)) (I := fun x w => x.1 ≤ (splitS nw).length ∧ Lim w x.2.2 ∧ Stp [2, 3, 4, 5, 6, 7, 8, 9] w₀ (col1 C) w x.2.2 ∧ RV w (Mc x.2.2) old vb ∧ RV w (Mc x.2.2) d1 vz1 ∧ RV w (Mc x.2.2) d2 vz2 ∧ RV w (Mc x.2.2) (partsS nw) vq ∧ RV w (Mc x.2.2) (splitS nw) vu ∧ OwnB w x.2.2 3 bw1 (.cells [vb, vp, .int .i64 tt].toArray 26) ∧ OwnB w x.2.2 4 bw2 (.cells [.slice none 0 0, .slice none 0 0, .slice none 0 0].toArray 97) ∧ OwnB w x.2.2 5 bw6 (.cells [vq, vu, x.2.1].toArray 97) ∧ OwnL w x.2.2 6 4 x.2.1 (keptL old d1 d2 nw x.1)) (e := fun x => [(1, vz1), (3, vz2), (4, .pointer (some ⟨bw1, 0, none⟩)), (8, .pointer (some ⟨bw2, 0, none⟩)), (13, .pointer (some ⟨bw6, 0, none⟩)), (51, vq), (52, .int .i64 (splitS nw).length), (53, .int .i64 x.1)]) (m := fun x => (splitS nw).length - x.1) (x₀ := (0, .slice none 0 0, Cw6)) (sr 1 (sr 3 (sr 4 (sr 8 (sr 13 (sr 51 (sub_cons 52 rfl (eq_int (by rw [splitS_len])) (sr 53 (sub_nil _))))))))) ?_ ?_
 ·
   replace hT := (((((((((hT.t s_1).t s_2).t s_3).t s_4).t s_5).t s_6).t s_7).t s_8).t s_9).t s_10; replace hb := (((((((hb.t s_3).t s_4).t s_5).t s_6).t s_7).t s_8).t s_9).t s_10; replace hz1 := (((((((hz1.t s_3).t s_4).t s_5).t s_6).t s_7).t s_8).t s_9).t s_10; replace hx := (((((((hx.t s_3).t s_4).t s_5).t s_6).t s_7).t s_8).t s_9).t s_10; replace br := (((((((br.t s_3).t s_4).t s_5).t s_6).t s_7).t s_8).t s_9).t s_10; replace hz2 := (((((hz2.t s_5).t s_6).t s_7).t s_8).t s_9).t s_10; replace hF := (hF.st s_9).st s_10; replace hu := hu.t s_10
   exact ⟨Nat.zero_le _, hF, hT, hb, hz1, hz2, hq, hu, hx, br, bo, OwnL.nil⟩
 intro ⟨k, vo, C1⟩ w11 hI next1
 obtain ⟨hk, hF, hT, hb, hz1, hz2, hq, hu, hx, br, bo, ho⟩ := hI
 try simp only at hk hF hT hb hz1 hz2 hq hu hx br bo ho
 show Run _ _ _ _ [(1, vz1), (3, vz2), (4, .pointer (some ⟨bw1, 0, none⟩)), (8, .pointer (some ⟨bw2, 0, none⟩)), (13, .pointer (some ⟨bw6, 0, none⟩)), (51, vq), (52, .int .i64 (splitS nw).length), (53, .int .i64 k)] _ _
 have hle := hq.le
 have hkn := keptL_len (old := old) (d1 := d1) (d2 := d2) (nw := nw) k
 refine run_sq (run_pl [yy 0] ?_)
 refine yL 54 3 53 52 ?_
 refine Sch.nil (run_sq ?_)
 refine run_i 54 rfl (fun h54 => ?_) (fun h54 => ?_)
 ·
  have hkl : k < (splitS nw).length := by omega
  have hkp : k < (partsS nw).length := by omega
  have hnx := keptL_next (old := old) (d1 := d1) (d2 := d2) hkl
  refine run_sk (run_sq (run_bk 1 (run_sq (run_pl [yy 0, yy 1, nn 2, yy 3, yy 4] ?_))))
  refine yM 55 53 ?_
  refine iR 52 56 24 51 53 hq rfl (h := ?_)
  intro b56 o56 h56
  try simp only [Int.toNat_natCast] at h56
  refine lN (kq 57 (.load 52 (.tmp 56))) rfl rfl trivial h56 (by kernel_rfl) rfl rfl ?_
  intro v57 g57
  rw [← split_refs hkl hkp] at g57
  refine yA 14 55 ?_
  refine yA 15 57 ?_
  refine Sch.nil ?_
  by_cases hE : endsL (refsS ((splitS nw)[k]'hkl)) old = ((splitS nw)[k]'hkl)
  ·
   refine run_draw (id := 16) (ops := F45.o16) [6] (C1) [yy 0, yy 1, yy 2, yy 3, yy 4, yy 6, yy 7, yy 8, yy 9, yy 10, nn 5, nn 11, yy 12, yy 13, yy 14, yy 16, yy 17, nn 15, nn 18, nn 19, yy 20, nn 21, nn 22, yy 23, nn 24] Tryz_mixed (by kernel_rfl) (by kernel_rfl) (by kernel_rfl) ?_
   intro w12 s_11
   have hR := Stp.refl [6] w12 (C1)
   refine yF 58 97 13 2 2 ?_
   replace bo := bo.t s_11
   refine yS (kq 59 (.load 81 (.tmp 58))) rfl rfl (fun w' hS => val_loadOwn (bo.sy hS) (by kernel_rfl) rfl rfl) ?_
   refine yM 60 15 ?_
   refine yF 61 26 4 0 0 ?_
   replace hx := hx.t s_11
   refine yS (kq 62 (.load 23 (.tmp 61))) rfl rfl (fun w' hS => val_loadOwn (hx.sy hS) (by kernel_rfl) rfl rfl) ?_
   refine yF 64 97 13 1 1 ?_
   refine yS (kq 65 (.load 39 (.tmp 64))) rfl rfl (fun w' hS => val_loadOwn (bo.sy hS) (by kernel_rfl) rfl rfl) ?_
   refine yM 66 14 ?_
   replace hu := hu.t s_11
   refine iR 23 67 39 65 66 hu rfl (h := ?_)
   intro b67 o67 h67
   try simp only [Int.toNat_natCast] at h67
   refine lS (kq 68 (.load 23 (.tmp 67))) rfl rfl (fun w' hS => h67.sy hS) h67 (by kernel_rfl) rfl rfl ?_
   intro v68 g68
   replace hF := hF.st s_11; replace hb := hb.t s_11; replace g57 := g57.t s_11
   refine cF 63 86 [60, 62] [52, 23] Tryz.call86 rfl (ends_ok hF g57 hb hlo) ?_
   rintro vw13 w13 ⟨s_12, he⟩
   refine ⟨(hR.trans s_12 (by simp)).ext, ?_⟩
   replace hF := hF.st s_12; replace g68 := g68.t s_12
   refine cF 69 85 [63, 68] [23, 23] Tryz.call85 rfl (equalB_ok hF he g68) ?_
   rintro vw14 w14 ⟨rfl, s_13⟩
   rw [decide_eq_true hE]
   replace hR := hR.t s_12
   refine ⟨(hR.trans s_13 (by simp)).ext, ?_⟩
   refine yM 70 69 ?_
   refine yMg 71 15 12 true ?_
   refine yMg 72 1 12 true ?_
   refine yMg 74 15 12 true ?_
   refine yMg 75 3 12 true ?_
   replace hz1 := ((hz1.t s_11).t s_12).t s_13; replace g57 := (g57.t s_12).t s_13; replace hF := hF.st s_13
   refine cS (kg 73 (.call { callee := .value (.func 88), args := #[(.tmp 71), (.tmp 72)], argTypes := #[52, 27] }) 12 true) rfl rfl (ent Tryz.call88 rfl) (within_ok hF g57 hz1 hm1) ?_
   rintro vw15 w15 ⟨s_14, hw1⟩
   replace hR := hR.t s_13
   refine ⟨(hR.trans s_14 (by simp)).ext, ?_⟩
   replace hz2 := (((hz2.t s_11).t s_12).t s_13).t s_14; replace hF := hF.st s_14; replace g57 := g57.t s_14
   refine cS (kg 76 (.call { callee := .value (.func 88), args := #[(.tmp 74), (.tmp 75)], argTypes := #[52, 27] }) 12 true) rfl rfl (ent Tryz.call88 rfl) (within_ok hF g57 hz2 hm2) ?_
   rintro vw16 w16 ⟨s_15, hw2⟩
   replace hR := hR.t s_14
   refine ⟨(hR.trans s_15 (by simp)).ext, ?_⟩
   replace hF := hF.st s_15; replace hw1 := hw1.t s_15
   refine cS (kg 77 (.call { callee := .value (.func 87), args := #[(.tmp 73), (.tmp 76)], argTypes := #[136, 136] }) 12 true) rfl rfl (ent Tryz.call87 rfl) (equalCC_ok hF hw1 hw2) ?_
   rintro vw17 w17 ⟨rfl, s_16⟩
   rw [keptB_y hE]
   replace hR := hR.t s_15
   refine ⟨(hR.trans s_16 (by simp)).ext, ?_⟩
   refine yAt 78 70 77 ?_
   replace hF := hF.st s_16
   refine aS (kq 79 (.buildSlice 81 1 #[(0, (.tmp 78))])) rfl rfl (a_buildSlice (ys := ([keptB old d1 d2 (refsS ((splitS nw)[k]'hkl)) ((splitS nw)[k]'hkl)] : List Bool)) (e := 4) (bytes := 1) hF (by kernel_rfl) rfl (by decide) (by decide) ⟨rfl, ⟨_, rfl, rv_bool.2 rfl⟩, trivial⟩) ?_
   rintro v79 w18 ⟨s_17, g79, hF⟩
   replace hR := hR.t s_16
   refine ⟨(hR.trans s_17 (by simp)).ext, ?_⟩
   replace ho := ((((((ho.t s_11).t s_12).t s_13).t s_14).t s_15).t s_16).t s_17
   refine aS (kq 80 (.call { callee := .builtin .append, args := #[(.tmp 59), (.tmp 79)], argTypes := #[81, 81] })) rfl rfl (a_append (e := 4) (bytes := 1) hF (by decide) rfl rfl (by kernel_rfl) (by decide) ho g79 (by simp only [List.length_cons, List.length_nil]; omega) (by simp only [List.length_cons, List.length_nil]; omega)) ?_
   rintro v80 w19 ⟨Cw19, s_18, ho, hF⟩
   replace hR := hR.t s_17
   refine ⟨(hR.trans s_18 (by simp)).ext, ?_⟩
   refine yF 81 97 13 2 2 ?_
   refine Sch.free rfl ?_
   replace bo := ((((((bo.t s_12).t s_13).t s_14).t s_15).t s_16).t s_17).t s_18
   refine aU (k0 (.store 81 (.tmp 81) (.tmp 80))) rfl (a_store1 rfl rfl (by kernel_rfl) ho.one.1 ho.one.2 bo (by simp)) ?_
   rintro _ w20 ⟨rfl, s_19, bo⟩
   replace bo : OwnB _ _ 5 _ (.cells ([vq, vu, v80]).toArray 97) := bo
   refine Sch.nil (run_inBlock (run_pl [yy 0, yy 1] ?_))
   refine yI 82 3 53 1 ?_
   refine yM 53 82 ?_
   refine Sch.nil ?_
   replace hT := ((((((((hT.t s_11).t s_12).t s_13).t s_14).t s_15).t s_16).t s_17).t s_18).t s_19; replace hq := ((((((((hq.t s_11).t s_12).t s_13).t s_14).t s_15).t s_16).t s_17).t s_18).t s_19; replace br := ((((((((br.t s_11).t s_12).t s_13).t s_14).t s_15).t s_16).t s_17).t s_18).t s_19; replace hb := (((((((hb.t s_12).t s_13).t s_14).t s_15).t s_16).t s_17).t s_18).t s_19; replace hu := (((((((hu.t s_12).t s_13).t s_14).t s_15).t s_16).t s_17).t s_18).t s_19; replace hx := (((((((hx.t s_12).t s_13).t s_14).t s_15).t s_16).t s_17).t s_18).t s_19; replace hz1 := (((((hz1.t s_14).t s_15).t s_16).t s_17).t s_18).t s_19; replace hz2 := ((((hz2.t s_15).t s_16).t s_17).t s_18).t s_19; replace hF := hF.st s_19; replace ho := ho.t s_19
   refine kp (sr 1 (sr 3 (sr 4 (sr 8 (sr 13 (sr 51 (sr 52 (sub_cons 53 rfl (eq_int (by simp)) (sub_nil _))))))))) (next1 (k + 1, v80, Cw19) _ ⟨(by first | omega | (simp only; omega)), hF, hT, hb, hz1, hz2, hq, hu, hx, br, bo, (by simp only; rw [hnx]; exact ho)⟩ (by first | omega | (simp only; omega)))
  refine run_draw (id := 16) (ops := F45.o16) [6] (C1) [yy 0, yy 1, yy 2, yy 3, yy 4, yy 6, yy 7, yy 8, yy 9, yy 10, nn 5, nn 11, yy 12, yy 13, yy 14, yy 16, yy 17, nn 15, nn 18, nn 19, yy 20, nn 21, nn 22, yy 23, nn 24] Tryz_mixed (by kernel_rfl) (by kernel_rfl) (by kernel_rfl) ?_
  intro w21 s_20
  have hR := Stp.refl [6] w21 (C1)
  refine yF 58 97 13 2 2 ?_
  replace bo := bo.t s_20
  refine yS (kq 59 (.load 81 (.tmp 58))) rfl rfl (fun w' hS => val_loadOwn (bo.sy hS) (by kernel_rfl) rfl rfl) ?_
  refine yM 60 15 ?_
  refine yF 61 26 4 0 0 ?_
  replace hx := hx.t s_20
  refine yS (kq 62 (.load 23 (.tmp 61))) rfl rfl (fun w' hS => val_loadOwn (hx.sy hS) (by kernel_rfl) rfl rfl) ?_
  refine yF 64 97 13 1 1 ?_
  refine yS (kq 65 (.load 39 (.tmp 64))) rfl rfl (fun w' hS => val_loadOwn (bo.sy hS) (by kernel_rfl) rfl rfl) ?_
  refine yM 66 14 ?_
  replace hu := hu.t s_20
  refine iR 23 67 39 65 66 hu rfl (h := ?_)
  intro b67 o67 h67
  try simp only [Int.toNat_natCast] at h67
  refine lS (kq 68 (.load 23 (.tmp 67))) rfl rfl (fun w' hS => h67.sy hS) h67 (by kernel_rfl) rfl rfl ?_
  intro v68 g68
  replace hF := hF.st s_20; replace hb := hb.t s_20; replace g57 := g57.t s_20
  refine cF 63 86 [60, 62] [52, 23] Tryz.call86 rfl (ends_ok hF g57 hb hlo) ?_
  rintro vw22 w22 ⟨s_21, he⟩
  refine ⟨(hR.trans s_21 (by simp)).ext, ?_⟩
  replace hF := hF.st s_21; replace g68 := g68.t s_21
  refine cF 69 85 [63, 68] [23, 23] Tryz.call85 rfl (equalB_ok hF he g68) ?_
  rintro vw23 w23 ⟨rfl, s_22⟩
  rw [decide_eq_false hE]
  replace hR := hR.t s_21
  refine ⟨(hR.trans s_22 (by simp)).ext, ?_⟩
  refine yM 70 69 ?_
  refine pX 71 12 true ?_
  refine pX 72 12 true ?_
  refine pX 74 12 true ?_
  refine pX 75 12 true ?_
  replace hR := hR.t s_22
  refine pW (kg 73 (.call { callee := .value (.func 88), args := #[(.tmp 71), (.tmp 72)], argTypes := #[52, 27] }) 12 true) rfl rfl hR.ext ?_
  refine pW (kg 76 (.call { callee := .value (.func 88), args := #[(.tmp 74), (.tmp 75)], argTypes := #[52, 27] }) 12 true) rfl rfl hR.ext ?_
  refine pW (kg 77 (.call { callee := .value (.func 87), args := #[(.tmp 73), (.tmp 76)], argTypes := #[136, 136] }) 12 true) rfl rfl hR.ext ?_
  refine yAf 78 70 77 ?_
  replace hF := hF.st s_22
  refine aS (kq 79 (.buildSlice 81 1 #[(0, (.tmp 78))])) rfl rfl (a_buildSlice (ys := ([keptB old d1 d2 (refsS ((splitS nw)[k]'hkl)) ((splitS nw)[k]'hkl)] : List Bool)) (e := 4) (bytes := 1) hF (by kernel_rfl) rfl (by decide) (by decide) ⟨rfl, ⟨_, rfl, rv_bool.2 (congrArg Value.bool (keptB_n hE))⟩, trivial⟩) ?_
  rintro v79 w24 ⟨s_23, g79, hF⟩
  refine ⟨(hR.trans s_23 (by simp)).ext, ?_⟩
  replace ho := (((ho.t s_20).t s_21).t s_22).t s_23
  refine aS (kq 80 (.call { callee := .builtin .append, args := #[(.tmp 59), (.tmp 79)], argTypes := #[81, 81] })) rfl rfl (a_append (e := 4) (bytes := 1) hF (by decide) rfl rfl (by kernel_rfl) (by decide) ho g79 (by simp only [List.length_cons, List.length_nil]; omega) (by simp only [List.length_cons, List.length_nil]; omega)) ?_
  rintro v80 w25 ⟨Cw25, s_24, ho, hF⟩
  replace hR := hR.t s_23
  refine ⟨(hR.trans s_24 (by simp)).ext, ?_⟩
  refine yF 81 97 13 2 2 ?_
  refine Sch.free rfl ?_
  replace bo := (((bo.t s_21).t s_22).t s_23).t s_24
  refine aU (k0 (.store 81 (.tmp 81) (.tmp 80))) rfl (a_store1 rfl rfl (by kernel_rfl) ho.one.1 ho.one.2 bo (by simp)) ?_
  rintro _ w26 ⟨rfl, s_25, bo⟩
  replace bo : OwnB _ _ 5 _ (.cells ([vq, vu, v80]).toArray 97) := bo
  refine Sch.nil (run_inBlock (run_pl [yy 0, yy 1] ?_))
  refine yI 82 3 53 1 ?_
  refine yM 53 82 ?_
  refine Sch.nil ?_
  replace hT := (((((hT.t s_20).t s_21).t s_22).t s_23).t s_24).t s_25; replace hz1 := (((((hz1.t s_20).t s_21).t s_22).t s_23).t s_24).t s_25; replace hz2 := (((((hz2.t s_20).t s_21).t s_22).t s_23).t s_24).t s_25; replace hq := (((((hq.t s_20).t s_21).t s_22).t s_23).t s_24).t s_25; replace br := (((((br.t s_20).t s_21).t s_22).t s_23).t s_24).t s_25; replace hb := ((((hb.t s_21).t s_22).t s_23).t s_24).t s_25; replace hu := ((((hu.t s_21).t s_22).t s_23).t s_24).t s_25; replace hx := ((((hx.t s_21).t s_22).t s_23).t s_24).t s_25; replace hF := hF.st s_25; replace ho := ho.t s_25
  refine kp (sr 1 (sr 3 (sr 4 (sr 8 (sr 13 (sr 51 (sr 52 (sub_cons 53 rfl (eq_int (by simp)) (sub_nil _))))))))) (next1 (k + 1, v80, Cw25) _ ⟨(by first | omega | (simp only; omega)), hF, hT, hb, hz1, hz2, hq, hu, hx, br, bo, (by simp only; rw [hnx]; exact ho)⟩ (by first | omega | (simp only; omega)))
 have hkl : k = (splitS nw).length := by omega
 rw [hkl] at ho hkn
 refine run_ex 0 ?_
 refine run_sq (run_pl [nn 0, nn 1, yy 2] ?_)
 refine nS (kq 83 (.load 97 (.tmp 13))) rfl rfl trivial (val_loadOwnAgg (n := 3) (vs := [vq, vu, vo]) bo.at_ (by kernel_rfl) (by kernel_rfl) rfl rfl rfl) ?_
 refine aU (k0 (.store 97 (.tmp 8) (.tmp 83))) rfl (a_storeAll (vs := [vq, vu, vo]) (n := 3) rfl rfl (by kernel_rfl) rfl rfl (by intro u hu; simp only [List.mem_cons, List.not_mem_nil, or_false] at hu; rcases hu with rfl | rfl | rfl <;> first | rfl | exact (hq.one rfl).2 | exact (hu.one rfl).2 | exact ho.one.2) br rfl) ?_
 rintro _ w27 ⟨rfl, s_26, br⟩
 refine yAc 9 (.int .i64 0) ?_
 refine Sch.nil ?_
 refine run_retC2 (by kernel_rfl) Tryz.func45 Tryz.results45 rfl rfl br.at_ (by kernel_rfl) (by kernel_rfl) rfl ?_
 replace hT := hT.t s_26; replace hq := hq.t s_26; replace hu := hu.t s_26; replace ho := ho.t s_26
 exact ⟨hT.out1 (by decide), _, _, _, rfl, hq.out hT hF0 (Mc_col1 C), hu.out hT hF0 (Mc_col1 C), ho.out hT hF0 (Mc_col1 C) (fun b _ => col1_lt C (by decide) b) (by omega)⟩
end
end Go.Proofs.YtmdhggfehknjjaaGreat
