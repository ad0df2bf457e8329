/- Steps through functions of the program. -/
import Derived.Test.YtmdhggfehknjjaaGreatJH2
import Derived.Test.YtmdhggfehknjjaaGreatJH3
import Derived.Test.YtmdhggfehknjjaaGreatJH7
set_option linter.unusedVariables false
set_option linter.unusedSimpArgs false
set_option maxRecDepth 100000
set_option maxHeartbeats 4000000
namespace Go.Proofs.YtmdhggfehknjjaaGreat
open Go.K Go.K.Rep
noncomputable section
namespace F22
def c0 := bodyOf Tryz.f22
end F22
theorem again_ok {w₀ : World} {C : Nat → Nat} {old nw : List Bond} {d1 d2 : List Dcs} {zs : List (List Couple)} {vb vp vz1 vn vz2 : Value} {tt : Int} (hF : Lim w₀ C) (hb : RV w₀ (Mc C) old vb) (hp : RV w₀ (Mc C) zs vp) (hz1 : RV w₀ (Mc C) d1 vz1) (hl : RV w₀ (Mc C) nw vn) (hz2 : RV w₀ (Mc C) d2 vz2) (hvo : Vld old) (hvn : Vld nw) (hSo : StS cmpH (allW (wayS d1) (splitS old)) zs) (hro : (refsS old).length ≤ 24) (hrw : (refsS nw).length ≤ 24)
    (hm1 : d1.length ≤ 4096) (hO1 : ∀ i (h : i < d1.length), dcsOK d1[i]) (hA1 : ∀ i (h : i + 1 < d1.length), cmpD d1[i] d1[i + 1] < 0) (hm2 : d2.length ≤ 4096) (hO2 : ∀ i (h : i < d2.length), dcsOK d2[i]) (hA2 : ∀ i (h : i + 1 < d2.length), cmpD d2[i] d2[i + 1] < 0) : Calls Tryz.prog 22 #[.agg #[vb, vp, .int .i64 tt], vz1, vn, vz2] w₀ (Ret fun v w' => Stp [] w₀ C w' C ∧ ∃ us va vc, StS cmpH (allW (wayS d2) (splitS nw)) us ∧ v = .tuple #[.agg #[va, vc, .int .i64 (valueB nw us)], .int .i64 ((unkept old d1 d2 nw (splitS nw).length).length : Nat), .int .i64 0] ∧ RV w' (Mc C) nw va ∧ RV w' (Mc C) us vc) := by
 have hPo := (sol_PV (fun i hi => wayS_PV d1 _) hSo).1
 have hzf := sol_few hSo
 have haf := allW_few (l := nw) (ds := d2) (wf := wayS d2) (fun i hi => wayS_PV d2 _)
 have hF0 := hF
 have hT := Stp.refl [2, 3, 4, 5, 6, 7, 8, 9] w₀ (col1 C)
 replace hF := hF.col1
 replace hb := hb.c1
 replace hp := hp.c1
 replace hz1 := hz1.c1
 replace hl := hl.c1
 replace hz2 := hz2.c1
 have hlo := hvo.1
 have hln := hvn.1
 have hrn := refsS_len nw
 have hpl := parts_le nw
 have hsp := splitS_len nw
 refine c_st F22.c0 103 [.agg #[vb, vp, .int .i64 tt], vz1, vn, vz2] Tryz.func22 ?_
 show Run _ _ _ _ [(0, .agg #[vb, vp, .int .i64 tt]), (1, vz1), (2, vn), (3, vz2)] _ _
 refine run_sq (run_pl [nn 0, nn 1, yy 2, yy 3] ?_)
 refine aT (kq 4 (.box 26 (.tmp 0))) rfl rfl (a_box (cs := [vb, vp, .int .i64 tt]) hF 3 rfl rfl) ?_
 rintro _ w1 ⟨Cw1, bw1, rfl, s_1, hx, hF⟩
 refine aT (kq 8 (.alloc 26)) rfl rfl (a_alloc (cs := [.slice none 0 0, .slice none 0 0, .int .i64 0]) hF 4 (by kernel_rfl)) ?_
 rintro _ w2 ⟨Cw2, bw2, rfl, s_2, br, hF⟩
 refine yAc 9 (.int .i64 0) ?_
 refine yAc 10 (.int .i64 0) ?_
 refine Sch.nil (run_sq (run_pl [nn 0, yy 1, yy 2, yy 3, nn 4, yy 5, yy 6, yy 7, nn 8, nn 9, yy 10] ?_))
 replace hx := hx.t s_2
 refine nS (kq 23 (.load 26 (.tmp 4))) rfl rfl trivial (val_loadOwnAgg (n := 3) (vs := [vb, vp, .int .i64 tt]) hx.at_ (by kernel_rfl) (by kernel_rfl) rfl rfl rfl) ?_
 refine yM 24 1 ?_
 refine yM 25 2 ?_
 refine yM 26 3 ?_
 replace hb := (hb.t s_1).t s_2; replace hp := (hp.t s_1).t s_2; replace hz1 := (hz1.t s_1).t s_2; replace hl := (hl.t s_1).t s_2; replace hz2 := (hz2.t s_1).t s_2
 refine cG 27 45 [23, 24, 25, 26] [26, 27, 23, 27] Tryz.call45 rfl (divide_ok (tt := tt) hF hb hp hz1 hl hz2 hvo hvn hPo hm1 hO1 hA1 hm2 hO2 hA2) ?_
 rintro _ w3 ⟨s_3, vq, vu, vk, rfl, hq, hu, hk0⟩
 refine yM 22 27 ?_
 refine yE 28 22 0 ?_
 refine yE 29 22 1 ?_
 replace hF := hF.st s_3
 refine aT (kq 11 (.alloc 97)) rfl rfl (a_alloc (cs := [.slice none 0 0, .slice none 0 0, .slice none 0 0]) hF 5 (by kernel_rfl)) ?_
 rintro _ w4 ⟨Cw4, bw4, rfl, s_4, bd, hF⟩
 replace hq := hq.t s_4; replace hu := hu.t s_4; replace hk0 := hk0.t s_4
 refine aU (k0 (.store 97 (.tmp 11) (.tmp 28))) rfl (a_storeAll (vs := [vq, vu, vk]) (n := 3) rfl rfl (by kernel_rfl) rfl rfl (by intro u hu; simp only [List.mem_cons, List.not_mem_nil, or_false] at hu; rcases hu with rfl | rfl | rfl <;> first | rfl | exact (hq.one rfl).2 | exact (hu.one rfl).2 | exact (hk0.one rfl).2) bd rfl) ?_
 rintro _ w5 ⟨rfl, s_5, bd⟩
 refine yA 12 29 ?_
 refine Sch.nil (run_sq (run_sq (run_pl [yy 0, yy 1] ?_)))
 refine yM 30 12 ?_
 refine yV (kq 31 (.binOp .neq 34 (.tmp 30) (.const (.int .i64 0)) 34)) (fun _ => val_is (val_neq rfl rfl) (show _ = Value.bool false from congrArg Value.bool (decide_eq_false (by decide)))) ?_
 refine Sch.nil (run_cF 31 (run_sk (run_sq (run_pl [yy 0, nn 1, yy 2, nn 3, nn 4] ?_))))
 refine yM 34 2 ?_
 replace hl := ((hl.t s_3).t s_4).t s_5; replace hF := hF.st s_5
 refine cG 35 42 [34] [23] Tryz.call42 rfl (copyB_ok hF hl (by omega)) ?_
 rintro v35 w6 ⟨s_6, hc⟩
 refine yV (kq 36 (.build 26 #[(0, (.tmp 35))])) (fun _ => val_build (zs := [.slice none 0 0, .slice none 0 0, .int .i64 0]) (ps := [(0, 1), (1, 1), (2, 1)]) (qs := [(0, [v35])]) (cs := [v35, .slice none 0 0, .int .i64 0]) (by kernel_rfl) (by kernel_rfl) (by exact ⟨rfl, ⟨_, rfl, (hc.one rfl).1⟩, trivial⟩) rfl) ?_
 replace hF := hF.st s_6
 refine aT (kq 13 (.alloc 26)) rfl rfl (a_alloc (cs := [.slice none 0 0, .slice none 0 0, .int .i64 0]) hF 6 (by kernel_rfl)) ?_
 rintro _ w7 ⟨Cw7, bw7, rfl, s_7, bs, hF⟩
 replace hu := ((hu.t s_5).t s_6).t s_7; replace hc := hc.t s_7
 refine aU (k0 (.store 26 (.tmp 13) (.tmp 36))) rfl (a_storeAll (vs := [v35, .slice none 0 0, .int .i64 0]) (n := 3) rfl rfl (by kernel_rfl) rfl rfl (by intro u hu; simp only [List.mem_cons, List.not_mem_nil, or_false] at hu; rcases hu with rfl | rfl | rfl <;> first | rfl | exact (hc.one rfl).2) bs rfl) ?_
 rintro _ w8 ⟨rfl, s_8, bs⟩
 refine Sch.nil (run_sq (run_pl [yy 0] ?_))
 refine yAc 14 (.int .i64 0) ?_
 refine Sch.nil (run_sq (run_sq (run_pl [yy 0, nn 1, yy 2, yy 3] ?_)))
 refine yF 37 97 11 0 0 ?_
 replace bd := ((bd.t s_6).t s_7).t s_8
 refine nO 38 24 37 bd.at_ rfl rfl ?_
 replace hq := (((hq.t s_5).t s_6).t s_7).t s_8
 refine yS (kq 39 (.call { callee := .builtin .len, args := #[(.tmp 38)], argTypes := #[24] })) rfl rfl (fun w' hS => hq.lenV rfl Tryz.underlying24 w' ) ?_
 refine yC 40 (.int .i64 0) ?_
 refine Sch.nil (run_bk 0 ?_)
 refine run_lp (ι := Nat × Nat × (List (List Couple)) × Value × (Nat → Nat)) (I := fun x w => x.1 ≤ (splitS nw).length ∧ x.2.1 = (unkept old d1 d2 nw x.1).length ∧ List.Perm x.2.2.1 (allW (wayS d2) ((splitS nw).take x.1)) ∧ Lim w x.2.2.2.2 ∧ Stp [2, 3, 4, 5, 6, 7, 8, 9] w₀ (col1 C) w x.2.2.2.2 ∧ RV w (Mc x.2.2.2.2) zs vp ∧ RV w (Mc x.2.2.2.2) d2 vz2 ∧ RV w (Mc x.2.2.2.2) nw v35 ∧ RV w (Mc x.2.2.2.2) (partsS nw) vq ∧ RV w (Mc x.2.2.2.2) (splitS nw) vu ∧ RV w (Mc x.2.2.2.2) (keptL old d1 d2 nw (splitS nw).length) vk ∧ OwnB w x.2.2.2.2 3 bw1 (.cells [vb, vp, .int .i64 tt].toArray 26) ∧ OwnB w x.2.2.2.2 4 bw2 (.cells [.slice none 0 0, .slice none 0 0, .int .i64 0].toArray 26) ∧ OwnB w x.2.2.2.2 5 bw4 (.cells [vq, vu, vk].toArray 97) ∧ OwnB w x.2.2.2.2 6 bw7 (.cells [v35, x.2.2.2.1, .int .i64 0].toArray 26) ∧ OwnL w x.2.2.2.2 7 52 x.2.2.2.1 x.2.2.1) (e := fun x => [(3, vz2), (4, .pointer (some ⟨bw1, 0, none⟩)), (8, .pointer (some ⟨bw2, 0, none⟩)), (11, .pointer (some ⟨bw4, 0, none⟩)), (13, .pointer (some ⟨bw7, 0, none⟩)), (14, .int .i64 (x.2.1 : Nat)), (38, vq), (39, .int .i64 (splitS nw).length), (40, .int .i64 x.1)]) (m := fun x => (splitS nw).length - x.1) (x₀ := (0, 0, [], .slice none 0 0, Cw7)) (sr 3 (sr 4 (sr 8 (sr 11 (sr 13 (sr 14 (sr 38 (sub_cons 39 rfl (eq_int (by rw [splitS_len])) (sr 40 (sub_nil _)))))))))) ?_ ?_
 ·
   replace hT := (((((((hT.t s_1).t s_2).t s_3).t s_4).t s_5).t s_6).t s_7).t s_8; replace hp := (((((hp.t s_3).t s_4).t s_5).t s_6).t s_7).t s_8; replace hz2 := (((((hz2.t s_3).t s_4).t s_5).t s_6).t s_7).t s_8; replace hx := (((((hx.t s_3).t s_4).t s_5).t s_6).t s_7).t s_8; replace br := (((((br.t s_3).t s_4).t s_5).t s_6).t s_7).t s_8; replace hk0 := (((hk0.t s_5).t s_6).t s_7).t s_8; replace hF := hF.st s_8; replace hu := hu.t s_8; replace hc := hc.t s_8
   exact ⟨Nat.zero_le _, by simp [unkept], by simp [allW], hF, hT, hp, hz2, hc, hq, hu, hk0, hx, br, bd, bs, OwnL.nil⟩
 intro ⟨k, sv, pl, vo, C1⟩ w9 hI next1
 obtain ⟨hk, hsv, hpm, hF, hT, hp, hz2, hc, hq, hu, hk0, hx, br, bd, bs, ho⟩ := hI
 try simp only at hk hsv hpm hF hT hp hz2 hc hq hu hk0 hx br bd bs ho
 show Run _ _ _ _ [(3, vz2), (4, .pointer (some ⟨bw1, 0, none⟩)), (8, .pointer (some ⟨bw2, 0, none⟩)), (11, .pointer (some ⟨bw4, 0, none⟩)), (13, .pointer (some ⟨bw7, 0, none⟩)), (14, .int .i64 (sv : Nat)), (38, vq), (39, .int .i64 (splitS nw).length), (40, .int .i64 k)] _ _
 have hle := hq.le
 have hkn := unkept_le (old := old) (d1 := d1) (d2 := d2) (nw := nw) k
 have hka := keptL_all_len (old := old) (d1 := d1) (d2 := d2) (nw := nw)
 have hpl1 := hpm.length_eq
 have hal := allW_le (wf := wayS d2) (ps := (splitS nw)) k
 refine run_sq (run_pl [yy 0] ?_)
 refine yL 41 3 40 39 ?_
 refine Sch.nil (run_sq ?_)
 refine run_i 41 rfl (fun h41 => ?_) (fun h41 => ?_)
 ·
  have hkl : k < (splitS nw).length := by omega
  have hkp : k < (partsS nw).length := by omega
  have hkk : k < (keptL old d1 d2 nw (splitS nw).length).length := by omega
  have hnx := unkept_next (old := old) (d1 := d1) (d2 := d2) hkl
  refine run_sk (run_sq (run_bk 1 (run_sq (run_pl [yy 0, yy 1, nn 2, yy 3, yy 4] ?_))))
  refine yM 42 40 ?_
  refine iR 52 43 24 38 40 hq rfl (h := ?_)
  intro b43 o43 h43
  try simp only [Int.toNat_natCast] at h43
  refine lN (kq 44 (.load 52 (.tmp 43))) rfl rfl trivial h43 (by kernel_rfl) rfl rfl ?_
  intro v44 g44
  rw [← split_refs hkl hkp] at g44
  refine yA 15 42 ?_
  refine yA 16 44 ?_
  refine Sch.nil (run_sq (run_sq (run_pl [yy 0, nn 1, yy 2, yy 3, nn 4] ?_)))
  refine yF 45 97 11 2 2 ?_
  refine nO 46 81 45 bd.at_ rfl rfl ?_
  refine yM 47 15 ?_
  refine iR 4 48 81 46 47 hk0 rfl (h := ?_)
  intro b48 o48 h48
  try simp only [Int.toNat_natCast] at h48
  refine lN (kq 49 (.load 4 (.tmp 48))) rfl rfl trivial h48 (by kernel_rfl) rfl rfl ?_
  intro v49 g49
  obtain rfl := rv_bool.1 g49
  simp only [Int.toNat_natCast, keptL_at hkl hkk]
  refine Sch.nil ?_
  refine run_c 49 rfl (fun h49 => ?_) (fun h49 => ?_)
  ·
   rw [if_pos h49] at hnx
   refine run_sq (run_sq (run_pl [yy 0, nn 1, yy 2, yy 3] ?_))
   refine yF 50 26 4 1 1 ?_
   refine nO 51 24 50 hx.at_ rfl rfl ?_
   refine yS (kq 52 (.call { callee := .builtin .len, args := #[(.tmp 51)], argTypes := #[24] })) rfl rfl (fun w' hS => hp.lenV rfl Tryz.underlying24 w' ) ?_
   refine yC 53 (.int .i64 0) ?_
   refine Sch.nil (run_bk 2 ?_)
   refine run_lp (ι := Nat × Value × (Nat → Nat)) (I := fun x w => x.1 ≤ zs.length ∧ Lim w x.2.2 ∧ Stp [2, 3, 4, 5, 6, 7, 8, 9] w₀ (col1 C) w x.2.2 ∧ RV w (Mc x.2.2) zs vp ∧ RV w (Mc x.2.2) d2 vz2 ∧ RV w (Mc x.2.2) nw v35 ∧ RV w (Mc x.2.2) (partsS nw) vq ∧ RV w (Mc x.2.2) (splitS nw) vu ∧ RV w (Mc x.2.2) (keptL old d1 d2 nw (splitS nw).length) vk ∧ OwnB w x.2.2 3 bw1 (.cells [vb, vp, .int .i64 tt].toArray 26) ∧ OwnB w x.2.2 4 bw2 (.cells [.slice none 0 0, .slice none 0 0, .int .i64 0].toArray 26) ∧ OwnB w x.2.2 5 bw4 (.cells [vq, vu, vk].toArray 97) ∧ OwnB w x.2.2 6 bw7 (.cells [v35, x.2.1, .int .i64 0].toArray 26) ∧ RV w (Mc x.2.2) (refsS ((splitS nw)[k]'hkl)) v44 ∧ OwnL w x.2.2 7 52 x.2.1 (pl ++ oldIn (zs.take x.1) (refsS ((splitS nw)[k]'hkl)))) (e := fun x => [(3, vz2), (4, .pointer (some ⟨bw1, 0, none⟩)), (8, .pointer (some ⟨bw2, 0, none⟩)), (11, .pointer (some ⟨bw4, 0, none⟩)), (13, .pointer (some ⟨bw7, 0, none⟩)), (14, .int .i64 (sv : Nat)), (16, v44), (38, vq), (39, .int .i64 (splitS nw).length), (40, .int .i64 k), (51, vp), (52, .int .i64 zs.length), (53, .int .i64 x.1)]) (m := fun x => zs.length - x.1) (x₀ := (0, vo, C1)) (sr 3 (sr 4 (sr 8 (sr 11 (sr 13 (sr 14 (sr 16 (sr 38 (sr 39 (sr 40 (sr 51 (sr 52 (sr 53 (sub_nil _)))))))))))))) ?_ ?_
   · exact ⟨Nat.zero_le _, hF, hT, hp, hz2, hc, hq, hu, hk0, hx, br, bd, bs, g44, by simpa [oldIn] using ho⟩
   intro ⟨q, vo, C1⟩ w10 hI next2
   obtain ⟨hq2, hF, hT, hp, hz2, hc, hq, hu, hk0, hx, br, bd, bs, g44, ho⟩ := hI
   try simp only at hq2 hF hT hp hz2 hc hq hu hk0 hx br bd bs g44 ho
   show Run _ _ _ _ [(3, vz2), (4, .pointer (some ⟨bw1, 0, none⟩)), (8, .pointer (some ⟨bw2, 0, none⟩)), (11, .pointer (some ⟨bw4, 0, none⟩)), (13, .pointer (some ⟨bw7, 0, none⟩)), (14, .int .i64 (sv : Nat)), (16, v44), (38, vq), (39, .int .i64 (splitS nw).length), (40, .int .i64 k), (51, vp), (52, .int .i64 zs.length), (53, .int .i64 q)] _ _
   have hle2 := hp.le
   have hoi := oldIn_len (zs := zs) (s := refsS ((splitS nw)[k]'hkl)) q
   refine run_sq (run_pl [yy 0] ?_)
   refine yL 54 3 53 52 ?_
   refine Sch.nil (run_sq ?_)
   refine run_i 54 rfl (fun h54 => ?_) (fun h54 => ?_)
   ·
    have hql : q < zs.length := by omega
    have hy2 := hPo.len _ (List.getElem_mem hql)
    have hy0 : 0 < (zs[q]'hql).length := by omega
    have hnq := oldIn_next (s := refsS ((splitS nw)[k]'hkl)) hql
    rw [head_at hy0] at hnq
    refine run_sk (run_sq (run_bk 3 (run_sq (run_pl [yy 0, nn 1, yy 2] ?_))))
    refine iR 52 55 24 51 53 hp rfl (h := ?_)
    intro b55 o55 h55
    try simp only [Int.toNat_natCast] at h55
    refine lN (kq 56 (.load 52 (.tmp 55))) rfl rfl trivial h55 (by kernel_rfl) rfl rfl ?_
    intro v56 g56
    refine yA 18 56 ?_
    refine Sch.nil (run_sq (run_pl [yy 0, yy 1, yy 2, nn 3, nn 4] ?_))
    refine yM 57 16 ?_
    refine yM 58 18 ?_
    refine iS (e := 55) (kq 59 (.indexAddr 52 (.tmp 58) (.const (.int .i64 0)))) rfl rfl g56 rfl (by kernel_rfl) rfl (by omega) (by omega) ?_
    intro b59 o59 h59
    try simp only [Int.toNat_natCast] at h59
    refine lNA (kq 60 (.load 55 (.tmp 59))) rfl rfl trivial h59 (by kernel_rfl) (by kernel_rfl) rfl rfl ?_
    intro v60 g60
    obtain rfl := rv_couple.1 g60
    refine cG 61 49 [57, 60] [52, 55] Tryz.call49 rfl (contains_ok (c := (zs[q]'hql)[0]'hy0) hF g44) ?_
    rintro vw11 w11 ⟨rfl, s_9⟩
    rw [any_dec]
    refine Sch.nil ?_
    refine run_i 61 rfl (fun h61 => ?_) (fun h61 => ?_)
    ·
     rw [if_pos h61] at hnq
     refine run_pl [yy 0, nn 1, yy 2, nn 3, nn 4, yy 5, nn 6] ?_
     refine yF 62 26 13 1 1 ?_
     replace bs := bs.t s_9
     refine nO 63 24 62 bs.at_ rfl rfl ?_
     refine yM 64 18 ?_
     replace hF := hF.st s_9; replace g56 := g56.t s_9
     refine aT (kq 65 (.buildSlice 24 1 #[(0, (.tmp 64))])) rfl rfl (a_buildSlice (ys := ([(zs[q]'hql)] : List (List Couple))) (e := 52) (bytes := 24) hF (by kernel_rfl) rfl (by decide) (by decide) ⟨rfl, ⟨_, rfl, g56⟩, trivial⟩) ?_
     rintro v65 w12 ⟨s_10, g65, hF⟩
     replace ho := (ho.t s_9).t s_10
     refine aT (kq 66 (.call { callee := .builtin .append, args := #[(.tmp 63), (.tmp 65)], argTypes := #[24, 24] })) rfl rfl (a_append (e := 52) (bytes := 24) hF (by decide) rfl rfl (by kernel_rfl) (by decide) ho g65 (by simp only [List.length_cons, List.length_nil, List.length_append]; omega) (by simp only [List.length_cons, List.length_nil, List.length_append]; omega)) ?_
     rintro v66 w13 ⟨Cw13, s_11, ho, hF⟩
     refine yF 67 26 13 1 1 ?_
     replace bs := (bs.t s_10).t s_11
     refine aU (k0 (.store 24 (.tmp 67) (.tmp 66))) rfl (a_store1 rfl rfl (by kernel_rfl) ho.one.1 ho.one.2 bs (by simp)) ?_
     rintro _ w14 ⟨rfl, s_12, bs⟩
     replace bs : OwnB _ _ 6 _ (.cells ([v35, v66, .int .i64 0]).toArray 26) := bs
     refine Sch.nil (run_inBlock (run_pl [yy 0, yy 1] ?_))
     refine yI 68 3 53 1 ?_
     refine yM 53 68 ?_
     refine Sch.nil ?_
     replace hT := (((hT.t s_9).t s_10).t s_11).t s_12; replace hp := (((hp.t s_9).t s_10).t s_11).t s_12; replace hz2 := (((hz2.t s_9).t s_10).t s_11).t s_12; replace hc := (((hc.t s_9).t s_10).t s_11).t s_12; replace hq := (((hq.t s_9).t s_10).t s_11).t s_12; replace hu := (((hu.t s_9).t s_10).t s_11).t s_12; replace hk0 := (((hk0.t s_9).t s_10).t s_11).t s_12; replace hx := (((hx.t s_9).t s_10).t s_11).t s_12; replace br := (((br.t s_9).t s_10).t s_11).t s_12; replace bd := (((bd.t s_9).t s_10).t s_11).t s_12; replace g44 := (((g44.t s_9).t s_10).t s_11).t s_12; replace hF := hF.st s_12; replace ho := ho.t s_12
     refine kp (sr 3 (sr 4 (sr 8 (sr 11 (sr 13 (sr 14 (sr 16 (sr 38 (sr 39 (sr 40 (sr 51 (sr 52 (sub_cons 53 rfl (eq_int (by simp)) (sub_nil _)))))))))))))) (next2 (q + 1, v66, Cw13) _ ⟨(by first | omega | (simp only; omega)), hF, hT, hp, hz2, hc, hq, hu, hk0, hx, br, bd, bs, g44, (by simp only; rw [hnq, ← List.append_assoc]; exact ho)⟩ (by first | omega | (simp only; omega)))
    rw [if_neg h61] at hnq
    refine run_sk (run_inBlock (run_pl [yy 0, yy 1] ?_))
    refine yI 68 3 53 1 ?_
    refine yM 53 68 ?_
    refine Sch.nil ?_
    replace hF := hF.st s_9; replace hT := hT.t s_9; replace hp := hp.t s_9; replace hz2 := hz2.t s_9; replace hc := hc.t s_9; replace hq := hq.t s_9; replace hu := hu.t s_9; replace hk0 := hk0.t s_9; replace hx := hx.t s_9; replace br := br.t s_9; replace bd := bd.t s_9; replace bs := bs.t s_9; replace g44 := g44.t s_9; replace ho := ho.t s_9
    refine kp (sr 3 (sr 4 (sr 8 (sr 11 (sr 13 (sr 14 (sr 16 (sr 38 (sr 39 (sr 40 (sr 51 (sr 52 (sub_cons 53 rfl (eq_int (by simp)) (sub_nil _)))))))))))))) (next2 (q + 1, vo, C1) _ ⟨(by first | omega | (simp only; omega)), hF, hT, hp, hz2, hc, hq, hu, hk0, hx, br, bd, bs, g44, (by simp only; rw [hnq]; exact ho)⟩ (by first | omega | (simp only; omega)))
   have hql : q = zs.length := by omega
   rw [hql, List.take_length] at ho
   refine run_ex 2 ?_
   refine run_ex 1 ?_
   refine run_pl [yy 0, yy 1] ?_
   refine yI 87 3 40 1 ?_
   refine yM 40 87 ?_
   refine Sch.nil ?_
   refine kp (sr 3 (sr 4 (sr 8 (sr 11 (sr 13 (sr 14 (sr 38 (sr 39 (sub_cons 40 rfl (eq_int (by simp)) (sub_nil _)))))))))) (next1 (k + 1, sv, pl ++ oldIn zs (refsS ((splitS nw)[k]'hkl)), vo, C1) _ ⟨(by first | omega | (simp only; omega)), (by simp only; rw [hnx, hsv]), (gather hkl hpm (kept_perm hSo hkl h49)), hF, hT, hp, hz2, hc, hq, hu, hk0, hx, br, bd, bs, ho⟩ (by first | omega | (simp only; omega)))
  rw [if_neg (by rw [h49]; decide)] at hnx
  have hnl := congrArg List.length hnx
  rw [List.length_append] at hnl
  simp only [List.length_cons, List.length_nil] at hnl
  have hkn2 := unkept_le (old := old) (d1 := d1) (d2 := d2) (nw := nw) (k + 1)
  have hvp := split_vld hvn hkl
  have hrp := split_refsl hkl
  refine run_sk (run_sq (run_pl [yy 0, yy 1, yy 2] ?_))
  refine yM 69 14 ?_
  refine yI 70 3 69 1 ?_
  refine yA 14 70 ?_
  refine Sch.nil (run_sq (run_pl [yy 0, nn 1, yy 2, yy 3, nn 4, yy 5, nn 6, yy 7, yy 8, yy 9, yy 10, yy 11, yy 12, yy 13] ?_))
  refine yF 72 97 11 1 1 ?_
  refine nO 73 39 72 bd.at_ rfl rfl ?_
  refine yM 74 15 ?_
  refine iR 23 75 39 73 74 hu rfl (h := ?_)
  intro b75 o75 h75
  try simp only [Int.toNat_natCast] at h75
  refine lN (kq 76 (.load 23 (.tmp 75))) rfl rfl trivial h75 (by kernel_rfl) rfl rfl ?_
  intro v76 g76
  refine yM 77 3 ?_
  refine cG 78 41 [76, 77] [23, 27] Tryz.call41 rfl (solveS_ok (ds := d2) hF g76 hz2 hvp (by omega) hm2 hO2 hA2) ?_
  rintro _ w15 ⟨s_13, zs2, vp2, hSt2, rfl, hp2⟩
  have hz2l := sol_few hSt2
  refine yM 71 78 ?_
  refine yE 79 71 0 ?_
  refine yE 80 71 1 ?_
  refine yE 81 71 2 ?_
  refine yA 19 79 ?_
  refine yA 20 80 ?_
  refine yA 21 81 ?_
  refine Sch.nil (run_pl [yy 0, nn 1, yy 2, nn 3, yy 4, nn 5] ?_)
  refine yF 82 26 13 1 1 ?_
  replace bs := bs.t s_13
  refine nO 83 24 82 bs.at_ rfl rfl ?_
  refine yM 84 19 ?_
  replace hF := hF.st s_13; replace ho := ho.t s_13
  refine aT (kq 85 (.call { callee := .builtin .append, args := #[(.tmp 83), (.tmp 84)], argTypes := #[24, 24] })) rfl rfl (a_append (e := 52) (bytes := 24) hF (by decide) rfl rfl (by kernel_rfl) (by decide) ho hp2 (by omega) (by omega)) ?_
  rintro v85 w16 ⟨Cw16, s_14, ho, hF⟩
  refine yF 86 26 13 1 1 ?_
  replace bs := bs.t s_14
  refine aU (k0 (.store 24 (.tmp 86) (.tmp 85))) rfl (a_store1 rfl rfl (by kernel_rfl) ho.one.1 ho.one.2 bs (by simp)) ?_
  rintro _ w17 ⟨rfl, s_15, bs⟩
  replace bs : OwnB _ _ 6 _ (.cells ([v35, v85, .int .i64 0]).toArray 26) := bs
  refine Sch.nil (run_inBlock (run_pl [yy 0, yy 1] ?_))
  refine yI 87 3 40 1 ?_
  refine yM 40 87 ?_
  refine Sch.nil ?_
  replace hT := ((hT.t s_13).t s_14).t s_15; replace hp := ((hp.t s_13).t s_14).t s_15; replace hz2 := ((hz2.t s_13).t s_14).t s_15; replace hc := ((hc.t s_13).t s_14).t s_15; replace hq := ((hq.t s_13).t s_14).t s_15; replace hu := ((hu.t s_13).t s_14).t s_15; replace hk0 := ((hk0.t s_13).t s_14).t s_15; replace hx := ((hx.t s_13).t s_14).t s_15; replace br := ((br.t s_13).t s_14).t s_15; replace bd := ((bd.t s_13).t s_14).t s_15; replace hF := hF.st s_15; replace ho := ho.t s_15
  refine kp (sr 3 (sr 4 (sr 8 (sr 11 (sr 13 (sub_cons 14 rfl (eq_int (by simp)) (sr 38 (sr 39 (sub_cons 40 rfl (eq_int (by simp)) (sub_nil _)))))))))) (next1 (k + 1, sv + 1, pl ++ zs2, v85, Cw16) _ ⟨(by first | omega | (simp only; omega)), (by simp only; rw [hnl, hsv]), (gather hkl hpm (anew_perm hkl hSt2)), hF, hT, hp, hz2, hc, hq, hu, hk0, hx, br, bd, bs, ho⟩ (by first | omega | (simp only; omega)))
 have hkl : k = (splitS nw).length := by omega
 rw [hkl, List.take_length] at hpm
 rw [hkl] at hsv hkn
 have hmem : ∀ x ∈ pl, x ∈ allW (wayS d2) (splitS nw) := fun x hx => hpm.mem_iff.1 hx
 have hPy : ∀ x ∈ pl, 0 < x.length := fun x hx => by have := allW_len2 (fun i hi => wayS_PV d2 _) x (hmem x hx); omega
 have hll : ∀ x ∈ pl, x.length ≤ 1000000 := fun x hx => by have := allW_plen (hmem x hx); omega
 have hpl3 : pl.length ≤ 12 := by rw [hpl1, hkl, List.take_length]; omega
 refine run_ex 0 ?_
 refine run_sq (run_pl [yy 0, nn 1, nn 2, yy 3, nn 4] ?_)
 replace hF := hF.frz 7
 replace hT := hT.frz (n := 7) (fun b => Nat.lt_of_lt_of_le (col1_lt2 C b) (by decide))
 replace hp := hp.frz 7
 replace hz2 := hz2.frz 7
 replace hc := hc.frz 7
 replace hq := hq.frz 7
 replace hu := hu.frz 7
 replace hk0 := hk0.frz 7
 replace hx := hx.frz (n := 7) (by decide)
 replace br := br.frz (n := 7) (by decide)
 replace bd := bd.frz (n := 7) (by decide)
 replace bs := bs.frz (n := 7) (by decide)
 have ho_ := ho.frz (n := 7) (by decide) (by omega)
 replace ho := ho_
 clear ho_
 refine yF 88 26 13 1 1 ?_
 refine nO 89 24 88 bs.at_ rfl rfl ?_
 refine cG 90 50 [89] [24] Tryz.call50 rfl (persons_ok (j := 8) hF ho hll (by omega) (by decide)) ?_
 rintro v90 w18 ⟨Cn, s_16, hF, hn⟩
 refine yF 91 26 13 1 1 ?_
 replace bs := bs.t s_16
 refine aU (k0 (.store 24 (.tmp 91) (.tmp 90))) rfl (a_store1 rfl rfl (by kernel_rfl) hn.one.1 hn.one.2 bs (by simp)) ?_
 rintro _ w19 ⟨rfl, s_17, bs⟩
 replace bs : OwnB _ _ 6 _ (.cells ([v35, v90, .int .i64 0]).toArray 26) := bs
 refine Sch.nil (run_sq (run_pl [yy 0, nn 1, nn 2] ?_))
 refine yF 92 26 13 1 1 ?_
 refine nO 93 24 92 bs.at_ rfl rfl ?_
 replace hF := hF.st s_17; replace hn := hn.t s_17
 refine cT (kq 94 (.call { callee := .value (.func 51), args := #[(.tmp 93), (.func 52)], argTypes := #[24, 108] })) rfl rfl (ent Tryz.call51 rfl) (sortA_ok hF (by decide) hn hPy hpl3) ?_
 rintro vw20 w20 ⟨rfl, us, hSu, s_18, hn, hF⟩
 have hsu := again_sts hpm hSu
 have hul := hSu.len
 refine Sch.nil (run_sq (run_pl [yy 0, nn 1, yy 2, nn 3, nn 4, yy 5, nn 6] ?_))
 refine yF 95 26 13 0 0 ?_
 replace bs := bs.t s_18
 refine nO 96 23 95 bs.at_ rfl rfl ?_
 refine yF 97 26 13 1 1 ?_
 refine nO 98 24 97 bs.at_ rfl rfl ?_
 replace hc := ((hc.t s_16).t s_17).t s_18
 refine cG 99 54 [96, 98] [23, 24] Tryz.call54 rfl (value_ok (C := C0) (lim00 _) hc.c0 (hn.rv0 (by omega)) (okB_w hvn) hln) ?_
 rintro _ w21 ⟨rfl, s_19⟩
 replace s_19 := s_19.re (Cn)
 refine yF 100 26 13 2 2 ?_
 replace bs := bs.t s_19
 refine aU (k0 (.store 3 (.tmp 100) (.tmp 99))) rfl (a_store1 rfl rfl (by kernel_rfl) rfl rfl bs (by simp)) ?_
 rintro _ w22 ⟨rfl, s_20, bs⟩
 replace bs : OwnB _ _ 6 _ (.cells ([v35, v90, .int .i64 (valueB nw us)]).toArray 26) := bs
 refine Sch.nil (run_sq (run_pl [nn 0, yy 1, nn 2, yy 3, yy 4] ?_))
 refine nS (kq 101 (.load 26 (.tmp 13))) rfl rfl trivial (val_loadOwnAgg (n := 3) (vs := [v35, v90, .int .i64 (valueB nw us)]) bs.at_ (by kernel_rfl) (by kernel_rfl) rfl rfl rfl) ?_
 refine yM 102 14 ?_
 replace hu := ((((hu.t s_16).t s_17).t s_18).t s_19).t s_20; replace br := ((((br.t s_16).t s_17).t s_18).t s_19).t s_20; replace hc := (hc.t s_19).t s_20; replace hn := (hn.t s_19).t s_20
 refine aU (k0 (.store 26 (.tmp 8) (.tmp 101))) rfl (a_storeAll (vs := [v35, v90, .int .i64 (valueB nw us)]) (n := 3) rfl rfl (by kernel_rfl) rfl rfl (by intro u hu; simp only [List.mem_cons, List.not_mem_nil, or_false] at hu; rcases hu with rfl | rfl | rfl <;> first | rfl | exact (hc.one rfl).2 | exact hn.one.2) br rfl) ?_
 rintro _ w23 ⟨rfl, s_21, br⟩
 refine yA 9 102 ?_
 refine yAc 10 (.int .i64 0) ?_
 refine Sch.nil ?_
 refine run_retCTT (by kernel_rfl) Tryz.func22 Tryz.results22 rfl rfl rfl br.at_ (by kernel_rfl) (by kernel_rfl) rfl ?_
 replace hT := (((((hT.t s_16).t s_17).t s_18).t s_19).t s_20).t s_21; replace hc := hc.t s_21; replace hn := hn.t s_21
 exact ⟨hT.out1 (by decide), us, _, _, hsu, by rw [hsv], hc.out hT hF0 (Mc_col1 C), hn.out hT hF0 (Mc_col1 C) (fun b _ => col1_lt C (by decide) b) (by omega)⟩
end
end Go.Proofs.YtmdhggfehknjjaaGreat
