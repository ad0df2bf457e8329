/- Steps through functions of the program. -/
import Derived.Test.YtmdhggfehknjjaaGreatJH7
set_option linter.unusedVariables false
set_option linter.unusedSimpArgs false
set_option maxRecDepth 100000
set_option maxHeartbeats 4000000
namespace Go.Proofs.YtmdhggfehknjjaaGreat
open Go.K Go.K.Rep
noncomputable section
namespace F20
def c0 := bodyOf Tryz.f20
end F20
theorem touched_ok {w₀ : World} {C : Nat → Nat} {old nw : List Bond} {d1 d2 : List Dcs} {zs : List (List Couple)} {vb vp vz1 vn vz2 : Value} {tt : Int} (hF : Lim w₀ C) (hb : RV w₀ (Mc C) old vb) (hp : RV w₀ (Mc C) zs vp) (hz1 : RV w₀ (Mc C) d1 vz1) (hl : RV w₀ (Mc C) nw vn) (hz2 : RV w₀ (Mc C) d2 vz2) (hvo : Vld old) (hvn : Vld nw) (hPo : PV old d1 zs)
    (hm1 : d1.length ≤ 4096) (hO1 : ∀ i (h : i < d1.length), dcsOK d1[i]) (hA1 : ∀ i (h : i + 1 < d1.length), cmpD d1[i] d1[i + 1] < 0) (hm2 : d2.length ≤ 4096) (hO2 : ∀ i (h : i < d2.length), dcsOK d2[i]) (hA2 : ∀ i (h : i + 1 < d2.length), cmpD d2[i] d2[i + 1] < 0) : Calls Tryz.prog 20 #[.agg #[vb, vp, .int .i64 tt], vz1, vn, vz2] w₀ (Ret fun v w' => Stp [] w₀ C w' C ∧ ∃ vt, v = .tuple #[vt, .int .i64 0] ∧ RV w' (Mc C) (unkept old d1 d2 nw (splitS nw).length) vt) := by
 have hF0 := hF
 have hT := Stp.refl [2, 3, 4, 5, 6, 7, 8, 9] w₀ (col1 C)
 replace hF := hF.col1
 replace hb := hb.c1
 replace hp := hp.c1
 replace hz1 := hz1.c1
 replace hl := hl.c1
 replace hz2 := hz2.c1
 have hlo := hvo.1
 have hln := hvn.1
 have hrn := refsS_len nw
 have hpl := parts_le nw
 have hsp := splitS_len nw
 refine c_st F20.c0 46 [.agg #[vb, vp, .int .i64 tt], vz1, vn, vz2] Tryz.func20 ?_
 show Run _ _ _ _ [(0, .agg #[vb, vp, .int .i64 tt]), (1, vz1), (2, vn), (3, vz2)] _ _
 refine run_sq (run_pl [nn 0, yy 1, yy 2] ?_)
 refine aT (kq 4 (.box 26 (.tmp 0))) rfl rfl (a_box (cs := [vb, vp, .int .i64 tt]) hF 3 rfl rfl) ?_
 rintro _ w1 ⟨Cw1, bw1, rfl, s_1, hx, hF⟩
 refine yV (kq 8 (.assign (.const (.slice none 0 0)))) (fun _ => val_assign rfl) ?_
 refine yAc 9 (.int .i64 0) ?_
 refine Sch.nil (run_sq (run_pl [nn 0, yy 1, yy 2, yy 3, nn 4, yy 5, yy 6, yy 7, nn 8, nn 9, yy 10] ?_))
 refine nS (kq 16 (.load 26 (.tmp 4))) rfl rfl trivial (val_loadOwnAgg (n := 3) (vs := [vb, vp, .int .i64 tt]) hx.at_ (by kernel_rfl) (by kernel_rfl) rfl rfl rfl) ?_
 refine yM 17 1 ?_
 refine yM 18 2 ?_
 refine yM 19 3 ?_
 replace hb := hb.t s_1; replace hp := hp.t s_1; replace hz1 := hz1.t s_1; replace hl := hl.t s_1; replace hz2 := hz2.t s_1
 refine cG 20 45 [16, 17, 18, 19] [26, 27, 23, 27] Tryz.call45 rfl (divide_ok (tt := tt) hF hb hp hz1 hl hz2 hvo hvn hPo hm1 hO1 hA1 hm2 hO2 hA2) ?_
 rintro _ w2 ⟨s_2, vq, vu, vk, rfl, hq, hu, hk0⟩
 refine yM 15 20 ?_
 refine yE 21 15 0 ?_
 refine yE 22 15 1 ?_
 replace hF := hF.st s_2
 refine aT (kq 10 (.alloc 97)) rfl rfl (a_alloc (cs := [.slice none 0 0, .slice none 0 0, .slice none 0 0]) hF 4 (by kernel_rfl)) ?_
 rintro _ w3 ⟨Cw3, bw3, rfl, s_3, bd, hF⟩
 replace hq := hq.t s_3; replace hu := hu.t s_3; replace hk0 := hk0.t s_3
 refine aU (k0 (.store 97 (.tmp 10) (.tmp 21))) rfl (a_storeAll (vs := [vq, vu, vk]) (n := 3) rfl rfl (by kernel_rfl) rfl rfl (by intro u hu; simp only [List.mem_cons, List.not_mem_nil, or_false] at hu; rcases hu with rfl | rfl | rfl <;> first | rfl | exact (hq.one rfl).2 | exact (hu.one rfl).2 | exact (hk0.one rfl).2) bd rfl) ?_
 rintro _ w4 ⟨rfl, s_4, bd⟩
 refine yA 11 22 ?_
 refine Sch.nil (run_sq (run_sq (run_pl [yy 0, yy 1] ?_)))
 refine yM 23 11 ?_
 refine yV (kq 24 (.binOp .neq 34 (.tmp 23) (.const (.int .i64 0)) 34)) (fun _ => val_is (val_neq rfl rfl) (show _ = Value.bool false from congrArg Value.bool (decide_eq_false (by decide)))) ?_
 refine Sch.nil (run_cF 24 (run_sk (run_sq (run_pl [yy 0] ?_))))
 refine yV (kq 12 (.assign (.const (.slice none 0 0)))) (fun _ => val_assign rfl) ?_
 refine Sch.nil (run_sq (run_sq (run_pl [yy 0, nn 1, yy 2, yy 3] ?_)))
 refine yF 26 97 10 0 0 ?_
 refine nO 27 24 26 bd.at_ rfl rfl ?_
 replace hq := hq.t s_4
 refine yS (kq 28 (.call { callee := .builtin .len, args := #[(.tmp 27)], argTypes := #[24] })) rfl rfl (fun w' hS => hq.lenV rfl Tryz.underlying24 w' ) ?_
 refine yC 29 (.int .i64 0) ?_
 refine Sch.nil (run_bk 0 ?_)
 refine run_lp (ι := Nat × Value × (Nat → Nat)) (I := fun x w => x.1 ≤ (splitS nw).length ∧ Lim w x.2.2 ∧ Stp [2, 3, 4, 5, 6, 7, 8, 9] w₀ (col1 C) w x.2.2 ∧ RV w (Mc x.2.2) (partsS nw) vq ∧ RV w (Mc x.2.2) (keptL old d1 d2 nw (splitS nw).length) vk ∧ OwnB w x.2.2 4 bw3 (.cells [vq, vu, vk].toArray 97) ∧ OwnL w x.2.2 6 52 x.2.1 (unkept old d1 d2 nw x.1)) (e := fun x => [(9, .int .i64 0), (10, .pointer (some ⟨bw3, 0, none⟩)), (12, x.2.1), (27, vq), (28, .int .i64 (splitS nw).length), (29, .int .i64 x.1)]) (m := fun x => (splitS nw).length - x.1) (x₀ := (0, .slice none 0 0, Cw3)) (sr 9 (sr 10 (sr 12 (sr 27 (sub_cons 28 rfl (eq_int (by rw [splitS_len])) (sr 29 (sub_nil _))))))) ?_ ?_
 ·
   replace hT := (((hT.t s_1).t s_2).t s_3).t s_4; replace hF := hF.st s_4; replace hk0 := hk0.t s_4
   exact ⟨Nat.zero_le _, hF, hT, hq, hk0, bd, OwnL.nil⟩
 intro ⟨k, vo, C1⟩ w5 hI next1
 obtain ⟨hk, hF, hT, hq, hk0, bd, ho⟩ := hI
 try simp only at hk hF hT hq hk0 bd ho
 show Run _ _ _ _ [(9, .int .i64 0), (10, .pointer (some ⟨bw3, 0, none⟩)), (12, vo), (27, vq), (28, .int .i64 (splitS nw).length), (29, .int .i64 k)] _ _
 have hle := hq.le
 have hkn := unkept_le (old := old) (d1 := d1) (d2 := d2) (nw := nw) k
 have hka := keptL_all_len (old := old) (d1 := d1) (d2 := d2) (nw := nw)
 refine run_sq (run_pl [yy 0] ?_)
 refine yL 30 3 29 28 ?_
 refine Sch.nil (run_sq ?_)
 refine run_i 30 rfl (fun h30 => ?_) (fun h30 => ?_)
 ·
  have hkl : k < (splitS nw).length := by omega
  have hkp : k < (partsS nw).length := by omega
  have hkk : k < (keptL old d1 d2 nw (splitS nw).length).length := by omega
  have hnx := unkept_next (old := old) (d1 := d1) (d2 := d2) hkl
  refine run_sk (run_sq (run_bk 1 (run_sq (run_pl [yy 0, yy 1, nn 2, yy 3, yy 4] ?_))))
  refine yM 31 29 ?_
  refine iR 52 32 24 27 29 hq rfl (h := ?_)
  intro b32 o32 h32
  try simp only [Int.toNat_natCast] at h32
  refine lN (kq 33 (.load 52 (.tmp 32))) rfl rfl trivial h32 (by kernel_rfl) rfl rfl ?_
  intro v33 g33
  rw [← split_refs hkl hkp] at g33
  refine yA 13 31 ?_
  refine yA 14 33 ?_
  refine Sch.nil (run_sq (run_pl [yy 0, nn 1, yy 2, yy 3, nn 4, yy 5] ?_))
  refine yF 34 97 10 2 2 ?_
  refine nO 35 81 34 bd.at_ rfl rfl ?_
  refine yM 36 13 ?_
  refine iR 4 37 81 35 36 hk0 rfl (h := ?_)
  intro b37 o37 h37
  try simp only [Int.toNat_natCast] at h37
  refine lN (kq 38 (.load 4 (.tmp 37))) rfl rfl trivial h37 (by kernel_rfl) rfl rfl ?_
  intro v38 g38
  obtain rfl := rv_bool.1 g38
  simp only [Int.toNat_natCast, keptL_at hkl hkk]
  refine yV (kq 39 (.unOp .not 4 (.tmp 38))) (fun _ => val_not rfl) ?_
  refine Sch.nil ?_
  refine run_c 39 rfl (fun h39 => ?_) (fun h39 => ?_)
  ·
   have hkb : ¬ (keptB old d1 d2 (refsS ((splitS nw)[k]'hkl)) ((splitS nw)[k]'hkl) = true) := by simpa using h39
   rw [if_neg hkb] at hnx
   refine run_pl [yy 0, yy 1, nn 2, nn 3, yy 4] ?_
   refine yM 40 12 ?_
   refine yM 41 14 ?_
   refine aT (kq 42 (.buildSlice 24 1 #[(0, (.tmp 41))])) rfl rfl (a_buildSlice (ys := ([refsS ((splitS nw)[k]'hkl)] : List (List Couple))) (e := 52) (bytes := 24) hF (by kernel_rfl) rfl (by decide) (by decide) ⟨rfl, ⟨_, rfl, g33⟩, trivial⟩) ?_
   rintro v42 w6 ⟨s_5, g42, hF⟩
   replace ho := ho.t s_5
   refine aT (kq 43 (.call { callee := .builtin .append, args := #[(.tmp 40), (.tmp 42)], argTypes := #[24, 24] })) rfl rfl (a_append (e := 52) (bytes := 24) hF (by decide) rfl rfl (by kernel_rfl) (by decide) ho g42 (by simp only [List.length_cons, List.length_nil]; omega) (by simp only [List.length_cons, List.length_nil]; omega)) ?_
   rintro v43 w7 ⟨Cw7, s_6, ho, hF⟩
   refine yA 12 43 ?_
   refine Sch.nil (run_inBlock (run_pl [yy 0, yy 1] ?_))
   refine yI 44 3 29 1 ?_
   refine yM 29 44 ?_
   refine Sch.nil ?_
   replace hT := (hT.t s_5).t s_6; replace hq := (hq.t s_5).t s_6; replace hk0 := (hk0.t s_5).t s_6; replace bd := (bd.t s_5).t s_6
   refine kp (sr 9 (sr 10 (sr 12 (sr 27 (sr 28 (sub_cons 29 rfl (eq_int (by simp)) (sub_nil _))))))) (next1 (k + 1, v43, Cw7) _ ⟨(by first | omega | (simp only; omega)), hF, hT, hq, hk0, bd, (by simp only; rw [hnx]; exact ho)⟩ (by first | omega | (simp only; omega)))
  have hkb : keptB old d1 d2 (refsS ((splitS nw)[k]'hkl)) ((splitS nw)[k]'hkl) = true := by simpa using h39
  rw [if_pos hkb] at hnx
  refine run_sk (run_inBlock (run_pl [yy 0, yy 1] ?_))
  refine yI 44 3 29 1 ?_
  refine yM 29 44 ?_
  refine Sch.nil ?_
  refine kp (sr 9 (sr 10 (sr 12 (sr 27 (sr 28 (sub_cons 29 rfl (eq_int (by simp)) (sub_nil _))))))) (next1 (k + 1, vo, C1) _ ⟨(by first | omega | (simp only; omega)), hF, hT, hq, hk0, bd, (by simp only; rw [hnx]; exact ho)⟩ (by first | omega | (simp only; omega)))
 have hkl : k = (splitS nw).length := by omega
 rw [hkl] at ho hkn
 refine run_ex 0 ?_
 refine run_sq (run_pl [yy 0, yy 1, yy 2] ?_)
 refine yM 45 12 ?_
 refine yA 8 45 ?_
 refine yAc 9 (.int .i64 0) ?_
 refine Sch.nil ?_
 refine run_ret2 (by kernel_rfl) Tryz.func20 Tryz.results20 rfl rfl ?_
 exact ⟨hT.out1 (by decide), _, rfl, ho.out hT hF0 (Mc_col1 C) (fun b _ => col1_lt C (by decide) b) (by omega)⟩
end
end Go.Proofs.YtmdhggfehknjjaaGreat
