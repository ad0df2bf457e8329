/- Steps through functions of the program. -/
import Derived.Test.YtmdhggfehknjjaaGreatJHB
import Derived.Test.YtmdhggfehknjjaaGreatJH8
import Derived.Test.YtmdhggfehknjjaaGreatJI4
import Derived.Test.YtmdhggfehknjjaaGreatL2
set_option linter.unusedVariables false
set_option linter.unusedSimpArgs false
set_option maxRecDepth 100000
set_option maxHeartbeats 4000000
namespace Go.Proofs.YtmdhggfehknjjaaGreat
open Go.K Go.K.Rep
noncomputable section
namespace F5
def c0 := bodyOf Tryz.f5
def c16 := (cr (cr (cr (cr (cr c0)))))
def c59 := (cr (cr (cr (cr (cr c16)))))
def c74 := (cl (cr (cr (cr (cr c59)))))
def o24 := rops c74
def c75 := (cr (cr (cr (cr (cr c59)))))
def c82 := (cr (cl (cl (cr (cl c75)))))
def c92 := (cr (cr (cl (cl (cr c82)))))
def c99 := (cr (cl (cl (cr (cl c92)))))
def o32 := rops (cr (cl (cl (cr c99))))
end F5
theorem resolveTouched_ok {w₀ : World} {C : Nat → Nat} {l : List Int} {vl : Value} (hF : Lim w₀ C) (hl : RV w₀ (Mc C) l vl) : Calls Tryz.prog 5 #[vl] w₀ (Ret fun v w' => v = .bool true ∧ Stp [] w₀ C w' C) := by
 have hF0 := hF
 have hT := Stp.refl [2, 3, 4, 5, 6, 7, 8, 9] w₀ (col1 C)
 replace hF := hF.col1
 replace hl := hl.c1
 refine c_st F5.c0 174 [vl] Tryz.func5 ?_
 show Run _ _ _ _ [(0, vl)] _ _
 refine run_sq (run_pl [yy 0] ?_)
 refine yAc 2 (.bool false) ?_
 refine Sch.nil (run_sq (run_sq (run_pl [nn 0, yy 1, yy 2, yy 3, nn 4, yy 5, yy 6] ?_)))
 refine cG 25 9 [] [] Tryz.call9 rfl (awake_ok hF) ?_
 rintro vw1 w1 ⟨rfl, s_1⟩
 refine yV (kq 26 (.unOp .not 4 (.tmp 25))) (fun _ => val_not rfl) ?_
 refine yM 27 26 ?_
 refine yMg 28 0 2 false ?_
 replace hl := hl.t s_1
 refine cT (kg 29 (.call { callee := .value (.func 10), args := #[(.tmp 28)], argTypes := #[22] }) 2 false) rfl rfl (ent Tryz.call10 rfl) (few_any hl) ?_
 rintro vw2 w2 ⟨rfl, rfl⟩
 refine yV (kg 30 (.unOp .not 4 (.tmp 29)) 2 false) (fun _ => val_notd rfl) ?_
 refine yOf 31 27 30 ?_
 refine Sch.nil ?_
 refine run_i 31 rfl (fun h31 => ?_) (fun h31 => ?_)
 ·
  refine run_sq (run_pl [nn 0, yy 1] ?_)
  replace hF := hF.st s_1
  refine cG 32 9 [] [] Tryz.call9 rfl (awake_ok hF) ?_
  rintro vw3 w3 ⟨rfl, s_2⟩
  refine yA 2 32 ?_
  refine Sch.nil ?_
  refine rt1 Tryz.func5 Tryz.results5 ?_
  replace hT := (hT.t s_1).t s_2
  exact ⟨rfl, hT.out1 (by decide)⟩
 refine run_sk (run_sq (run_pl [yy 0, nn 1, yy 2] ?_))
 refine yM 33 0 ?_
 replace hF := hF.st s_1
 refine cG 34 11 [33] [22] Tryz.call11 rfl (new_any hF hl) ?_
 rintro vw4 w4 ⟨Cd, bd, rfl, s_3, hF, hd⟩
 refine yA 3 34 ?_
 refine Sch.nil (run_sq (run_pl [yy 0, nn 1, yy 2] ?_))
 refine yM 35 3 ?_
 refine cT (kq 36 (.call { callee := .value (.func 12), args := #[(.tmp 35), (.const (.int .i64 3)), (.const (.int .i64 3)), (.const (.int .i64 6))], argTypes := #[30, 3, 3, 3] })) rfl rfl (ent Tryz.call12 rfl) (bonds_any (R := 3) (I := 3) (one := 6) hF (by decide) hd (by decide) (by decide) (by omega) (by omega)) ?_
 rintro vb w5 ⟨bl, hbl, ⟨s_4, hb, hd⟩, _⟩
 have hv := hbl.vld (by decide) (by decide)
 have hrl := hbl.few
 have hbL := hv.1
 refine yA 4 36 ?_
 refine Sch.nil ?_
 have hG0 := Gd.of hbl
 have hGv := hG0.vld (by decide)
 have hGf := hG0.few
 refine run_sq (run_pl [yy 0, nn 1, yy 2, yy 3, yy 4, nn 5, nn 6, yy 7] ?_)
 refine yM 38 4 ?_
 replace hF := hF.st s_4
 refine cT (kq 39 (.call { callee := .value (.func 17), args := #[(.tmp 38), (.const (.slice none 0 0))], argTypes := #[23, 27] })) rfl rfl (ent Tryz.call17 rfl) (resOf_ok (ds := []) hF hb rv_nil hGv (by omega) (by decide) (fun i h => by cases h) (fun i h => by cases h)) ?_
 rintro _ w6 ⟨s_5, zs1, vb1, vp1, hSt1, rfl, hb1, hp1⟩
 replace hd := hd.st s_5 (by first | decide | (simp <;> omega)) (by first | decide | (simp <;> omega))
 refine yM 37 39 ?_
 refine yE 40 37 0 ?_
 refine yE 41 37 1 ?_
 replace hF := hF.st s_5
 refine aT (kq 5 (.alloc 26)) rfl rfl (a_alloc (cs := [.slice none 0 0, .slice none 0 0, .int .i64 0]) hF 4 (by kernel_rfl)) ?_
 rintro _ w7 ⟨Cw7, bw7, rfl, s_6, bs, hF⟩
 replace hd := hd.st s_6 (by first | decide | (simp <;> omega)) (by first | decide | (simp <;> omega))
 replace hb1 := hb1.t s_6; replace hp1 := hp1.t s_6
 refine aU (k0 (.store 26 (.tmp 5) (.tmp 40))) rfl (a_storeAll (vs := [vb1, vp1, .int .i64 (valueB bl zs1)]) (n := 3) rfl rfl (by kernel_rfl) rfl rfl (by intro u hu; simp only [List.mem_cons, List.not_mem_nil, or_false] at hu; rcases hu with rfl | rfl | rfl <;> first | rfl | exact (hb1.one rfl).2 | exact (hp1.one rfl).2) bs rfl) ?_
 rintro _ w8 ⟨rfl, s_7, bs⟩
 replace hd := hd.st s_7 (by first | decide | (simp <;> omega)) (by first | decide | (simp <;> omega))
 refine yA 6 41 ?_
 refine Sch.nil (run_sq (run_pl [yy 0, nn 1, yy 2] ?_))
 refine yM 42 4 ?_
 replace hb := ((hb.t s_5).t s_6).t s_7; replace hF := hF.st s_7
 refine cG 43 25 [42] [23] Tryz.call25 rfl (refRefs_ok hF hb (by omega)) ?_
 rintro vrf w9 ⟨s_8, hrf⟩
 replace hd := hd.st s_8 (by first | decide | (simp <;> omega)) (by first | decide | (simp <;> omega))
 refine yA 7 43 ?_
 refine Sch.nil (run_sq (run_sq ?_))
 by_cases hz0 : ((refsS bl).length : Int) = 0
 ·
  refine run_pl [yy 0, yy 1, yy 2, yy 3, yy 4, yy 5, yy 6] ?_
  refine yM 44 6 ?_
  refine yV (kq 45 (.binOp .neq 34 (.tmp 44) (.const (.int .i64 0)) 34)) (fun _ => val_F (val_neq rfl rfl) (by decide)) ?_
  refine yM 46 45 ?_
  refine yMg 47 7 2 false ?_
  refine yS (kg 48 (.call { callee := .builtin .len, args := #[(.tmp 47)], argTypes := #[52] }) 2 false) rfl rfl (fun w' hS => hrf.lenV rfl Tryz.underlying52 w' ) ?_
  refine yV (kg 49 (.binOp .eql 3 (.tmp 48) (.const (.int .i64 0)) 3) 2 false) (fun _ => val_T (val_eql rfl rfl) hz0) ?_
  refine yOf 50 46 49 ?_
  refine Sch.nil (run_cT 50 (run_sq (run_pl [yy 0, yy 1, yy 2] ?_)))
  refine yM 51 6 ?_
  refine yV (kq 52 (.binOp .eql 34 (.tmp 51) (.const (.int .i64 0)) 34)) (fun _ => val_T (val_eql rfl rfl) rfl) ?_
  refine yA 2 52 ?_
  refine Sch.nil ?_
  refine rt1 Tryz.func5 Tryz.results5 ?_
  replace hT := ((((((hT.t s_1).t s_3).t s_4).t s_5).t s_6).t s_7).t s_8
  exact ⟨rfl, hT.out1 (by decide)⟩
 refine run_pl [yy 0, yy 1, yy 2, yy 3, yy 4, yy 5, yy 6] ?_
 refine yM 44 6 ?_
 refine yV (kq 45 (.binOp .neq 34 (.tmp 44) (.const (.int .i64 0)) 34)) (fun _ => val_F (val_neq rfl rfl) (by decide)) ?_
 refine yM 46 45 ?_
 refine yMg 47 7 2 false ?_
 refine yS (kg 48 (.call { callee := .builtin .len, args := #[(.tmp 47)], argTypes := #[52] }) 2 false) rfl rfl (fun w' hS => hrf.lenV rfl Tryz.underlying52 w' ) ?_
 refine yV (kg 49 (.binOp .eql 3 (.tmp 48) (.const (.int .i64 0)) 3) 2 false) (fun _ => val_F (val_eql rfl rfl) hz0) ?_
 refine yOf 50 46 49 ?_
 refine Sch.nil (run_cF 50 (run_sk (run_sq (run_pl [yy 0, yy 1, yy 2, yy 3, nn 4, yy 5, nn 6, nn 7, nn 8] ?_))))
 refine yM 53 7 ?_
 refine yM 54 3 ?_
 refine yM 55 7 ?_
 refine yS (kq 56 (.call { callee := .builtin .len, args := #[(.tmp 55)], argTypes := #[52] })) rfl rfl (fun w' hS => hrf.lenV rfl Tryz.underlying52 w' ) ?_
 have hrl0 : 0 < (refsS bl).length := by omega
 replace hF := hF.st s_8
 refine cG 57 26 [54, 56] [30, 3] Tryz.call26 rfl (next_any (n := ((refsS bl).length : Int)) hF (by decide) hd (by omega) (by omega)) ?_
 rintro vw10 w10 ⟨z, rfl, hz, s_9, hd⟩
 have hzl : z < (refsS bl).length := by omega
 replace hrf := hrf.t s_9
 refine iR 55 58 52 53 57 hrf rfl (h := ?_)
 intro b58 o58 h58
 try simp only [Int.toNat_natCast] at h58
 refine lNA (kq 59 (.load 55 (.tmp 58))) rfl rfl trivial h58 (by kernel_rfl) (by kernel_rfl) rfl rfl ?_
 intro v59 g59
 obtain rfl := rv_couple.1 g59
 obtain ⟨r, hr⟩ : ∃ r, r = (refsS bl)[z]'hzl := ⟨_, rfl⟩
 rw [← hr]
 have hrm : r ∈ refsS bl := by rw [hr]; exact List.getElem_mem hzl
 replace hF := hF.st s_9
 refine aT (kq 8 (.alloc 55)) rfl rfl (a_alloc (cs := [.int .i64 0, .int .i64 0]) hF 5 (by kernel_rfl)) ?_
 rintro _ w11 ⟨Cw11, bw11, rfl, s_10, br, hF⟩
 replace hd := hd.st s_10 (by first | decide | (simp <;> omega)) (by first | decide | (simp <;> omega))
 refine aU (k0 (.store 55 (.tmp 8) (.tmp 59))) rfl (a_storeAll (vs := encR r) (n := 2) rfl rfl (by kernel_rfl) rfl rfl (by intro u hu; simp only [encR, List.mem_cons, List.not_mem_nil, or_false] at hu; rcases hu with rfl | rfl <;> rfl) br rfl) ?_
 rintro _ w12 ⟨rfl, s_11, br⟩
 replace hd := hd.st s_11 (by first | decide | (simp <;> omega)) (by first | decide | (simp <;> omega))
 refine Sch.nil (run_sq (run_pl [yy 0] ?_))
 refine yV (kq 9 (.assign (.const (.slice none 0 0)))) (fun _ => val_assign rfl) ?_
 refine Sch.nil (run_sq (run_sq (run_pl [yy 0, yy 1, yy 2] ?_)))
 refine yM 60 4 ?_
 replace hb := (((hb.t s_8).t s_9).t s_10).t s_11
 refine yS (kq 61 (.call { callee := .builtin .len, args := #[(.tmp 60)], argTypes := #[23] })) rfl rfl (fun w' hS => hb.lenV rfl Tryz.underlying23 w' ) ?_
 refine yC 62 (.int .i64 0) ?_
 refine Sch.nil (run_bk 0 ?_)
 refine run_lp (ι := Nat × (List Bond) × Value × (Nat → Nat)) (I := fun x w => x.1 ≤ bl.length ∧ SubW 10 bl x.2.1 x.1 ∧ Tch r bl x.2.1 x.1 ∧ Lim w x.2.2.2 ∧ Stp [2, 3, 4, 5, 6, 7, 8, 9] w₀ (col1 C) w x.2.2.2 ∧ RV w (Mc x.2.2.2) bl vb ∧ RV w (Mc x.2.2.2) bl vb1 ∧ RV w (Mc x.2.2.2) zs1 vp1 ∧ OwnB w x.2.2.2 4 bw7 (.cells [vb1, vp1, .int .i64 (valueB bl zs1)].toArray 26) ∧ OwnB w x.2.2.2 5 bw11 (.cells (encR r).toArray 55) ∧ DeckIs w x.2.2.2 3 bd ∧ OwnL w x.2.2.2 6 58 x.2.2.1 x.2.1) (e := fun x => [(3, .pointer (some ⟨bd, 0, none⟩)), (4, vb), (5, .pointer (some ⟨bw7, 0, none⟩)), (8, .pointer (some ⟨bw11, 0, none⟩)), (9, x.2.2.1), (60, vb), (61, .int .i64 bl.length), (62, .int .i64 x.1)]) (m := fun x => bl.length - x.1) (x₀ := (0, [], .slice none 0 0, Cw11)) (sr 3 (sr 4 (sr 5 (sr 8 (sr 9 (sr 60 (sr 61 (sr 62 (sub_nil _))))))))) ?_ ?_
 ·
   replace hT := (((((((((hT.t s_1).t s_3).t s_4).t s_5).t s_6).t s_7).t s_8).t s_9).t s_10).t s_11; replace hb1 := ((((hb1.t s_7).t s_8).t s_9).t s_10).t s_11; replace hp1 := ((((hp1.t s_7).t s_8).t s_9).t s_10).t s_11; replace bs := (((bs.t s_8).t s_9).t s_10).t s_11; replace hF := hF.st s_11
   exact ⟨Nat.zero_le _, SubW.nil _ _, Tch.nil _ _, hF, hT, hb, hb1, hp1, bs, br, hd, OwnL.nil⟩
 intro ⟨k, nl, vo, C1⟩ w13 hI next1
 obtain ⟨hk, hsw, htc, hF, hT, hb, hb1, hp1, bs, br, hd, ho⟩ := hI
 try simp only at hk hsw htc hF hT hb hb1 hp1 bs br hd ho
 show Run _ _ _ _ [(3, .pointer (some ⟨bd, 0, none⟩)), (4, vb), (5, .pointer (some ⟨bw7, 0, none⟩)), (8, .pointer (some ⟨bw11, 0, none⟩)), (9, vo), (60, vb), (61, .int .i64 bl.length), (62, .int .i64 k)] _ _
 have hle := hb.le
 have hnl := hsw.len
 have hblv := hGv.1
 refine run_sq (run_pl [yy 0] ?_)
 refine yL 63 3 62 61 ?_
 refine Sch.nil (run_sq ?_)
 refine run_i 63 rfl (fun h63 => ?_) (fun h63 => ?_)
 ·
  have hkl : k < bl.length := by omega
  have hxk := hG0.1 _ (List.getElem_mem hkl)
  have hxw : 1 ≤ (bl[k]'hkl).w ∧ (bl[k]'hkl).w ≤ 9 := by unfold okG at hxk; omega
  refine run_sk (run_sq (run_bk 1 (run_sq (run_pl [yy 0, nn 1, nn 2, nn 3] ?_))))
  refine iR 58 64 23 60 62 hb rfl (h := ?_)
  intro b64 o64 h64
  try simp only [Int.toNat_natCast] at h64
  refine lNA (kq 65 (.load 58 (.tmp 64))) rfl rfl trivial h64 (by kernel_rfl) (by kernel_rfl) rfl rfl ?_
  intro v65 g65
  obtain rfl := rv_bond.1 g65
  refine aT (kq 11 (.alloc 58)) rfl rfl (a_alloc (cs := [.int .i64 0, .int .i64 0, .int .i64 0, .int .i64 0, .int .i64 0]) hF 7 (by kernel_rfl)) ?_
  rintro _ w14 ⟨Cw14, bw14, rfl, s_12, bx, hF⟩
  replace hd := hd.st s_12 (by first | decide | (simp <;> omega)) (by first | decide | (simp <;> omega))
  refine aU (k0 (.store 58 (.tmp 11) (.tmp 65))) rfl (a_storeAll (vs := encB ((bl[k]'hkl))) (n := 5) rfl rfl (by kernel_rfl) rfl rfl (by intro u hu; simp only [encB, List.mem_cons, List.not_mem_nil, or_false] at hu; rcases hu with rfl | rfl | rfl | rfl | rfl <;> rfl) bx rfl) ?_
  rintro _ w15 ⟨rfl, s_13, bx⟩
  replace hd := hd.st s_13 (by first | decide | (simp <;> omega)) (by first | decide | (simp <;> omega))
  refine Sch.nil (run_sq (run_sq ?_))
  by_cases hA : (bl[k]'hkl).A = r
  ·
   refine run_pl [yy 0, nn 1, nn 2, yy 3, yy 4, yy 5, nn 6, nn 7, yy 8, yy 9, yy 10, yy 11, nn 12, yy 13] ?_
   refine yF 66 58 11 0 0 ?_
   refine nS (kq 67 (.load 55 (.tmp 66))) rfl rfl trivial (val_loadOwnAgg (n := 2) (vs := encR (bl[k]'hkl).A) bx.at_ (by kernel_rfl) (by kernel_rfl) rfl rfl rfl) ?_
   replace br := (br.t s_12).t s_13
   refine nS (kq 68 (.load 55 (.tmp 8))) rfl rfl trivial (val_loadOwnAgg (n := 2) (vs := encR r) br.at_ (by kernel_rfl) (by kernel_rfl) rfl rfl rfl) ?_
   refine yV (kq 69 (.binOp .eql 55 (.tmp 67) (.tmp 68) 55)) (fun _ => val_T (val_eqC (a := (bl[k]'hkl).A) (b := r) Tryz.underlying55 (by decide) (by decide) (by kernel_rfl) Tryz.underlying3 rfl rfl) hA) ?_
   refine yM 70 69 ?_
   refine pX 71 4 false ?_
   refine pW (kg 72 (.load 55 (.tmp 71)) 4 false) rfl rfl trivial ?_
   refine pW (kg 73 (.load 55 (.tmp 8)) 4 false) rfl rfl trivial ?_
   refine pX 74 4 false ?_
   refine yOt 75 70 74 ?_
   refine yM 76 75 ?_
   refine yMg 77 3 10 true ?_
   replace hF := hF.st s_13
   refine cT (kg 78 (.call { callee := .value (.func 15), args := #[(.tmp 77), (.const (.int .i64 2))], argTypes := #[30, 3] }) 10 true) rfl rfl (ent Tryz.call15 rfl) (one_any (n := 2) hF (by decide) hd (by omega) (by omega)) ?_
   rintro vw16 w16 ⟨t, rfl, s_14, hd⟩
   refine yAt 79 76 78 ?_
   refine Sch.nil ?_
   refine run_c 79 rfl (fun h79 => ?_) (fun h79 => ?_)
   ·
    refine run_ex 1 ?_
    refine run_pl [yy 0, yy 1] ?_
    refine yI 102 3 62 1 ?_
    refine yM 62 102 ?_
    refine Sch.nil ?_
    replace hT := ((hT.t s_12).t s_13).t s_14; replace hb := ((hb.t s_12).t s_13).t s_14; replace hb1 := ((hb1.t s_12).t s_13).t s_14; replace hp1 := ((hp1.t s_12).t s_13).t s_14; replace bs := ((bs.t s_12).t s_13).t s_14; replace ho := ((ho.t s_12).t s_13).t s_14; replace hF := hF.st s_14; replace br := br.t s_14
    refine kp (sr 3 (sr 4 (sr 5 (sr 8 (sr 9 (sr 60 (sr 61 (sub_cons 62 rfl (eq_int (by simp)) (sub_nil _))))))))) (next1 (k + 1, nl, vo, Cw14) _ ⟨(by first | omega | (simp only; omega)), (hsw.skip hkl), (htc.skip hkl (.inl hA)), hF, hT, hb, hb1, hp1, bs, br, hd, ho⟩ (by first | omega | (simp only; omega)))
   refine run_sk (run_sq (run_sq (run_pl [yy 0, nn 1, nn 2, yy 3, yy 4, yy 5, nn 6, nn 7, yy 8, yy 9, yy 10, yy 11, nn 12, yy 13] ?_)))
   refine yF 80 58 11 0 0 ?_
   replace bx := bx.t s_14
   refine nS (kq 81 (.load 55 (.tmp 80))) rfl rfl trivial (val_loadOwnAgg (n := 2) (vs := encR (bl[k]'hkl).A) bx.at_ (by kernel_rfl) (by kernel_rfl) rfl rfl rfl) ?_
   replace br := br.t s_14
   refine nS (kq 82 (.load 55 (.tmp 8))) rfl rfl trivial (val_loadOwnAgg (n := 2) (vs := encR r) br.at_ (by kernel_rfl) (by kernel_rfl) rfl rfl rfl) ?_
   refine yV (kq 83 (.binOp .eql 55 (.tmp 81) (.tmp 82) 55)) (fun _ => val_T (val_eqC (a := (bl[k]'hkl).A) (b := r) Tryz.underlying55 (by decide) (by decide) (by kernel_rfl) Tryz.underlying3 rfl rfl) hA) ?_
   refine yM 84 83 ?_
   refine pX 85 4 false ?_
   refine pW (kg 86 (.load 55 (.tmp 85)) 4 false) rfl rfl trivial ?_
   refine pW (kg 87 (.load 55 (.tmp 8)) 4 false) rfl rfl trivial ?_
   refine pX 88 4 false ?_
   refine yOt 89 84 88 ?_
   refine yM 90 89 ?_
   refine yMg 91 3 10 true ?_
   replace hF := hF.st s_14
   refine cT (kg 92 (.call { callee := .value (.func 15), args := #[(.tmp 91), (.const (.int .i64 2))], argTypes := #[30, 3] }) 10 true) rfl rfl (ent Tryz.call15 rfl) (one_any (n := 2) hF (by decide) hd (by omega) (by omega)) ?_
   rintro vw17 w17 ⟨t, rfl, s_15, hd⟩
   refine yAt 93 90 92 ?_
   refine Sch.nil ?_
   refine run_c 93 rfl (fun h93 => ?_) (fun h93 => ?_)
   ·
    refine run_pl [yy 0, nn 1, yy 2, yy 3, nn 4] ?_
    refine yF 94 58 11 2 4 ?_
    replace bx := bx.t s_15
    refine nO 95 3 94 bx.at_ rfl rfl ?_
    refine yI 96 3 95 1 ?_
    refine yF 97 58 11 2 4 ?_
    refine aU (k0 (.store 3 (.tmp 97) (.tmp 96))) rfl (a_store1 rfl rfl (by kernel_rfl) rfl rfl bx (by simp)) ?_
    rintro _ w18 ⟨rfl, s_16, bx⟩
    replace hd := hd.st s_16 (by first | decide | (simp <;> omega)) (by first | decide | (simp <;> omega))
    replace bx : OwnB _ _ 7 _ (.cells (encB (⟨(bl[k]'hkl).A, (bl[k]'hkl).B, (bl[k]'hkl).w + 1⟩ : Bond)).toArray 58) := bx
    refine Sch.nil (run_pl [yy 0, nn 1, nn 2, nn 3, yy 4] ?_)
    refine yM 98 9 ?_
    refine nS (kq 99 (.load 58 (.tmp 11))) rfl rfl trivial (val_loadOwnAgg (n := 5) (vs := encB (⟨(bl[k]'hkl).A, (bl[k]'hkl).B, (bl[k]'hkl).w + 1⟩ : Bond)) bx.at_ (by kernel_rfl) (by kernel_rfl) rfl rfl rfl) ?_
    replace hF := (hF.st s_15).st s_16
    refine aT (kq 100 (.buildSlice 23 1 #[(0, (.tmp 99))])) rfl rfl (a_buildSlice (ys := ([(⟨(bl[k]'hkl).A, (bl[k]'hkl).B, (bl[k]'hkl).w + 1⟩ : Bond)] : List Bond)) (e := 58) (bytes := 40) hF (by kernel_rfl) rfl (by decide) (by decide) ⟨rfl, ⟨_, rfl, rv_bond.2 rfl⟩, trivial⟩) ?_
    rintro v100 w19 ⟨s_17, g100, hF⟩
    replace hd := hd.st s_17 (by first | decide | (simp <;> omega)) (by first | decide | (simp <;> omega))
    replace ho := (((((ho.t s_12).t s_13).t s_14).t s_15).t s_16).t s_17
    refine aT (kq 101 (.call { callee := .builtin .append, args := #[(.tmp 98), (.tmp 100)], argTypes := #[23, 23] })) rfl rfl (a_append (e := 58) (bytes := 40) hF (by decide) rfl rfl (by kernel_rfl) (by decide) ho g100 (by simp only [List.length_cons, List.length_nil]; omega) (by simp only [List.length_cons, List.length_nil]; omega)) ?_
    rintro v101 w20 ⟨Cw20, s_18, ho, hF⟩
    replace hd := hd.st s_18 (by first | decide | (simp <;> omega)) (by first | decide | (simp <;> omega))
    refine yA 9 101 ?_
    refine Sch.nil (run_inBlock (run_pl [yy 0, yy 1] ?_))
    refine yI 102 3 62 1 ?_
    refine yM 62 102 ?_
    refine Sch.nil ?_
    replace hT := ((((((hT.t s_12).t s_13).t s_14).t s_15).t s_16).t s_17).t s_18; replace hb := ((((((hb.t s_12).t s_13).t s_14).t s_15).t s_16).t s_17).t s_18; replace hb1 := ((((((hb1.t s_12).t s_13).t s_14).t s_15).t s_16).t s_17).t s_18; replace hp1 := ((((((hp1.t s_12).t s_13).t s_14).t s_15).t s_16).t s_17).t s_18; replace bs := ((((((bs.t s_12).t s_13).t s_14).t s_15).t s_16).t s_17).t s_18; replace br := (((br.t s_15).t s_16).t s_17).t s_18
    refine kp (sr 3 (sr 4 (sr 5 (sr 8 (sr 9 (sr 60 (sr 61 (sub_cons 62 rfl (eq_int (by simp)) (sub_nil _))))))))) (next1 (k + 1, nl ++ [(⟨(bl[k]'hkl).A, (bl[k]'hkl).B, (bl[k]'hkl).w + 1⟩ : Bond)], v101, Cw20) _ ⟨(by first | omega | (simp only; omega)), (hsw.push hkl hG0.2 (by unfold okG at *; (try simp only); omega) rfl rfl), (htc.push hkl (.inr ⟨(.inl hA), rfl, rfl⟩)), hF, hT, hb, hb1, hp1, bs, br, hd, ho⟩ (by first | omega | (simp only; omega)))
   refine run_sk (run_pl [yy 0, nn 1, nn 2, nn 3, yy 4] ?_)
   refine yM 98 9 ?_
   replace bx := bx.t s_15
   refine nS (kq 99 (.load 58 (.tmp 11))) rfl rfl trivial (val_loadOwnAgg (n := 5) (vs := encB (bl[k]'hkl)) bx.at_ (by kernel_rfl) (by kernel_rfl) rfl rfl rfl) ?_
   replace hF := hF.st s_15
   refine aT (kq 100 (.buildSlice 23 1 #[(0, (.tmp 99))])) rfl rfl (a_buildSlice (ys := ([(bl[k]'hkl)] : List Bond)) (e := 58) (bytes := 40) hF (by kernel_rfl) rfl (by decide) (by decide) ⟨rfl, ⟨_, rfl, rv_bond.2 rfl⟩, trivial⟩) ?_
   rintro v100 w21 ⟨s_19, g100, hF⟩
   replace hd := hd.st s_19 (by first | decide | (simp <;> omega)) (by first | decide | (simp <;> omega))
   replace ho := ((((ho.t s_12).t s_13).t s_14).t s_15).t s_19
   refine aT (kq 101 (.call { callee := .builtin .append, args := #[(.tmp 98), (.tmp 100)], argTypes := #[23, 23] })) rfl rfl (a_append (e := 58) (bytes := 40) hF (by decide) rfl rfl (by kernel_rfl) (by decide) ho g100 (by simp only [List.length_cons, List.length_nil]; omega) (by simp only [List.length_cons, List.length_nil]; omega)) ?_
   rintro v101 w22 ⟨Cw22, s_20, ho, hF⟩
   replace hd := hd.st s_20 (by first | decide | (simp <;> omega)) (by first | decide | (simp <;> omega))
   refine yA 9 101 ?_
   refine Sch.nil (run_inBlock (run_pl [yy 0, yy 1] ?_))
   refine yI 102 3 62 1 ?_
   refine yM 62 102 ?_
   refine Sch.nil ?_
   replace hT := (((((hT.t s_12).t s_13).t s_14).t s_15).t s_19).t s_20; replace hb := (((((hb.t s_12).t s_13).t s_14).t s_15).t s_19).t s_20; replace hb1 := (((((hb1.t s_12).t s_13).t s_14).t s_15).t s_19).t s_20; replace hp1 := (((((hp1.t s_12).t s_13).t s_14).t s_15).t s_19).t s_20; replace bs := (((((bs.t s_12).t s_13).t s_14).t s_15).t s_19).t s_20; replace br := ((br.t s_15).t s_19).t s_20
   refine kp (sr 3 (sr 4 (sr 5 (sr 8 (sr 9 (sr 60 (sr 61 (sub_cons 62 rfl (eq_int (by simp)) (sub_nil _))))))))) (next1 (k + 1, nl ++ [(bl[k]'hkl)], v101, Cw22) _ ⟨(by first | omega | (simp only; omega)), (hsw.push hkl hG0.2 (by unfold okG at *; (try simp only); omega) rfl rfl), (htc.push hkl (.inl rfl)), hF, hT, hb, hb1, hp1, bs, br, hd, ho⟩ (by first | omega | (simp only; omega)))
  by_cases hB : (bl[k]'hkl).B = r
  ·
   refine run_pl [yy 0, nn 1, nn 2, yy 3, yy 4, yy 5, nn 6, nn 7, yy 8, yy 9, yy 10, yy 11, nn 12, yy 13] ?_
   refine yF 66 58 11 0 0 ?_
   refine nS (kq 67 (.load 55 (.tmp 66))) rfl rfl trivial (val_loadOwnAgg (n := 2) (vs := encR (bl[k]'hkl).A) bx.at_ (by kernel_rfl) (by kernel_rfl) rfl rfl rfl) ?_
   replace br := (br.t s_12).t s_13
   refine nS (kq 68 (.load 55 (.tmp 8))) rfl rfl trivial (val_loadOwnAgg (n := 2) (vs := encR r) br.at_ (by kernel_rfl) (by kernel_rfl) rfl rfl rfl) ?_
   refine yV (kq 69 (.binOp .eql 55 (.tmp 67) (.tmp 68) 55)) (fun _ => val_F (val_eqC (a := (bl[k]'hkl).A) (b := r) Tryz.underlying55 (by decide) (by decide) (by kernel_rfl) Tryz.underlying3 rfl rfl) hA) ?_
   refine yM 70 69 ?_
   refine yFg 71 58 11 1 2 4 false ?_
   refine nS (kg 72 (.load 55 (.tmp 71)) 4 false) rfl rfl trivial (val_loadOwnAgg (n := 2) (vs := encR (bl[k]'hkl).B) bx.at_ (by kernel_rfl) (by kernel_rfl) rfl rfl rfl) ?_
   refine nS (kg 73 (.load 55 (.tmp 8)) 4 false) rfl rfl trivial (val_loadOwnAgg (n := 2) (vs := encR r) br.at_ (by kernel_rfl) (by kernel_rfl) rfl rfl rfl) ?_
   refine yV (kg 74 (.binOp .eql 55 (.tmp 72) (.tmp 73) 55) 4 false) (fun _ => val_T (val_eqC (a := (bl[k]'hkl).B) (b := r) Tryz.underlying55 (by decide) (by decide) (by kernel_rfl) Tryz.underlying3 rfl rfl) hB) ?_
   refine yOf 75 70 74 ?_
   refine yM 76 75 ?_
   refine yMg 77 3 10 true ?_
   replace hF := hF.st s_13
   refine cT (kg 78 (.call { callee := .value (.func 15), args := #[(.tmp 77), (.const (.int .i64 2))], argTypes := #[30, 3] }) 10 true) rfl rfl (ent Tryz.call15 rfl) (one_any (n := 2) hF (by decide) hd (by omega) (by omega)) ?_
   rintro vw23 w23 ⟨t, rfl, s_21, hd⟩
   refine yAt 79 76 78 ?_
   refine Sch.nil ?_
   refine run_c 79 rfl (fun h79 => ?_) (fun h79 => ?_)
   ·
    refine run_ex 1 ?_
    refine run_pl [yy 0, yy 1] ?_
    refine yI 102 3 62 1 ?_
    refine yM 62 102 ?_
    refine Sch.nil ?_
    replace hT := ((hT.t s_12).t s_13).t s_21; replace hb := ((hb.t s_12).t s_13).t s_21; replace hb1 := ((hb1.t s_12).t s_13).t s_21; replace hp1 := ((hp1.t s_12).t s_13).t s_21; replace bs := ((bs.t s_12).t s_13).t s_21; replace ho := ((ho.t s_12).t s_13).t s_21; replace hF := hF.st s_21; replace br := br.t s_21
    refine kp (sr 3 (sr 4 (sr 5 (sr 8 (sr 9 (sr 60 (sr 61 (sub_cons 62 rfl (eq_int (by simp)) (sub_nil _))))))))) (next1 (k + 1, nl, vo, Cw14) _ ⟨(by first | omega | (simp only; omega)), (hsw.skip hkl), (htc.skip hkl (.inr hB)), hF, hT, hb, hb1, hp1, bs, br, hd, ho⟩ (by first | omega | (simp only; omega)))
   refine run_sk (run_sq (run_sq (run_pl [yy 0, nn 1, nn 2, yy 3, yy 4, yy 5, nn 6, nn 7, yy 8, yy 9, yy 10, yy 11, nn 12, yy 13] ?_)))
   refine yF 80 58 11 0 0 ?_
   replace bx := bx.t s_21
   refine nS (kq 81 (.load 55 (.tmp 80))) rfl rfl trivial (val_loadOwnAgg (n := 2) (vs := encR (bl[k]'hkl).A) bx.at_ (by kernel_rfl) (by kernel_rfl) rfl rfl rfl) ?_
   replace br := br.t s_21
   refine nS (kq 82 (.load 55 (.tmp 8))) rfl rfl trivial (val_loadOwnAgg (n := 2) (vs := encR r) br.at_ (by kernel_rfl) (by kernel_rfl) rfl rfl rfl) ?_
   refine yV (kq 83 (.binOp .eql 55 (.tmp 81) (.tmp 82) 55)) (fun _ => val_F (val_eqC (a := (bl[k]'hkl).A) (b := r) Tryz.underlying55 (by decide) (by decide) (by kernel_rfl) Tryz.underlying3 rfl rfl) hA) ?_
   refine yM 84 83 ?_
   refine yFg 85 58 11 1 2 4 false ?_
   refine nS (kg 86 (.load 55 (.tmp 85)) 4 false) rfl rfl trivial (val_loadOwnAgg (n := 2) (vs := encR (bl[k]'hkl).B) bx.at_ (by kernel_rfl) (by kernel_rfl) rfl rfl rfl) ?_
   refine nS (kg 87 (.load 55 (.tmp 8)) 4 false) rfl rfl trivial (val_loadOwnAgg (n := 2) (vs := encR r) br.at_ (by kernel_rfl) (by kernel_rfl) rfl rfl rfl) ?_
   refine yV (kg 88 (.binOp .eql 55 (.tmp 86) (.tmp 87) 55) 4 false) (fun _ => val_T (val_eqC (a := (bl[k]'hkl).B) (b := r) Tryz.underlying55 (by decide) (by decide) (by kernel_rfl) Tryz.underlying3 rfl rfl) hB) ?_
   refine yOf 89 84 88 ?_
   refine yM 90 89 ?_
   refine yMg 91 3 10 true ?_
   replace hF := hF.st s_21
   refine cT (kg 92 (.call { callee := .value (.func 15), args := #[(.tmp 91), (.const (.int .i64 2))], argTypes := #[30, 3] }) 10 true) rfl rfl (ent Tryz.call15 rfl) (one_any (n := 2) hF (by decide) hd (by omega) (by omega)) ?_
   rintro vw24 w24 ⟨t, rfl, s_22, hd⟩
   refine yAt 93 90 92 ?_
   refine Sch.nil ?_
   refine run_c 93 rfl (fun h93 => ?_) (fun h93 => ?_)
   ·
    refine run_pl [yy 0, nn 1, yy 2, yy 3, nn 4] ?_
    refine yF 94 58 11 2 4 ?_
    replace bx := bx.t s_22
    refine nO 95 3 94 bx.at_ rfl rfl ?_
    refine yI 96 3 95 1 ?_
    refine yF 97 58 11 2 4 ?_
    refine aU (k0 (.store 3 (.tmp 97) (.tmp 96))) rfl (a_store1 rfl rfl (by kernel_rfl) rfl rfl bx (by simp)) ?_
    rintro _ w25 ⟨rfl, s_23, bx⟩
    replace hd := hd.st s_23 (by first | decide | (simp <;> omega)) (by first | decide | (simp <;> omega))
    replace bx : OwnB _ _ 7 _ (.cells (encB (⟨(bl[k]'hkl).A, (bl[k]'hkl).B, (bl[k]'hkl).w + 1⟩ : Bond)).toArray 58) := bx
    refine Sch.nil (run_pl [yy 0, nn 1, nn 2, nn 3, yy 4] ?_)
    refine yM 98 9 ?_
    refine nS (kq 99 (.load 58 (.tmp 11))) rfl rfl trivial (val_loadOwnAgg (n := 5) (vs := encB (⟨(bl[k]'hkl).A, (bl[k]'hkl).B, (bl[k]'hkl).w + 1⟩ : Bond)) bx.at_ (by kernel_rfl) (by kernel_rfl) rfl rfl rfl) ?_
    replace hF := (hF.st s_22).st s_23
    refine aT (kq 100 (.buildSlice 23 1 #[(0, (.tmp 99))])) rfl rfl (a_buildSlice (ys := ([(⟨(bl[k]'hkl).A, (bl[k]'hkl).B, (bl[k]'hkl).w + 1⟩ : Bond)] : List Bond)) (e := 58) (bytes := 40) hF (by kernel_rfl) rfl (by decide) (by decide) ⟨rfl, ⟨_, rfl, rv_bond.2 rfl⟩, trivial⟩) ?_
    rintro v100 w26 ⟨s_24, g100, hF⟩
    replace hd := hd.st s_24 (by first | decide | (simp <;> omega)) (by first | decide | (simp <;> omega))
    replace ho := (((((ho.t s_12).t s_13).t s_21).t s_22).t s_23).t s_24
    refine aT (kq 101 (.call { callee := .builtin .append, args := #[(.tmp 98), (.tmp 100)], argTypes := #[23, 23] })) rfl rfl (a_append (e := 58) (bytes := 40) hF (by decide) rfl rfl (by kernel_rfl) (by decide) ho g100 (by simp only [List.length_cons, List.length_nil]; omega) (by simp only [List.length_cons, List.length_nil]; omega)) ?_
    rintro v101 w27 ⟨Cw27, s_25, ho, hF⟩
    replace hd := hd.st s_25 (by first | decide | (simp <;> omega)) (by first | decide | (simp <;> omega))
    refine yA 9 101 ?_
    refine Sch.nil (run_inBlock (run_pl [yy 0, yy 1] ?_))
    refine yI 102 3 62 1 ?_
    refine yM 62 102 ?_
    refine Sch.nil ?_
    replace hT := ((((((hT.t s_12).t s_13).t s_21).t s_22).t s_23).t s_24).t s_25; replace hb := ((((((hb.t s_12).t s_13).t s_21).t s_22).t s_23).t s_24).t s_25; replace hb1 := ((((((hb1.t s_12).t s_13).t s_21).t s_22).t s_23).t s_24).t s_25; replace hp1 := ((((((hp1.t s_12).t s_13).t s_21).t s_22).t s_23).t s_24).t s_25; replace bs := ((((((bs.t s_12).t s_13).t s_21).t s_22).t s_23).t s_24).t s_25; replace br := (((br.t s_22).t s_23).t s_24).t s_25
    refine kp (sr 3 (sr 4 (sr 5 (sr 8 (sr 9 (sr 60 (sr 61 (sub_cons 62 rfl (eq_int (by simp)) (sub_nil _))))))))) (next1 (k + 1, nl ++ [(⟨(bl[k]'hkl).A, (bl[k]'hkl).B, (bl[k]'hkl).w + 1⟩ : Bond)], v101, Cw27) _ ⟨(by first | omega | (simp only; omega)), (hsw.push hkl hG0.2 (by unfold okG at *; (try simp only); omega) rfl rfl), (htc.push hkl (.inr ⟨(.inr hB), rfl, rfl⟩)), hF, hT, hb, hb1, hp1, bs, br, hd, ho⟩ (by first | omega | (simp only; omega)))
   refine run_sk (run_pl [yy 0, nn 1, nn 2, nn 3, yy 4] ?_)
   refine yM 98 9 ?_
   replace bx := bx.t s_22
   refine nS (kq 99 (.load 58 (.tmp 11))) rfl rfl trivial (val_loadOwnAgg (n := 5) (vs := encB (bl[k]'hkl)) bx.at_ (by kernel_rfl) (by kernel_rfl) rfl rfl rfl) ?_
   replace hF := hF.st s_22
   refine aT (kq 100 (.buildSlice 23 1 #[(0, (.tmp 99))])) rfl rfl (a_buildSlice (ys := ([(bl[k]'hkl)] : List Bond)) (e := 58) (bytes := 40) hF (by kernel_rfl) rfl (by decide) (by decide) ⟨rfl, ⟨_, rfl, rv_bond.2 rfl⟩, trivial⟩) ?_
   rintro v100 w28 ⟨s_26, g100, hF⟩
   replace hd := hd.st s_26 (by first | decide | (simp <;> omega)) (by first | decide | (simp <;> omega))
   replace ho := ((((ho.t s_12).t s_13).t s_21).t s_22).t s_26
   refine aT (kq 101 (.call { callee := .builtin .append, args := #[(.tmp 98), (.tmp 100)], argTypes := #[23, 23] })) rfl rfl (a_append (e := 58) (bytes := 40) hF (by decide) rfl rfl (by kernel_rfl) (by decide) ho g100 (by simp only [List.length_cons, List.length_nil]; omega) (by simp only [List.length_cons, List.length_nil]; omega)) ?_
   rintro v101 w29 ⟨Cw29, s_27, ho, hF⟩
   replace hd := hd.st s_27 (by first | decide | (simp <;> omega)) (by first | decide | (simp <;> omega))
   refine yA 9 101 ?_
   refine Sch.nil (run_inBlock (run_pl [yy 0, yy 1] ?_))
   refine yI 102 3 62 1 ?_
   refine yM 62 102 ?_
   refine Sch.nil ?_
   replace hT := (((((hT.t s_12).t s_13).t s_21).t s_22).t s_26).t s_27; replace hb := (((((hb.t s_12).t s_13).t s_21).t s_22).t s_26).t s_27; replace hb1 := (((((hb1.t s_12).t s_13).t s_21).t s_22).t s_26).t s_27; replace hp1 := (((((hp1.t s_12).t s_13).t s_21).t s_22).t s_26).t s_27; replace bs := (((((bs.t s_12).t s_13).t s_21).t s_22).t s_26).t s_27; replace br := ((br.t s_22).t s_26).t s_27
   refine kp (sr 3 (sr 4 (sr 5 (sr 8 (sr 9 (sr 60 (sr 61 (sub_cons 62 rfl (eq_int (by simp)) (sub_nil _))))))))) (next1 (k + 1, nl ++ [(bl[k]'hkl)], v101, Cw29) _ ⟨(by first | omega | (simp only; omega)), (hsw.push hkl hG0.2 (by unfold okG at *; (try simp only); omega) rfl rfl), (htc.push hkl (.inl rfl)), hF, hT, hb, hb1, hp1, bs, br, hd, ho⟩ (by first | omega | (simp only; omega)))
  refine run_pl [yy 0, nn 1, nn 2, yy 3, yy 4, yy 5, nn 6, nn 7, yy 8, yy 9, yy 10, yy 11, nn 12, yy 13] ?_
  refine yF 66 58 11 0 0 ?_
  refine nS (kq 67 (.load 55 (.tmp 66))) rfl rfl trivial (val_loadOwnAgg (n := 2) (vs := encR (bl[k]'hkl).A) bx.at_ (by kernel_rfl) (by kernel_rfl) rfl rfl rfl) ?_
  replace br := (br.t s_12).t s_13
  refine nS (kq 68 (.load 55 (.tmp 8))) rfl rfl trivial (val_loadOwnAgg (n := 2) (vs := encR r) br.at_ (by kernel_rfl) (by kernel_rfl) rfl rfl rfl) ?_
  refine yV (kq 69 (.binOp .eql 55 (.tmp 67) (.tmp 68) 55)) (fun _ => val_F (val_eqC (a := (bl[k]'hkl).A) (b := r) Tryz.underlying55 (by decide) (by decide) (by kernel_rfl) Tryz.underlying3 rfl rfl) hA) ?_
  refine yM 70 69 ?_
  refine yFg 71 58 11 1 2 4 false ?_
  refine nS (kg 72 (.load 55 (.tmp 71)) 4 false) rfl rfl trivial (val_loadOwnAgg (n := 2) (vs := encR (bl[k]'hkl).B) bx.at_ (by kernel_rfl) (by kernel_rfl) rfl rfl rfl) ?_
  refine nS (kg 73 (.load 55 (.tmp 8)) 4 false) rfl rfl trivial (val_loadOwnAgg (n := 2) (vs := encR r) br.at_ (by kernel_rfl) (by kernel_rfl) rfl rfl rfl) ?_
  refine yV (kg 74 (.binOp .eql 55 (.tmp 72) (.tmp 73) 55) 4 false) (fun _ => val_F (val_eqC (a := (bl[k]'hkl).B) (b := r) Tryz.underlying55 (by decide) (by decide) (by kernel_rfl) Tryz.underlying3 rfl rfl) hB) ?_
  refine yOf 75 70 74 ?_
  refine yM 76 75 ?_
  refine pX 77 10 true ?_
  refine pW (kg 78 (.call { callee := .value (.func 15), args := #[(.tmp 77), (.const (.int .i64 2))], argTypes := #[30, 3] }) 10 true) rfl rfl trivial ?_
  refine yAf 79 76 78 ?_
  refine Sch.nil (run_cF 79 (run_sk (run_sq (run_sq (run_pl [yy 0, nn 1, nn 2, yy 3, yy 4, yy 5, nn 6, nn 7, yy 8, yy 9, yy 10, yy 11, nn 12, yy 13] ?_)))))
  refine yF 80 58 11 0 0 ?_
  refine nS (kq 81 (.load 55 (.tmp 80))) rfl rfl trivial (val_loadOwnAgg (n := 2) (vs := encR (bl[k]'hkl).A) bx.at_ (by kernel_rfl) (by kernel_rfl) rfl rfl rfl) ?_
  refine nS (kq 82 (.load 55 (.tmp 8))) rfl rfl trivial (val_loadOwnAgg (n := 2) (vs := encR r) br.at_ (by kernel_rfl) (by kernel_rfl) rfl rfl rfl) ?_
  refine yV (kq 83 (.binOp .eql 55 (.tmp 81) (.tmp 82) 55)) (fun _ => val_F (val_eqC (a := (bl[k]'hkl).A) (b := r) Tryz.underlying55 (by decide) (by decide) (by kernel_rfl) Tryz.underlying3 rfl rfl) hA) ?_
  refine yM 84 83 ?_
  refine yFg 85 58 11 1 2 4 false ?_
  refine nS (kg 86 (.load 55 (.tmp 85)) 4 false) rfl rfl trivial (val_loadOwnAgg (n := 2) (vs := encR (bl[k]'hkl).B) bx.at_ (by kernel_rfl) (by kernel_rfl) rfl rfl rfl) ?_
  refine nS (kg 87 (.load 55 (.tmp 8)) 4 false) rfl rfl trivial (val_loadOwnAgg (n := 2) (vs := encR r) br.at_ (by kernel_rfl) (by kernel_rfl) rfl rfl rfl) ?_
  refine yV (kg 88 (.binOp .eql 55 (.tmp 86) (.tmp 87) 55) 4 false) (fun _ => val_F (val_eqC (a := (bl[k]'hkl).B) (b := r) Tryz.underlying55 (by decide) (by decide) (by kernel_rfl) Tryz.underlying3 rfl rfl) hB) ?_
  refine yOf 89 84 88 ?_
  refine yM 90 89 ?_
  refine pX 91 10 true ?_
  refine pW (kg 92 (.call { callee := .value (.func 15), args := #[(.tmp 91), (.const (.int .i64 2))], argTypes := #[30, 3] }) 10 true) rfl rfl trivial ?_
  refine yAf 93 90 92 ?_
  refine Sch.nil (run_cF 93 (run_sk (run_pl [yy 0, nn 1, nn 2, nn 3, yy 4] ?_)))
  refine yM 98 9 ?_
  refine nS (kq 99 (.load 58 (.tmp 11))) rfl rfl trivial (val_loadOwnAgg (n := 5) (vs := encB (bl[k]'hkl)) bx.at_ (by kernel_rfl) (by kernel_rfl) rfl rfl rfl) ?_
  replace hF := hF.st s_13
  refine aT (kq 100 (.buildSlice 23 1 #[(0, (.tmp 99))])) rfl rfl (a_buildSlice (ys := ([(bl[k]'hkl)] : List Bond)) (e := 58) (bytes := 40) hF (by kernel_rfl) rfl (by decide) (by decide) ⟨rfl, ⟨_, rfl, rv_bond.2 rfl⟩, trivial⟩) ?_
  rintro v100 w30 ⟨s_28, g100, hF⟩
  replace hd := hd.st s_28 (by first | decide | (simp <;> omega)) (by first | decide | (simp <;> omega))
  replace ho := ((ho.t s_12).t s_13).t s_28
  refine aT (kq 101 (.call { callee := .builtin .append, args := #[(.tmp 98), (.tmp 100)], argTypes := #[23, 23] })) rfl rfl (a_append (e := 58) (bytes := 40) hF (by decide) rfl rfl (by kernel_rfl) (by decide) ho g100 (by simp only [List.length_cons, List.length_nil]; omega) (by simp only [List.length_cons, List.length_nil]; omega)) ?_
  rintro v101 w31 ⟨Cw31, s_29, ho, hF⟩
  replace hd := hd.st s_29 (by first | decide | (simp <;> omega)) (by first | decide | (simp <;> omega))
  refine yA 9 101 ?_
  refine Sch.nil (run_inBlock (run_pl [yy 0, yy 1] ?_))
  refine yI 102 3 62 1 ?_
  refine yM 62 102 ?_
  refine Sch.nil ?_
  replace hT := (((hT.t s_12).t s_13).t s_28).t s_29; replace hb := (((hb.t s_12).t s_13).t s_28).t s_29; replace hb1 := (((hb1.t s_12).t s_13).t s_28).t s_29; replace hp1 := (((hp1.t s_12).t s_13).t s_28).t s_29; replace bs := (((bs.t s_12).t s_13).t s_28).t s_29; replace br := (br.t s_28).t s_29
  refine kp (sr 3 (sr 4 (sr 5 (sr 8 (sr 9 (sr 60 (sr 61 (sub_cons 62 rfl (eq_int (by simp)) (sub_nil _))))))))) (next1 (k + 1, nl ++ [(bl[k]'hkl)], v101, Cw31) _ ⟨(by first | omega | (simp only; omega)), (hsw.push hkl hG0.2 (by unfold okG at *; (try simp only); omega) rfl rfl), (htc.push hkl (.inl rfl)), hF, hT, hb, hb1, hp1, bs, br, hd, ho⟩ (by first | omega | (simp only; omega)))
 have hkl : k = bl.length := by omega
 have hGn := hsw.gd
 have hvn := hGn.vld (by decide)
 have hfn := hGn.few
 have hPo := (sol_PV (fun i hi => wayS_PV [] _) hSt1).1
 rw [hkl] at htc
 clear hd
 replace hF := hF.frz 6
 replace hT := hT.frz (n := 6) (fun b => Nat.lt_of_lt_of_le (col1_lt2 C b) (by decide))
 replace hb := hb.frz 6
 replace hb1 := hb1.frz 6
 replace hp1 := hp1.frz 6
 replace bs := bs.frz (n := 6) (by decide)
 replace br := br.frz (n := 6) (by decide)
 have ho_ := ho.frz (n := 6) (by decide) (by omega)
 replace ho := ho_
 clear ho_
 refine run_ex 0 ?_
 refine run_sq (run_pl [nn 0, yy 1, nn 2, yy 3, yy 4, yy 5, yy 6, yy 7] ?_)
 refine nS (kq 104 (.load 26 (.tmp 5))) rfl rfl trivial (val_loadOwnAgg (n := 3) (vs := [vb1, vp1, .int .i64 (valueB bl zs1)]) bs.at_ (by kernel_rfl) (by kernel_rfl) rfl rfl rfl) ?_
 refine yM 105 9 ?_
 refine cT (kq 106 (.call { callee := .value (.func 20), args := #[(.tmp 104), (.const (.slice none 0 0)), (.tmp 105), (.const (.slice none 0 0))], argTypes := #[26, 27, 23, 27] })) rfl rfl (ent Tryz.call20 rfl) (touched_ok (old := bl) (nw := nl) (d1 := []) (d2 := []) (tt := valueB bl zs1) hF hb1 hp1 rv_nil ho rv_nil hGv hvn hPo (by decide) (fun i h => by cases h) (fun i h => by cases h) (by decide) (fun i h => by cases h) (fun i h => by cases h)) ?_
 rintro _ w32 ⟨s_30, vt, rfl, ht⟩
 refine yM 103 106 ?_
 refine yE 107 103 0 ?_
 refine yE 108 103 1 ?_
 refine yA 12 107 ?_
 refine yA 13 108 ?_
 refine Sch.nil (run_sq (run_pl [yy 0, nn 1, yy 2, yy 3, yy 4, yy 5, yy 6] ?_))
 refine yM 110 4 ?_
 replace hF := hF.st s_30; replace hb := hb.t s_30
 refine cG 111 27 [110] [23] Tryz.call27 rfl (refOf_ok hF hb (by have := hGv.1; omega)) ?_
 rintro _ w33 ⟨u1, rfl, s_31, hu1⟩
 rw [if_pos hGv.check] at hu1
 rw [hGv.check]
 refine yM 109 111 ?_
 refine yE 112 109 0 ?_
 refine yE 113 109 1 ?_
 refine yA 14 112 ?_
 refine yA 15 113 ?_
 refine Sch.nil (run_sq (run_pl [yy 0, nn 1, yy 2, yy 3, yy 4, yy 5, yy 6] ?_))
 refine yM 115 9 ?_
 replace ho := (ho.t s_30).t s_31; replace hF := hF.st s_31
 refine cG 116 27 [115] [23] Tryz.call27 rfl (refOf_ok hF ho (by have := hvn.1; omega)) ?_
 rintro _ w34 ⟨u2, rfl, s_32, hu2⟩
 rw [if_pos hvn.check] at hu2
 rw [hvn.check]
 refine yM 114 116 ?_
 refine yE 117 114 0 ?_
 refine yE 118 114 1 ?_
 refine yA 16 117 ?_
 refine yA 17 118 ?_
 refine Sch.nil (run_sq (run_sq (run_pl [yy 0, yy 1, yy 2, yy 3, yy 4, yy 5, yy 6, yy 7, yy 8, yy 9] ?_)))
 refine yM 119 13 ?_
 refine yV (kq 120 (.binOp .neq 34 (.tmp 119) (.const (.int .i64 0)) 34)) (fun _ => val_F (val_neq rfl rfl) (by decide)) ?_
 refine yM 121 120 ?_
 refine yMg 122 15 2 false ?_
 refine yV (kg 123 (.binOp .neq 34 (.tmp 122) (.const (.int .i64 0)) 34) 2 false) (fun _ => val_F (val_neq rfl rfl) (by decide)) ?_
 refine yOf 124 121 123 ?_
 refine yM 125 124 ?_
 refine yMg 126 17 6 false ?_
 refine yV (kg 127 (.binOp .neq 34 (.tmp 126) (.const (.int .i64 0)) 34) 6 false) (fun _ => val_F (val_neq rfl rfl) (by decide)) ?_
 refine yOf 128 125 127 ?_
 refine Sch.nil (run_cF 128 (run_sk (run_sq ?_)))
 refine run_draw (id := 24) (ops := F5.o24) [] (K.frz 6 C1) [yy 0, yy 1, yy 3, yy 4, nn 2, nn 5, yy 6, yy 7] Tryz_mixed (by kernel_rfl) (by kernel_rfl) (by kernel_rfl) ?_
 intro w35 s_33
 have hR := Stp.refl [] w35 (K.frz 6 C1)
 replace br := (((br.t s_30).t s_31).t s_32).t s_33
 have br0 := br
 obtain ⟨o, hol, hfo, hbo⟩ := find_in hrm
 obtain ⟨nf, hnf, hnb, hnr⟩ := find_there nl r
 refine yM 129 14 ?_
 refine yS (kq 130 (.load 55 (.tmp 8))) rfl rfl (fun w' hS => val_loadOwnAgg (n := 2) (vs := encR r) (br0.stay hS (by decide)) (by kernel_rfl) (by kernel_rfl) rfl rfl rfl) ?_
 refine yM 132 16 ?_
 refine yS (kq 133 (.load 55 (.tmp 8))) rfl rfl (fun w' hS => val_loadOwnAgg (n := 2) (vs := encR r) (br0.stay hS (by decide)) (by kernel_rfl) (by kernel_rfl) rfl rfl rfl) ?_
 replace hF := (hF.st s_32).st s_33; replace hu1 := (hu1.t s_32).t s_33
 refine cF 131 28 [129, 130] [24, 55] Tryz.call28 rfl (refFind_ok (c := r) hF hu1) ?_
 rintro vw36 w36 ⟨rfl, s_34⟩
 rw [hfo]
 refine ⟨(hR.trans s_34 (by simp)).ext, ?_⟩
 replace hu2 := (hu2.t s_33).t s_34; replace hF := hF.st s_34
 refine cF 134 28 [132, 133] [24, 55] Tryz.call28 rfl (refFind_ok (c := r) hF hu2) ?_
 rintro vw37 w37 ⟨rfl, s_35⟩
 rw [← hnf]
 replace hR := hR.t s_34
 refine ⟨(hR.trans s_35 (by simp)).ext, ?_⟩
 refine yA 18 131 ?_
 refine yA 19 134 ?_
 refine Sch.nil (run_sq (run_sq (run_pl [yy 0, yy 1, yy 2] ?_)))
 have hlaw := fun X hX => near_law (bo := (partsS bl)[o]'hol) (nn := (if 0 ≤ nf then (partsS nl).getD nf.toNat [] else [])) (k := (splitS nl).length) (X := X) hG0.2 hGn.2 htc hrm hbo (fun h => by rw [if_pos (hnr h).1]; exact (hnr h).2) hX
 refine yM 135 12 ?_
 replace ht := ((((ht.t s_31).t s_32).t s_33).t s_34).t s_35
 refine yS (kq 136 (.call { callee := .builtin .len, args := #[(.tmp 135)], argTypes := #[24] })) rfl rfl (fun w' hS => ht.lenV rfl Tryz.underlying24 w' ) ?_
 refine yC 137 (.int .i64 0) ?_
 refine Sch.nil (run_bk 2 ?_)
 refine run_lp (ι := Nat × (Nat → Nat)) (I := fun x w => x.1 ≤ (unkept bl [] [] nl (splitS nl).length).length ∧ Lim w x.2 ∧ Stp [2, 3, 4, 5, 6, 7, 8, 9] w₀ (col1 C) w x.2 ∧ RV w (Mc x.2) (partsS bl) u1 ∧ RV w (Mc x.2) (partsS nl) u2 ∧ RV w (Mc x.2) (unkept bl [] [] nl (splitS nl).length) vt) (e := fun x => [(14, u1), (16, u2), (18, .int .i64 (o : Nat)), (19, .int .i64 nf), (135, vt), (136, .int .i64 (unkept bl [] [] nl (splitS nl).length).length), (137, .int .i64 x.1)]) (m := fun x => (unkept bl [] [] nl (splitS nl).length).length - x.1) (x₀ := (0, K.frz 6 C1)) (sr 14 (sr 16 (sr 18 (sr 19 (sr 135 (sr 136 (sr 137 (sub_nil _)))))))) ?_ ?_
 ·
   replace hT := (((((hT.t s_30).t s_31).t s_32).t s_33).t s_34).t s_35; replace hu1 := (hu1.t s_34).t s_35; replace hF := hF.st s_35; replace hu2 := hu2.t s_35
   exact ⟨Nat.zero_le _, hF, hT, hu1, hu2, ht⟩
 intro ⟨j, C1⟩ w38 hI next2
 obtain ⟨hj, hF, hT, hu1, hu2, ht⟩ := hI
 try simp only at hj hF hT hu1 hu2 ht
 show Run _ _ _ _ [(14, u1), (16, u2), (18, .int .i64 (o : Nat)), (19, .int .i64 nf), (135, vt), (136, .int .i64 (unkept bl [] [] nl (splitS nl).length).length), (137, .int .i64 j)] _ _
 have hle2 := ht.le
 refine run_sq (run_pl [yy 0] ?_)
 refine yL 138 3 137 136 ?_
 refine Sch.nil (run_sq ?_)
 refine run_i 138 rfl (fun h138 => ?_) (fun h138 => ?_)
 ·
  have hjl : j < (unkept bl [] [] nl (splitS nl).length).length := by omega
  obtain ⟨xs, hxs⟩ : ∃ xs, xs = ((unkept bl [] [] nl (splitS nl).length)[j]'hjl) := ⟨_, rfl⟩
  have hxa : xs.any (nearB ((partsS bl)[o]'hol) (if 0 ≤ nf then (partsS nl).getD nf.toNat [] else [])) = true := by rw [hxs]; exact hlaw _ (List.getElem_mem hjl)
  refine run_sk (run_sq (run_bk 3 (run_sq (run_pl [yy 0, nn 1, yy 2] ?_))))
  refine iR 52 139 24 135 137 ht rfl (h := ?_)
  intro b139 o139 h139
  try simp only [Int.toNat_natCast] at h139
  refine lN (kq 140 (.load 52 (.tmp 139))) rfl rfl trivial h139 (by kernel_rfl) rfl rfl ?_
  intro v140 g140
  rw [← hxs] at g140
  refine yA 21 140 ?_
  refine Sch.nil (run_sq (run_pl [yy 0] ?_))
  refine yAc 22 (.bool false) ?_
  refine Sch.nil (run_sq (run_sq (run_pl [yy 0, yy 1, yy 2] ?_)))
  refine yM 141 21 ?_
  refine yS (kq 142 (.call { callee := .builtin .len, args := #[(.tmp 141)], argTypes := #[52] })) rfl rfl (fun w' hS => g140.lenV rfl Tryz.underlying52 w' ) ?_
  refine yC 143 (.int .i64 0) ?_
  refine Sch.nil (run_bk 4 ?_)
  refine run_lp (ι := Nat × Bool × (Nat → Nat)) (I := fun x w => x.1 ≤ xs.length ∧ x.2.1 = (xs.take x.1).any (nearB ((partsS bl)[o]'hol) (if 0 ≤ nf then (partsS nl).getD nf.toNat [] else [])) ∧ Lim w x.2.2 ∧ Stp [2, 3, 4, 5, 6, 7, 8, 9] w₀ (col1 C) w x.2.2 ∧ RV w (Mc x.2.2) (partsS bl) u1 ∧ RV w (Mc x.2.2) (partsS nl) u2 ∧ RV w (Mc x.2.2) (unkept bl [] [] nl (splitS nl).length) vt ∧ RV w (Mc x.2.2) xs v140) (e := fun x => [(14, u1), (16, u2), (18, .int .i64 (o : Nat)), (19, .int .i64 nf), (22, .bool x.2.1), (135, vt), (136, .int .i64 (unkept bl [] [] nl (splitS nl).length).length), (137, .int .i64 j), (141, v140), (142, .int .i64 xs.length), (143, .int .i64 x.1)]) (m := fun x => xs.length - x.1) (x₀ := (0, false, C1)) (sr 14 (sr 16 (sr 18 (sr 19 (sr 22 (sr 135 (sr 136 (sr 137 (sr 141 (sr 142 (sr 143 (sub_nil _)))))))))))) ?_ ?_
  · exact ⟨Nat.zero_le _, by simp, hF, hT, hu1, hu2, ht, g140⟩
  intro ⟨q, nr, C1⟩ w39 hI next3
  obtain ⟨hq, hne, hF, hT, hu1, hu2, ht, g140⟩ := hI
  try simp only at hq hne hF hT hu1 hu2 ht g140
  show Run _ _ _ _ [(14, u1), (16, u2), (18, .int .i64 (o : Nat)), (19, .int .i64 nf), (22, .bool nr), (135, vt), (136, .int .i64 (unkept bl [] [] nl (splitS nl).length).length), (137, .int .i64 j), (141, v140), (142, .int .i64 xs.length), (143, .int .i64 q)] _ _
  have hle3 := g140.le
  refine run_sq (run_pl [yy 0] ?_)
  refine yL 144 3 143 142 ?_
  refine Sch.nil (run_sq ?_)
  refine run_i 144 rfl (fun h144 => ?_) (fun h144 => ?_)
  ·
   have hql : q < xs.length := by omega
   refine run_sk (run_sq (run_bk 5 (run_sq (run_pl [yy 0, nn 1, nn 2, nn 3] ?_))))
   refine iR 55 145 52 141 143 g140 rfl (h := ?_)
   intro b145 o145 h145
   try simp only [Int.toNat_natCast] at h145
   refine lNA (kq 146 (.load 55 (.tmp 145))) rfl rfl trivial h145 (by kernel_rfl) (by kernel_rfl) rfl rfl ?_
   intro v146 g146
   obtain rfl := rv_couple.1 g146
   refine aT (kq 24 (.alloc 55)) rfl rfl (a_alloc (cs := [.int .i64 0, .int .i64 0]) hF 4 (by kernel_rfl)) ?_
   rintro _ w40 ⟨Cw40, bw40, rfl, s_36, by_, hF⟩
   refine aU (k0 (.store 55 (.tmp 24) (.tmp 146))) rfl (a_storeAll (vs := encR (xs[q]'hql)) (n := 2) rfl rfl (by kernel_rfl) rfl rfl (by intro u hu; simp only [encR, List.mem_cons, List.not_mem_nil, or_false] at hu; rcases hu with rfl | rfl <;> rfl) by_ rfl) ?_
   rintro _ w41 ⟨rfl, s_37, by_⟩
   refine Sch.nil ?_
   by_cases hN : nr = true
   ·
    refine run_draw (id := 32) (ops := F5.o32) [] (Cw40) [yy 0, yy 1, yy 2, yy 3, yy 4, yy 5, yy 6, nn 7, yy 8, yy 9, yy 10, yy 11, yy 12, yy 13, yy 14, yy 15, yy 16, yy 17, yy 18, nn 19, yy 20, yy 21, yy 22, yy 23] Tryz_mixed (by kernel_rfl) (by kernel_rfl) (by kernel_rfl) ?_
    intro w42 s_38
    have hR := Stp.refl [] w42 (Cw40)
    replace by_ := by_.t s_38
    have by0 := by_
    replace hu1 := ((hu1.t s_36).t s_37).t s_38
    have hu1_b := hu1
    replace hu2 := ((hu2.t s_36).t s_37).t s_38
    have hu2_b := hu2
    replace ht := ((ht.t s_36).t s_37).t s_38
    have ht_b := ht
    replace g140 := ((g140.t s_36).t s_37).t s_38
    have g140_b := g140
    refine yV (kq 147 (.move (.tmp 22))) (fun _ => val_is (val_move rfl) (congrArg Value.bool hN)) ?_
    refine yM 148 147 ?_
    refine pX 149 1 false ?_
    refine pX 150 1 false ?_
    refine pX 151 1 false ?_
    refine pX 152 1 false ?_
    refine pX 153 1 false ?_
    refine pW (kg 154 (.call { callee := .value (.func 29), args := #[(.tmp 152), (.tmp 153)], argTypes := #[52, 55] }) 1 false) rfl rfl hR.ext ?_
    refine pX 155 1 false ?_
    refine yOt 156 148 155 ?_
    refine yM 157 156 ?_
    refine pX 158 10 false ?_
    refine pX 159 10 false ?_
    refine pX 160 10 false ?_
    refine pX 161 13 true ?_
    refine pX 162 13 true ?_
    refine pX 163 13 true ?_
    refine pX 164 13 true ?_
    refine pX 165 13 true ?_
    refine pW (kg 166 (.call { callee := .value (.func 29), args := #[(.tmp 164), (.tmp 165)], argTypes := #[52, 55] }) 13 true) rfl rfl hR.ext ?_
    refine pX 167 13 true ?_
    refine pX 168 10 false ?_
    refine yOt 169 157 168 ?_
    refine yA 22 169 ?_
    refine Sch.nil (run_inBlock (run_pl [yy 0, yy 1] ?_))
    refine yI 170 3 143 1 ?_
    refine yM 143 170 ?_
    refine Sch.nil ?_
    replace hT := ((hT.t s_36).t s_37).t s_38; replace hF := (hF.st s_37).st s_38
    refine kp (sr 14 (sr 16 (sr 18 (sr 19 (sr 22 (sr 135 (sr 136 (sr 137 (sr 141 (sr 142 (sub_cons 143 rfl (eq_int (by simp)) (sub_nil _)))))))))))) (next3 (q + 1, true, Cw40) _ ⟨(by first | omega | (simp only; omega)), (by (try simp only); rw [List.take_succ_eq_append_getElem hql, List.any_append, ← hne, List.any_cons, List.any_nil]; simp [hN]), hF, hT, hu1, hu2, ht, g140⟩ (by first | omega | (simp only; omega)))
   by_cases hI : (xs[q]'hql) ∈ ((partsS bl)[o]'hol)
   ·
    refine run_draw (id := 32) (ops := F5.o32) [] (Cw40) [yy 0, yy 1, yy 2, yy 3, yy 4, yy 5, yy 6, nn 7, yy 8, yy 9, yy 10, yy 11, yy 12, yy 13, yy 14, yy 15, yy 16, yy 17, yy 18, nn 19, yy 20, yy 21, yy 22, yy 23] Tryz_mixed (by kernel_rfl) (by kernel_rfl) (by kernel_rfl) ?_
    intro w43 s_39
    have hR := Stp.refl [] w43 (Cw40)
    replace by_ := by_.t s_39
    have by0 := by_
    replace hu1 := ((hu1.t s_36).t s_37).t s_39
    have hu1_b := hu1
    replace hu2 := ((hu2.t s_36).t s_37).t s_39
    have hu2_b := hu2
    replace ht := ((ht.t s_36).t s_37).t s_39
    have ht_b := ht
    replace g140 := ((g140.t s_36).t s_37).t s_39
    have g140_b := g140
    refine yV (kq 147 (.move (.tmp 22))) (fun _ => val_is (val_move rfl) (congrArg Value.bool (Bool.eq_false_iff.2 hN))) ?_
    refine yM 148 147 ?_
    refine yMg 149 14 1 false ?_
    refine yMg 150 18 1 false ?_
    refine iS (e := 52) (kg 151 (.indexAddr 24 (.tmp 149) (.tmp 150)) 1 false) rfl rfl hu1_b rfl (by kernel_rfl) rfl (by omega) (by omega) ?_
    intro b151 o151 h151
    try simp only [Int.toNat_natCast] at h151
    refine lS (kg 152 (.load 52 (.tmp 151)) 1 false) rfl rfl (fun w' hS => h151.sy hS) h151 (by kernel_rfl) rfl rfl ?_
    intro v152 g152
    have gb152 := g152
    replace g152 := g152.st hR (by first | decide | (simp <;> omega))
    refine yS (kg 153 (.load 55 (.tmp 24)) 1 false) rfl rfl (fun w' hS => val_loadOwnAgg (n := 2) (vs := encR (xs[q]'hql)) (by0.stay hS (by decide)) (by kernel_rfl) (by kernel_rfl) rfl rfl rfl) ?_
    replace hF := (hF.st s_37).st s_39
    refine cS (kg 154 (.call { callee := .value (.func 29), args := #[(.tmp 152), (.tmp 153)], argTypes := #[52, 55] }) 1 false) rfl rfl (ent Tryz.call29 rfl) (refIndex_ok (c := (xs[q]'hql)) hF g152) ?_
    rintro vw44 w44 ⟨rfl, s_40⟩
    refine ⟨(hR.trans s_40 (by simp)).ext, ?_⟩
    refine yV (kg 155 (.binOp .geq 3 (.tmp 154) (.const (.int .i64 0)) 3) 1 false) (fun _ => val_T (val_geq rfl rfl) (idx_mem.2 hI)) ?_
    refine yOf 156 148 155 ?_
    refine yM 157 156 ?_
    refine pX 158 10 false ?_
    refine pX 159 10 false ?_
    refine pX 160 10 false ?_
    refine pX 161 13 true ?_
    refine pX 162 13 true ?_
    refine pX 163 13 true ?_
    refine pX 164 13 true ?_
    refine pX 165 13 true ?_
    replace hR := hR.t s_40
    refine pW (kg 166 (.call { callee := .value (.func 29), args := #[(.tmp 164), (.tmp 165)], argTypes := #[52, 55] }) 13 true) rfl rfl hR.ext ?_
    refine pX 167 13 true ?_
    refine pX 168 10 false ?_
    refine yOt 169 157 168 ?_
    refine yA 22 169 ?_
    refine Sch.nil (run_inBlock (run_pl [yy 0, yy 1] ?_))
    refine yI 170 3 143 1 ?_
    refine yM 143 170 ?_
    refine Sch.nil ?_
    replace hT := (((hT.t s_36).t s_37).t s_39).t s_40; replace hF := hF.st s_40; replace hu1 := hu1.t s_40; replace hu2 := hu2.t s_40; replace ht := ht.t s_40; replace g140 := g140.t s_40
    refine kp (sr 14 (sr 16 (sr 18 (sr 19 (sr 22 (sr 135 (sr 136 (sr 137 (sr 141 (sr 142 (sub_cons 143 rfl (eq_int (by simp)) (sub_nil _)))))))))))) (next3 (q + 1, true, Cw40) _ ⟨(by first | omega | (simp only; omega)), (by (try simp only); rw [List.take_succ_eq_append_getElem hql, List.any_append, ← hne, List.any_cons, List.any_nil]; simp [nearB, hI]), hF, hT, hu1, hu2, ht, g140⟩ (by first | omega | (simp only; omega)))
   by_cases hW : 0 ≤ nf
   ·
    by_cases hJ : (xs[q]'hql) ∈ ((partsS nl)[nf.toNat]'(by omega))
    ·
     refine run_draw (id := 32) (ops := F5.o32) [] (Cw40) [yy 0, yy 1, yy 2, yy 3, yy 4, yy 5, yy 6, nn 7, yy 8, yy 9, yy 10, yy 11, yy 12, yy 13, yy 14, yy 15, yy 16, yy 17, yy 18, nn 19, yy 20, yy 21, yy 22, yy 23] Tryz_mixed (by kernel_rfl) (by kernel_rfl) (by kernel_rfl) ?_
     intro w45 s_41
     have hR := Stp.refl [] w45 (Cw40)
     replace by_ := by_.t s_41
     have by0 := by_
     replace hu1 := ((hu1.t s_36).t s_37).t s_41
     have hu1_b := hu1
     replace hu2 := ((hu2.t s_36).t s_37).t s_41
     have hu2_b := hu2
     replace ht := ((ht.t s_36).t s_37).t s_41
     have ht_b := ht
     replace g140 := ((g140.t s_36).t s_37).t s_41
     have g140_b := g140
     refine yV (kq 147 (.move (.tmp 22))) (fun _ => val_is (val_move rfl) (congrArg Value.bool (Bool.eq_false_iff.2 hN))) ?_
     refine yM 148 147 ?_
     refine yMg 149 14 1 false ?_
     refine yMg 150 18 1 false ?_
     refine iS (e := 52) (kg 151 (.indexAddr 24 (.tmp 149) (.tmp 150)) 1 false) rfl rfl hu1_b rfl (by kernel_rfl) rfl (by omega) (by omega) ?_
     intro b151 o151 h151
     try simp only [Int.toNat_natCast] at h151
     refine lS (kg 152 (.load 52 (.tmp 151)) 1 false) rfl rfl (fun w' hS => h151.sy hS) h151 (by kernel_rfl) rfl rfl ?_
     intro v152 g152
     have gb152 := g152
     replace g152 := g152.st hR (by first | decide | (simp <;> omega))
     refine yS (kg 153 (.load 55 (.tmp 24)) 1 false) rfl rfl (fun w' hS => val_loadOwnAgg (n := 2) (vs := encR (xs[q]'hql)) (by0.stay hS (by decide)) (by kernel_rfl) (by kernel_rfl) rfl rfl rfl) ?_
     replace hF := (hF.st s_37).st s_41
     refine cS (kg 154 (.call { callee := .value (.func 29), args := #[(.tmp 152), (.tmp 153)], argTypes := #[52, 55] }) 1 false) rfl rfl (ent Tryz.call29 rfl) (refIndex_ok (c := (xs[q]'hql)) hF g152) ?_
     rintro vw46 w46 ⟨rfl, s_42⟩
     refine ⟨(hR.trans s_42 (by simp)).ext, ?_⟩
     refine yV (kg 155 (.binOp .geq 3 (.tmp 154) (.const (.int .i64 0)) 3) 1 false) (fun _ => val_F (val_geq rfl rfl) (fun e => hI (idx_mem.1 e))) ?_
     refine yOf 156 148 155 ?_
     refine yM 157 156 ?_
     refine yMg 158 19 10 false ?_
     refine yV (kg 159 (.binOp .geq 3 (.tmp 158) (.const (.int .i64 0)) 3) 10 false) (fun _ => val_T (val_geq rfl rfl) hW) ?_
     refine yMg 160 159 10 false ?_
     refine yMg 161 16 13 true ?_
     refine yMg 162 19 13 true ?_
     refine iS (e := 52) (kg 163 (.indexAddr 24 (.tmp 161) (.tmp 162)) 13 true) rfl rfl hu2_b rfl (by kernel_rfl) rfl (by omega) (by omega) ?_
     intro b163 o163 h163
     try simp only [Int.toNat_natCast] at h163
     refine lS (kg 164 (.load 52 (.tmp 163)) 13 true) rfl rfl (fun w' hS => h163.sy hS) h163 (by kernel_rfl) rfl rfl ?_
     intro v164 g164
     have gb164 := g164
     replace hR := hR.t s_42
     replace g164 := g164.st hR (by first | decide | (simp <;> omega))
     refine yS (kg 165 (.load 55 (.tmp 24)) 13 true) rfl rfl (fun w' hS => val_loadOwnAgg (n := 2) (vs := encR (xs[q]'hql)) (by0.stay hS (by decide)) (by kernel_rfl) (by kernel_rfl) rfl rfl rfl) ?_
     replace hF := hF.st s_42
     refine cS (kg 166 (.call { callee := .value (.func 29), args := #[(.tmp 164), (.tmp 165)], argTypes := #[52, 55] }) 13 true) rfl rfl (ent Tryz.call29 rfl) (refIndex_ok (c := (xs[q]'hql)) hF g164) ?_
     rintro vw47 w47 ⟨rfl, s_43⟩
     refine ⟨(hR.trans s_43 (by simp)).ext, ?_⟩
     refine yV (kg 167 (.binOp .geq 3 (.tmp 166) (.const (.int .i64 0)) 3) 13 true) (fun _ => val_T (val_geq rfl rfl) (idx_mem.2 hJ)) ?_
     refine yV (kg 168 (.pick (.tmp 160) (.tmp 167) (.const (.bool false))) 10 false) (fun _ => val_pick_t rfl rfl) ?_
     refine yOf 169 157 168 ?_
     refine yA 22 169 ?_
     refine Sch.nil (run_inBlock (run_pl [yy 0, yy 1] ?_))
     refine yI 170 3 143 1 ?_
     refine yM 143 170 ?_
     refine Sch.nil ?_
     replace hT := ((((hT.t s_36).t s_37).t s_41).t s_42).t s_43; replace hu1 := (hu1.t s_42).t s_43; replace hu2 := (hu2.t s_42).t s_43; replace ht := (ht.t s_42).t s_43; replace g140 := (g140.t s_42).t s_43; replace hF := hF.st s_43
     refine kp (sr 14 (sr 16 (sr 18 (sr 19 (sr 22 (sr 135 (sr 136 (sr 137 (sr 141 (sr 142 (sub_cons 143 rfl (eq_int (by simp)) (sub_nil _)))))))))))) (next3 (q + 1, true, Cw40) _ ⟨(by first | omega | (simp only; omega)), (by (try simp only); rw [List.take_succ_eq_append_getElem hql, List.any_append, ← hne, List.any_cons, List.any_nil]; rw [if_pos hW, getD_at (show nf.toNat < (partsS nl).length by omega)]; simp [nearB, hJ]), hF, hT, hu1, hu2, ht, g140⟩ (by first | omega | (simp only; omega)))
    refine run_draw (id := 32) (ops := F5.o32) [] (Cw40) [yy 0, yy 1, yy 2, yy 3, yy 4, yy 5, yy 6, nn 7, yy 8, yy 9, yy 10, yy 11, yy 12, yy 13, yy 14, yy 15, yy 16, yy 17, yy 18, nn 19, yy 20, yy 21, yy 22, yy 23] Tryz_mixed (by kernel_rfl) (by kernel_rfl) (by kernel_rfl) ?_
    intro w48 s_44
    have hR := Stp.refl [] w48 (Cw40)
    replace by_ := by_.t s_44
    have by0 := by_
    replace hu1 := ((hu1.t s_36).t s_37).t s_44
    have hu1_b := hu1
    replace hu2 := ((hu2.t s_36).t s_37).t s_44
    have hu2_b := hu2
    replace ht := ((ht.t s_36).t s_37).t s_44
    have ht_b := ht
    replace g140 := ((g140.t s_36).t s_37).t s_44
    have g140_b := g140
    refine yV (kq 147 (.move (.tmp 22))) (fun _ => val_is (val_move rfl) (congrArg Value.bool (Bool.eq_false_iff.2 hN))) ?_
    refine yM 148 147 ?_
    refine yMg 149 14 1 false ?_
    refine yMg 150 18 1 false ?_
    refine iS (e := 52) (kg 151 (.indexAddr 24 (.tmp 149) (.tmp 150)) 1 false) rfl rfl hu1_b rfl (by kernel_rfl) rfl (by omega) (by omega) ?_
    intro b151 o151 h151
    try simp only [Int.toNat_natCast] at h151
    refine lS (kg 152 (.load 52 (.tmp 151)) 1 false) rfl rfl (fun w' hS => h151.sy hS) h151 (by kernel_rfl) rfl rfl ?_
    intro v152 g152
    have gb152 := g152
    replace g152 := g152.st hR (by first | decide | (simp <;> omega))
    refine yS (kg 153 (.load 55 (.tmp 24)) 1 false) rfl rfl (fun w' hS => val_loadOwnAgg (n := 2) (vs := encR (xs[q]'hql)) (by0.stay hS (by decide)) (by kernel_rfl) (by kernel_rfl) rfl rfl rfl) ?_
    replace hF := (hF.st s_37).st s_44
    refine cS (kg 154 (.call { callee := .value (.func 29), args := #[(.tmp 152), (.tmp 153)], argTypes := #[52, 55] }) 1 false) rfl rfl (ent Tryz.call29 rfl) (refIndex_ok (c := (xs[q]'hql)) hF g152) ?_
    rintro vw49 w49 ⟨rfl, s_45⟩
    refine ⟨(hR.trans s_45 (by simp)).ext, ?_⟩
    refine yV (kg 155 (.binOp .geq 3 (.tmp 154) (.const (.int .i64 0)) 3) 1 false) (fun _ => val_F (val_geq rfl rfl) (fun e => hI (idx_mem.1 e))) ?_
    refine yOf 156 148 155 ?_
    refine yM 157 156 ?_
    refine yMg 158 19 10 false ?_
    refine yV (kg 159 (.binOp .geq 3 (.tmp 158) (.const (.int .i64 0)) 3) 10 false) (fun _ => val_T (val_geq rfl rfl) hW) ?_
    refine yMg 160 159 10 false ?_
    refine yMg 161 16 13 true ?_
    refine yMg 162 19 13 true ?_
    refine iS (e := 52) (kg 163 (.indexAddr 24 (.tmp 161) (.tmp 162)) 13 true) rfl rfl hu2_b rfl (by kernel_rfl) rfl (by omega) (by omega) ?_
    intro b163 o163 h163
    try simp only [Int.toNat_natCast] at h163
    refine lS (kg 164 (.load 52 (.tmp 163)) 13 true) rfl rfl (fun w' hS => h163.sy hS) h163 (by kernel_rfl) rfl rfl ?_
    intro v164 g164
    have gb164 := g164
    replace hR := hR.t s_45
    replace g164 := g164.st hR (by first | decide | (simp <;> omega))
    refine yS (kg 165 (.load 55 (.tmp 24)) 13 true) rfl rfl (fun w' hS => val_loadOwnAgg (n := 2) (vs := encR (xs[q]'hql)) (by0.stay hS (by decide)) (by kernel_rfl) (by kernel_rfl) rfl rfl rfl) ?_
    replace hF := hF.st s_45
    refine cS (kg 166 (.call { callee := .value (.func 29), args := #[(.tmp 164), (.tmp 165)], argTypes := #[52, 55] }) 13 true) rfl rfl (ent Tryz.call29 rfl) (refIndex_ok (c := (xs[q]'hql)) hF g164) ?_
    rintro vw50 w50 ⟨rfl, s_46⟩
    refine ⟨(hR.trans s_46 (by simp)).ext, ?_⟩
    refine yV (kg 167 (.binOp .geq 3 (.tmp 166) (.const (.int .i64 0)) 3) 13 true) (fun _ => val_F (val_geq rfl rfl) (fun e => hJ (idx_mem.1 e))) ?_
    refine yV (kg 168 (.pick (.tmp 160) (.tmp 167) (.const (.bool false))) 10 false) (fun _ => val_pick_t rfl rfl) ?_
    refine yOf 169 157 168 ?_
    refine yA 22 169 ?_
    refine Sch.nil (run_inBlock (run_pl [yy 0, yy 1] ?_))
    refine yI 170 3 143 1 ?_
    refine yM 143 170 ?_
    refine Sch.nil ?_
    replace hT := ((((hT.t s_36).t s_37).t s_44).t s_45).t s_46; replace hu1 := (hu1.t s_45).t s_46; replace hu2 := (hu2.t s_45).t s_46; replace ht := (ht.t s_45).t s_46; replace g140 := (g140.t s_45).t s_46; replace hF := hF.st s_46
    refine kp (sr 14 (sr 16 (sr 18 (sr 19 (sr 22 (sr 135 (sr 136 (sr 137 (sr 141 (sr 142 (sub_cons 143 rfl (eq_int (by simp)) (sub_nil _)))))))))))) (next3 (q + 1, false, Cw40) _ ⟨(by first | omega | (simp only; omega)), (by (try simp only); rw [List.take_succ_eq_append_getElem hql, List.any_append, ← hne, List.any_cons, List.any_nil]; rw [if_pos hW, getD_at (show nf.toNat < (partsS nl).length by omega)]; simp [nearB, hN, hI, hJ]), hF, hT, hu1, hu2, ht, g140⟩ (by first | omega | (simp only; omega)))
   refine run_draw (id := 32) (ops := F5.o32) [] (Cw40) [yy 0, yy 1, yy 2, yy 3, yy 4, yy 5, yy 6, nn 7, yy 8, yy 9, yy 10, yy 11, yy 12, yy 13, yy 14, yy 15, yy 16, yy 17, yy 18, nn 19, yy 20, yy 21, yy 22, yy 23] Tryz_mixed (by kernel_rfl) (by kernel_rfl) (by kernel_rfl) ?_
   intro w51 s_47
   have hR := Stp.refl [] w51 (Cw40)
   replace by_ := by_.t s_47
   have by0 := by_
   replace hu1 := ((hu1.t s_36).t s_37).t s_47
   have hu1_b := hu1
   replace hu2 := ((hu2.t s_36).t s_37).t s_47
   have hu2_b := hu2
   replace ht := ((ht.t s_36).t s_37).t s_47
   have ht_b := ht
   replace g140 := ((g140.t s_36).t s_37).t s_47
   have g140_b := g140
   refine yV (kq 147 (.move (.tmp 22))) (fun _ => val_is (val_move rfl) (congrArg Value.bool (Bool.eq_false_iff.2 hN))) ?_
   refine yM 148 147 ?_
   refine yMg 149 14 1 false ?_
   refine yMg 150 18 1 false ?_
   refine iS (e := 52) (kg 151 (.indexAddr 24 (.tmp 149) (.tmp 150)) 1 false) rfl rfl hu1_b rfl (by kernel_rfl) rfl (by omega) (by omega) ?_
   intro b151 o151 h151
   try simp only [Int.toNat_natCast] at h151
   refine lS (kg 152 (.load 52 (.tmp 151)) 1 false) rfl rfl (fun w' hS => h151.sy hS) h151 (by kernel_rfl) rfl rfl ?_
   intro v152 g152
   have gb152 := g152
   replace g152 := g152.st hR (by first | decide | (simp <;> omega))
   refine yS (kg 153 (.load 55 (.tmp 24)) 1 false) rfl rfl (fun w' hS => val_loadOwnAgg (n := 2) (vs := encR (xs[q]'hql)) (by0.stay hS (by decide)) (by kernel_rfl) (by kernel_rfl) rfl rfl rfl) ?_
   replace hF := (hF.st s_37).st s_47
   refine cS (kg 154 (.call { callee := .value (.func 29), args := #[(.tmp 152), (.tmp 153)], argTypes := #[52, 55] }) 1 false) rfl rfl (ent Tryz.call29 rfl) (refIndex_ok (c := (xs[q]'hql)) hF g152) ?_
   rintro vw52 w52 ⟨rfl, s_48⟩
   refine ⟨(hR.trans s_48 (by simp)).ext, ?_⟩
   refine yV (kg 155 (.binOp .geq 3 (.tmp 154) (.const (.int .i64 0)) 3) 1 false) (fun _ => val_F (val_geq rfl rfl) (fun e => hI (idx_mem.1 e))) ?_
   refine yOf 156 148 155 ?_
   refine yM 157 156 ?_
   refine yMg 158 19 10 false ?_
   refine yV (kg 159 (.binOp .geq 3 (.tmp 158) (.const (.int .i64 0)) 3) 10 false) (fun _ => val_F (val_geq rfl rfl) hW) ?_
   refine yMg 160 159 10 false ?_
   refine pX 161 13 true ?_
   refine pX 162 13 true ?_
   refine pX 163 13 true ?_
   refine pX 164 13 true ?_
   refine pX 165 13 true ?_
   replace hR := hR.t s_48
   refine pW (kg 166 (.call { callee := .value (.func 29), args := #[(.tmp 164), (.tmp 165)], argTypes := #[52, 55] }) 13 true) rfl rfl hR.ext ?_
   refine pX 167 13 true ?_
   refine yV (kg 168 (.pick (.tmp 160) (.tmp 167) (.const (.bool false))) 10 false) (fun _ => val_pick_f rfl rfl) ?_
   refine yOf 169 157 168 ?_
   refine yA 22 169 ?_
   refine Sch.nil (run_inBlock (run_pl [yy 0, yy 1] ?_))
   refine yI 170 3 143 1 ?_
   refine yM 143 170 ?_
   refine Sch.nil ?_
   replace hT := (((hT.t s_36).t s_37).t s_47).t s_48; replace hF := hF.st s_48; replace hu1 := hu1.t s_48; replace hu2 := hu2.t s_48; replace ht := ht.t s_48; replace g140 := g140.t s_48
   refine kp (sr 14 (sr 16 (sr 18 (sr 19 (sr 22 (sr 135 (sr 136 (sr 137 (sr 141 (sr 142 (sub_cons 143 rfl (eq_int (by simp)) (sub_nil _)))))))))))) (next3 (q + 1, false, Cw40) _ ⟨(by first | omega | (simp only; omega)), (by (try simp only); rw [List.take_succ_eq_append_getElem hql, List.any_append, ← hne, List.any_cons, List.any_nil]; rw [if_neg hW]; simp [nearB, hN, hI]), hF, hT, hu1, hu2, ht, g140⟩ (by first | omega | (simp only; omega)))
  have hql : q = xs.length := by omega
  rw [hql, List.take_length, hxa] at hne
  subst hne
  refine run_ex 4 ?_
  refine run_sq (run_pl [yy 0, yy 1] ?_)
  refine yM 171 22 ?_
  refine yV (kq 172 (.unOp .not 4 (.tmp 171))) (fun _ => val_not rfl) ?_
  refine Sch.nil (run_cF 172 (run_sk (run_inBlock (run_pl [yy 0, yy 1] ?_))))
  refine yI 173 3 137 1 ?_
  refine yM 137 173 ?_
  refine Sch.nil ?_
  refine kp (sr 14 (sr 16 (sr 18 (sr 19 (sr 135 (sr 136 (sub_cons 137 rfl (eq_int (by simp)) (sub_nil _)))))))) (next2 (j + 1, C1) _ ⟨(by first | omega | (simp only; omega)), hF, hT, hu1, hu2, ht⟩ (by first | omega | (simp only; omega)))
 have hjl : j = (unkept bl [] [] nl (splitS nl).length).length := by omega
 refine run_ex 2 ?_
 refine run_sq (run_pl [yy 0] ?_)
 refine yAc 2 (.bool true) ?_
 refine Sch.nil ?_
 refine rt1 Tryz.func5 Tryz.results5 ?_
 exact ⟨rfl, hT.out1 (by decide)⟩
namespace F5B
end F5B
end
end Go.Proofs.YtmdhggfehknjjaaGreat
