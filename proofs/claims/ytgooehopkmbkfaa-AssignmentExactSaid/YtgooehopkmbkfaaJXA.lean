/- Steps through functions of the program. -/
import Derived.Test.YtgooehopkmbkfaaJX9
import Derived.Test.YtgooehopkmbkfaaL2
import Derived.Test.YtgooehopkmbkfaaJU9
set_option linter.unusedVariables false
set_option linter.unusedSimpArgs false
set_option maxRecDepth 100000
set_option maxHeartbeats 4000000
namespace Go.Proofs.Ytgooehopkmbkfaa
open Go.K Go.K.Rep

namespace F23
noncomputable def c0 := bodyOf Try.f23
noncomputable def c7 := (cl (cl (cr (cl (cr c0)))))
noncomputable def c15 := (cl (cr (cr (cr (cr c0)))))
noncomputable def o5 := rops c15
noncomputable def c16 := (cr (cr (cr (cr (cr c0)))))
noncomputable def c22 := (cl (cl (cl (cr (cl c16)))))
noncomputable def c27 := (cr (cl (cl (cr (cl c16)))))
noncomputable def c33 := (cl (cl (cr (cl (cl c27)))))
noncomputable def o10 := rops c33
noncomputable def c34 := (cr (cl (cr (cl (cl c27)))))
noncomputable def c40 := (cl (cr (cr (cl (cl c27)))))
noncomputable def o12 := rops c40
noncomputable def c41 := (cr (cr (cr (cl (cl c27)))))
noncomputable def o13 := rops c41
noncomputable def c48 := (cl (cl (cr (cl (cr c16)))))
noncomputable def c58 := (cl (cl (cl (cl (cr c48)))))
noncomputable def c59 := (cr (cl (cl (cl (cr c48)))))
noncomputable def c70 := (cl (cr (cl (cr (cr c16)))))
noncomputable def c80 := (cl (cl (cl (cr (cl c70)))))
noncomputable def c87 := (cr (cl (cl (cr (cl c70)))))
noncomputable def c91 := (cl (cl (cr (cr (cr c16)))))
noncomputable def c92 := (cr (cl (cr (cr (cr c16)))))
noncomputable def c102 := (cl (cl (cr (cl (cl c92)))))
noncomputable def o29 := rops (cl c102)
noncomputable def c111 := (cl (cr (cr (cr (cr c16)))))
end F23
theorem rproves_rest {w₀ w₁ : World} {C C₁ : Nat → Nat} {n0 m0 : Nat} {l : List K.Edge} {cs : List Couple} {ul vl : List Int} {pl pc pu pv vw0 v45 v47 : Value} (hF : Lim w₁ C₁) (hT : Stp [2, 3, 4, 5, 6, 7, 8, 9] w₀ (col1 C) w₁ C₁) (hl : RV w₁ (Mc C₁) l pl) (hc : RV w₁ (Mc C₁) cs pc) (hu : RV w₁ (Mc C₁) ul pu) (hv : RV w₁ (Mc C₁) vl pv) (hwv : RV w₁ (Mc C₁) (mmat l n0 m0) vw0) (hr : OwnL w₁ C₁ 3 4 v45 (List.replicate n0 false)) (hk : OwnL w₁ C₁ 4 4 v47 (List.replicate m0 false)) (hz : chkE n0 m0 l = 0) (hV : VE n0 m0 l) (hn6 : n0 ≤ 64) (hm6 : m0 ≤ 64) (hun2 : ul.length = n0) (hvn2 : vl.length = m0) (hMx : MxOK n0 m0 (mmat l n0 m0)) : Run Try.prog 23 218 [.code F23.c16] [(0, .int .i64 n0), (1, .int .i64 m0), (2, pl), (3, pc), (4, pu), (5, pv), (13, vw0), (14, .int .i64 0), (15, .int .i64 0), (16, v45), (17, v47)] w₁ (fun v w' => v = .bool (pvB n0 m0 l cs ul vl) ∧ Stp [] w₀ C w' C) := by
 have hel := hV.len
 refine run_sq ?_
 refine run_sq ?_
 refine run_pl [yy 0] ?_
 refine yAc 18 (.int .i64 0) ?_
 refine Sch.nil ?_
 refine run_bk 0 ?_
 
 refine run_lp (ι := Nat × (List Bool) × (List Bool) × (Nat → Nat)) (I := fun x w => x.1 ≤ cs.length ∧ RpI n0 m0 l cs x.1 x.2.1 x.2.2.1 ∧ Lim w x.2.2.2 ∧ Stp [2, 3, 4, 5, 6, 7, 8, 9] w₀ (col1 C) w x.2.2.2 ∧ RV w (Mc x.2.2.2) l pl ∧ RV w (Mc x.2.2.2) cs pc ∧ RV w (Mc x.2.2.2) ul pu ∧ RV w (Mc x.2.2.2) vl pv ∧ RV w (Mc x.2.2.2) (mmat l n0 m0) vw0 ∧ OwnL w x.2.2.2 3 4 v45 x.2.1 ∧ OwnL w x.2.2.2 4 4 v47 x.2.2.1) (e := fun x => [(0, .int .i64 n0), (1, .int .i64 m0), (2, pl), (3, pc), (4, pu), (5, pv), (13, vw0), (14, .int .i64 (totL l cs x.1)), (15, .int .i64 0), (16, v45), (17, v47), (18, .int .i64 x.1)]) (m := fun x => cs.length - x.1) (x₀ := (0, (List.replicate n0 false), (List.replicate m0 false), C₁)) (sr 0 (sr 1 (sr 2 (sr 3 (sr 4 (sr 5 (sr 13 (sr 14 (sr 15 (sr 16 (sr 17 (sr 18 (sub_nil _))))))))))))) ?_ ?_
 · exact ⟨Nat.zero_le _, RpI.start, hF, hT, hl, hc, hu, hv, hwv, hr, hk⟩
 intro ⟨i, R, Kl, C1⟩ w1 hI next
 obtain ⟨hi, hI, hF, hT, hl, hc, hu, hv, hwv, hr, hk⟩ := hI
 try simp only at hi hI hF hT hl hc hu hv hwv hr hk
 have next1 := next
 clear next
 show Run _ _ _ _ [(0, .int .i64 n0), (1, .int .i64 m0), (2, pl), (3, pc), (4, pu), (5, pv), (13, vw0), (14, .int .i64 (totL l cs i)), (15, .int .i64 0), (16, v45), (17, v47), (18, .int .i64 i)] _ _
 have hRl := hI.r
 have hKl := hI.k
 have hle := hc.le
 have htt := hI.tot hV
 refine run_sq ?_
 refine run_sq ?_
 refine run_pl [yy 0, yy 1, yy 2, yy 3] ?_
 refine yM 48 18 ?_
 refine yM 49 3 ?_
 refine yS (kq 50 (.call { callee := .builtin .len, args := #[(.tmp 49)], argTypes := #[24] })) rfl rfl (fun w' hS => hc.lenV rfl Try.underlying24 w' ) ?_
 refine yV (kq 51 (.binOp .lss 3 (.tmp 48) (.tmp 50) 3)) (fun _ => val_lss rfl rfl) ?_
 refine Sch.nil ?_
 refine run_i 51 rfl (fun h51 => ?_) (fun h51 => ?_)
 ·
  have hil : i < cs.length := by omega
  have hci : cs[i]! = cs[i]'hil := getElem!_pos cs i hil
  have hia : cs[i]!.a = (cs[i]'hil).a := by rw [hci]
  have hib : cs[i]!.b = (cs[i]'hil).b := by rw [hci]
  refine run_sk ?_
  refine run_sq ?_
  refine run_bk 1 ?_
  refine run_sq ?_
  refine run_pl [yy 0, yy 1, yy 2, nn 3, nn 4, nn 5] ?_
  refine yM 54 3 ?_
  refine yM 55 18 ?_
  refine iS (e := 53) (kq 56 (.indexAddr 24 (.tmp 54) (.tmp 55))) rfl rfl hc rfl (by kernel_rfl) rfl (by omega) (by omega) ?_
  intro b56 o56 h56
  try simp only [Int.toNat_natCast] at h56
  refine lNA (kq 57 (.load 53 (.tmp 56))) rfl rfl trivial h56 (by kernel_rfl) (by kernel_rfl) rfl rfl ?_
  intro v57 g57
  obtain rfl := rv_couple.1 g57
  refine aS (kq 19 (.alloc 53)) rfl rfl (a_alloc (cs := [.int .i64 0, .int .i64 0]) hF 5 (by kernel_rfl)) ?_
  rintro _ w2 ⟨Cw2, bw2, rfl, hs, hx, hF⟩
  refine ⟨trivial, ?_⟩
  replace hT := hT.t hs; replace hl := hl.t hs; replace hc := hc.t hs; replace hu := hu.t hs; replace hv := hv.t hs; replace hwv := hwv.t hs; replace hr := hr.t hs; replace hk := hk.t hs; replace h56 := h56.t hs
  refine aN (k0 (.store 53 (.tmp 19) (.tmp 57))) rfl (a_storeAll (vs := [.int .i64 (cs[i]'hil).a, .int .i64 (cs[i]'hil).b]) (n := 2) rfl rfl (by kernel_rfl) rfl rfl (by intro u hu; simp only [List.mem_cons, List.not_mem_nil, or_false] at hu; rcases hu with rfl | rfl <;> rfl) hx rfl) ?_
  rintro _ w3 ⟨rfl, hs, hx⟩
  refine ⟨trivial, ?_⟩
  replace hF := hF.st hs
  replace hT := hT.t hs; replace hl := hl.t hs; replace hc := hc.t hs; replace hu := hu.t hs; replace hv := hv.t hs; replace hwv := hwv.t hs; replace hr := hr.t hs; replace hk := hk.t hs; replace h56 := h56.t hs
  refine Sch.nil ?_
  refine run_sq ?_
  refine run_sq ?_
  refine run_cut 118 (decide (¬ okC l cs i)) (Cw2) ?_ ?_
  ·
   intro hcut
   by_cases hA : (cs[i]'hil).a < 0
   ·
    refine run_draw (id := 10) (ops := F23.o10) [] (Cw2) [yy 0, yy 1, yy 2, yy 3, yy 4, yy 5, yy 6, yy 7, yy 8, yy 9, yy 10, yy 11, yy 12, yy 13, yy 14, yy 15, yy 16, yy 17, yy 18, yy 19, yy 20, yy 21, yy 22, yy 23, yy 24, yy 25, yy 26, yy 27, yy 28, yy 29, yy 30, yy 31, yy 32, yy 33, yy 34, yy 35, yy 36, yy 37, yy 38, yy 39, yy 40, yy 41, yy 42, yy 43, yy 44, yy 45, yy 46, yy 47, yy 48, yy 49, yy 50, yy 51, yy 52, yy 53, yy 54, yy 55, yy 56, yy 57, yy 58, yy 59, yy 60] Try_mixed (by kernel_rfl) (by kernel_rfl) (by kernel_rfl) ?_
    intro w4 hs
    replace hF := hF.st hs
    replace hT := hT.t hs; replace hl := hl.t hs; replace hc := hc.t hs; replace hu := hu.t hs; replace hv := hv.t hs; replace hwv := hwv.t hs; replace hr := hr.t hs; replace hk := hk.t hs; replace h56 := h56.t hs; replace hx := hx.t hs
    have hcs := hs
    refine yF 58 53 19 0 0 ?_
    refine yS (kq 59 (.load 3 (.tmp 58))) rfl rfl (fun w' hS => val_loadOwn (hx.sy hS) (by kernel_rfl) rfl rfl) ?_
    refine yV (kq 60 (.binOp .lss 3 (.tmp 59) (.const (.int .i64 0)) 3)) (fun _ => val_T (val_lss rfl rfl) hA) ?_
    refine yM 61 60 ?_
    refine pX 62 3 false ?_
    refine pX 63 3 false ?_
    refine pX 64 3 false ?_
    refine pX 65 3 false ?_
    refine yOt 66 61 65 ?_
    refine yM 67 66 ?_
    refine pX 68 9 false ?_
    refine pX 69 9 false ?_
    refine pX 70 9 false ?_
    refine yOt 71 67 70 ?_
    refine yM 72 71 ?_
    refine pX 73 14 false ?_
    refine pX 74 14 false ?_
    refine pX 75 14 false ?_
    refine pX 76 14 false ?_
    refine yOt 77 72 76 ?_
    refine yM 78 77 ?_
    refine pX 79 20 false ?_
    refine pX 80 20 false ?_
    refine pX 81 20 false ?_
    refine pX 82 20 false ?_
    refine pX 83 20 false ?_
    refine pX 84 20 false ?_
    refine pX 85 20 false ?_
    refine pX 86 20 false ?_
    refine pX 87 20 false ?_
    refine pX 88 20 false ?_
    refine yOt 89 78 88 ?_
    refine yM 90 89 ?_
    refine pX 91 32 false ?_
    refine pX 92 32 false ?_
    refine pX 93 32 false ?_
    refine pX 94 32 false ?_
    refine pX 95 32 false ?_
    refine yOt 96 90 95 ?_
    refine yM 97 96 ?_
    refine pX 98 39 false ?_
    refine pX 99 39 false ?_
    refine pX 100 39 false ?_
    refine pX 101 39 false ?_
    refine pX 102 39 false ?_
    refine yOt 103 97 102 ?_
    refine yM 104 103 ?_
    refine pX 105 46 false ?_
    refine pX 106 46 false ?_
    refine pX 107 46 false ?_
    refine pX 108 49 true ?_
    refine pX 109 49 true ?_
    refine pX 110 49 true ?_
    refine pX 111 49 true ?_
    refine pX 112 49 true ?_
    refine pX 113 49 true ?_
    refine pX 114 49 true ?_
    refine pX 115 49 true ?_
    refine pX 116 49 true ?_
    refine pX 117 46 false ?_
    refine yOt 118 104 117 ?_
    exact Sch.nil (hcut _ _ _ hcs rfl (eq_bool (decide_eq_true (RpI.out hV (by omega))).symm) (sk 61))
   ·
    by_cases hB : (n0 : Int) ≤ (cs[i]'hil).a
    ·
     refine run_draw (id := 10) (ops := F23.o10) [] (Cw2) [yy 0, yy 1, yy 2, yy 3, yy 4, yy 5, yy 6, yy 7, yy 8, yy 9, yy 10, yy 11, yy 12, yy 13, yy 14, yy 15, yy 16, yy 17, yy 18, yy 19, yy 20, yy 21, yy 22, yy 23, yy 24, yy 25, yy 26, yy 27, yy 28, yy 29, yy 30, yy 31, yy 32, yy 33, yy 34, yy 35, yy 36, yy 37, yy 38, yy 39, yy 40, yy 41, yy 42, yy 43, yy 44, yy 45, yy 46, yy 47, yy 48, yy 49, yy 50, yy 51, yy 52, yy 53, yy 54, yy 55, yy 56, yy 57, yy 58, yy 59, yy 60] Try_mixed (by kernel_rfl) (by kernel_rfl) (by kernel_rfl) ?_
     intro w5 hs
     replace hF := hF.st hs
     replace hT := hT.t hs; replace hl := hl.t hs; replace hc := hc.t hs; replace hu := hu.t hs; replace hv := hv.t hs; replace hwv := hwv.t hs; replace hr := hr.t hs; replace hk := hk.t hs; replace h56 := h56.t hs; replace hx := hx.t hs
     have hcs := hs
     refine yF 58 53 19 0 0 ?_
     refine yS (kq 59 (.load 3 (.tmp 58))) rfl rfl (fun w' hS => val_loadOwn (hx.sy hS) (by kernel_rfl) rfl rfl) ?_
     refine yV (kq 60 (.binOp .lss 3 (.tmp 59) (.const (.int .i64 0)) 3)) (fun _ => val_F (val_lss rfl rfl) hA) ?_
     refine yM 61 60 ?_
     refine yFg 62 53 19 0 0 3 false ?_
     refine yS (kg 63 (.load 3 (.tmp 62)) 3 false) rfl rfl (fun w' hS => val_loadOwn (hx.sy hS) (by kernel_rfl) rfl rfl) ?_
     refine yMg 64 0 3 false ?_
     refine yV (kg 65 (.binOp .geq 3 (.tmp 63) (.tmp 64) 3) 3 false) (fun _ => val_T (val_geq rfl rfl) hB) ?_
     refine yOf 66 61 65 ?_
     refine yM 67 66 ?_
     refine pX 68 9 false ?_
     refine pX 69 9 false ?_
     refine pX 70 9 false ?_
     refine yOt 71 67 70 ?_
     refine yM 72 71 ?_
     refine pX 73 14 false ?_
     refine pX 74 14 false ?_
     refine pX 75 14 false ?_
     refine pX 76 14 false ?_
     refine yOt 77 72 76 ?_
     refine yM 78 77 ?_
     refine pX 79 20 false ?_
     refine pX 80 20 false ?_
     refine pX 81 20 false ?_
     refine pX 82 20 false ?_
     refine pX 83 20 false ?_
     refine pX 84 20 false ?_
     refine pX 85 20 false ?_
     refine pX 86 20 false ?_
     refine pX 87 20 false ?_
     refine pX 88 20 false ?_
     refine yOt 89 78 88 ?_
     refine yM 90 89 ?_
     refine pX 91 32 false ?_
     refine pX 92 32 false ?_
     refine pX 93 32 false ?_
     refine pX 94 32 false ?_
     refine pX 95 32 false ?_
     refine yOt 96 90 95 ?_
     refine yM 97 96 ?_
     refine pX 98 39 false ?_
     refine pX 99 39 false ?_
     refine pX 100 39 false ?_
     refine pX 101 39 false ?_
     refine pX 102 39 false ?_
     refine yOt 103 97 102 ?_
     refine yM 104 103 ?_
     refine pX 105 46 false ?_
     refine pX 106 46 false ?_
     refine pX 107 46 false ?_
     refine pX 108 49 true ?_
     refine pX 109 49 true ?_
     refine pX 110 49 true ?_
     refine pX 111 49 true ?_
     refine pX 112 49 true ?_
     refine pX 113 49 true ?_
     refine pX 114 49 true ?_
     refine pX 115 49 true ?_
     refine pX 116 49 true ?_
     refine pX 117 46 false ?_
     refine yOt 118 104 117 ?_
     exact Sch.nil (hcut _ _ _ hcs rfl (eq_bool (decide_eq_true (RpI.out hV (by omega))).symm) (sk 61))
    ·
     by_cases hC : (cs[i]'hil).b < 0
     ·
      refine run_draw (id := 10) (ops := F23.o10) [] (Cw2) [yy 0, yy 1, yy 2, yy 3, yy 4, yy 5, yy 6, yy 7, yy 8, yy 9, yy 10, yy 11, yy 12, yy 13, yy 14, yy 15, yy 16, yy 17, yy 18, yy 19, yy 20, yy 21, yy 22, yy 23, yy 24, yy 25, yy 26, yy 27, yy 28, yy 29, yy 30, yy 31, yy 32, yy 33, yy 34, yy 35, yy 36, yy 37, yy 38, yy 39, yy 40, yy 41, yy 42, yy 43, yy 44, yy 45, yy 46, yy 47, yy 48, yy 49, yy 50, yy 51, yy 52, yy 53, yy 54, yy 55, yy 56, yy 57, yy 58, yy 59, yy 60] Try_mixed (by kernel_rfl) (by kernel_rfl) (by kernel_rfl) ?_
      intro w6 hs
      replace hF := hF.st hs
      replace hT := hT.t hs; replace hl := hl.t hs; replace hc := hc.t hs; replace hu := hu.t hs; replace hv := hv.t hs; replace hwv := hwv.t hs; replace hr := hr.t hs; replace hk := hk.t hs; replace h56 := h56.t hs; replace hx := hx.t hs
      have hcs := hs
      refine yF 58 53 19 0 0 ?_
      refine yS (kq 59 (.load 3 (.tmp 58))) rfl rfl (fun w' hS => val_loadOwn (hx.sy hS) (by kernel_rfl) rfl rfl) ?_
      refine yV (kq 60 (.binOp .lss 3 (.tmp 59) (.const (.int .i64 0)) 3)) (fun _ => val_F (val_lss rfl rfl) hA) ?_
      refine yM 61 60 ?_
      refine yFg 62 53 19 0 0 3 false ?_
      refine yS (kg 63 (.load 3 (.tmp 62)) 3 false) rfl rfl (fun w' hS => val_loadOwn (hx.sy hS) (by kernel_rfl) rfl rfl) ?_
      refine yMg 64 0 3 false ?_
      refine yV (kg 65 (.binOp .geq 3 (.tmp 63) (.tmp 64) 3) 3 false) (fun _ => val_F (val_geq rfl rfl) hB) ?_
      refine yOf 66 61 65 ?_
      refine yM 67 66 ?_
      refine yFg 68 53 19 1 1 9 false ?_
      refine yS (kg 69 (.load 3 (.tmp 68)) 9 false) rfl rfl (fun w' hS => val_loadOwn (hx.sy hS) (by kernel_rfl) rfl rfl) ?_
      refine yV (kg 70 (.binOp .lss 3 (.tmp 69) (.const (.int .i64 0)) 3) 9 false) (fun _ => val_T (val_lss rfl rfl) hC) ?_
      refine yOf 71 67 70 ?_
      refine yM 72 71 ?_
      refine pX 73 14 false ?_
      refine pX 74 14 false ?_
      refine pX 75 14 false ?_
      refine pX 76 14 false ?_
      refine yOt 77 72 76 ?_
      refine yM 78 77 ?_
      refine pX 79 20 false ?_
      refine pX 80 20 false ?_
      refine pX 81 20 false ?_
      refine pX 82 20 false ?_
      refine pX 83 20 false ?_
      refine pX 84 20 false ?_
      refine pX 85 20 false ?_
      refine pX 86 20 false ?_
      refine pX 87 20 false ?_
      refine pX 88 20 false ?_
      refine yOt 89 78 88 ?_
      refine yM 90 89 ?_
      refine pX 91 32 false ?_
      refine pX 92 32 false ?_
      refine pX 93 32 false ?_
      refine pX 94 32 false ?_
      refine pX 95 32 false ?_
      refine yOt 96 90 95 ?_
      refine yM 97 96 ?_
      refine pX 98 39 false ?_
      refine pX 99 39 false ?_
      refine pX 100 39 false ?_
      refine pX 101 39 false ?_
      refine pX 102 39 false ?_
      refine yOt 103 97 102 ?_
      refine yM 104 103 ?_
      refine pX 105 46 false ?_
      refine pX 106 46 false ?_
      refine pX 107 46 false ?_
      refine pX 108 49 true ?_
      refine pX 109 49 true ?_
      refine pX 110 49 true ?_
      refine pX 111 49 true ?_
      refine pX 112 49 true ?_
      refine pX 113 49 true ?_
      refine pX 114 49 true ?_
      refine pX 115 49 true ?_
      refine pX 116 49 true ?_
      refine pX 117 46 false ?_
      refine yOt 118 104 117 ?_
      exact Sch.nil (hcut _ _ _ hcs rfl (eq_bool (decide_eq_true (RpI.out hV (by omega))).symm) (sk 61))
     ·
      by_cases hD : (m0 : Int) ≤ (cs[i]'hil).b
      ·
       refine run_draw (id := 10) (ops := F23.o10) [] (Cw2) [yy 0, yy 1, yy 2, yy 3, yy 4, yy 5, yy 6, yy 7, yy 8, yy 9, yy 10, yy 11, yy 12, yy 13, yy 14, yy 15, yy 16, yy 17, yy 18, yy 19, yy 20, yy 21, yy 22, yy 23, yy 24, yy 25, yy 26, yy 27, yy 28, yy 29, yy 30, yy 31, yy 32, yy 33, yy 34, yy 35, yy 36, yy 37, yy 38, yy 39, yy 40, yy 41, yy 42, yy 43, yy 44, yy 45, yy 46, yy 47, yy 48, yy 49, yy 50, yy 51, yy 52, yy 53, yy 54, yy 55, yy 56, yy 57, yy 58, yy 59, yy 60] Try_mixed (by kernel_rfl) (by kernel_rfl) (by kernel_rfl) ?_
       intro w7 hs
       replace hF := hF.st hs
       replace hT := hT.t hs; replace hl := hl.t hs; replace hc := hc.t hs; replace hu := hu.t hs; replace hv := hv.t hs; replace hwv := hwv.t hs; replace hr := hr.t hs; replace hk := hk.t hs; replace h56 := h56.t hs; replace hx := hx.t hs
       have hcs := hs
       refine yF 58 53 19 0 0 ?_
       refine yS (kq 59 (.load 3 (.tmp 58))) rfl rfl (fun w' hS => val_loadOwn (hx.sy hS) (by kernel_rfl) rfl rfl) ?_
       refine yV (kq 60 (.binOp .lss 3 (.tmp 59) (.const (.int .i64 0)) 3)) (fun _ => val_F (val_lss rfl rfl) hA) ?_
       refine yM 61 60 ?_
       refine yFg 62 53 19 0 0 3 false ?_
       refine yS (kg 63 (.load 3 (.tmp 62)) 3 false) rfl rfl (fun w' hS => val_loadOwn (hx.sy hS) (by kernel_rfl) rfl rfl) ?_
       refine yMg 64 0 3 false ?_
       refine yV (kg 65 (.binOp .geq 3 (.tmp 63) (.tmp 64) 3) 3 false) (fun _ => val_F (val_geq rfl rfl) hB) ?_
       refine yOf 66 61 65 ?_
       refine yM 67 66 ?_
       refine yFg 68 53 19 1 1 9 false ?_
       refine yS (kg 69 (.load 3 (.tmp 68)) 9 false) rfl rfl (fun w' hS => val_loadOwn (hx.sy hS) (by kernel_rfl) rfl rfl) ?_
       refine yV (kg 70 (.binOp .lss 3 (.tmp 69) (.const (.int .i64 0)) 3) 9 false) (fun _ => val_F (val_lss rfl rfl) hC) ?_
       refine yOf 71 67 70 ?_
       refine yM 72 71 ?_
       refine yFg 73 53 19 1 1 14 false ?_
       refine yS (kg 74 (.load 3 (.tmp 73)) 14 false) rfl rfl (fun w' hS => val_loadOwn (hx.sy hS) (by kernel_rfl) rfl rfl) ?_
       refine yMg 75 1 14 false ?_
       refine yV (kg 76 (.binOp .geq 3 (.tmp 74) (.tmp 75) 3) 14 false) (fun _ => val_T (val_geq rfl rfl) hD) ?_
       refine yOf 77 72 76 ?_
       refine yM 78 77 ?_
       refine pX 79 20 false ?_
       refine pX 80 20 false ?_
       refine pX 81 20 false ?_
       refine pX 82 20 false ?_
       refine pX 83 20 false ?_
       refine pX 84 20 false ?_
       refine pX 85 20 false ?_
       refine pX 86 20 false ?_
       refine pX 87 20 false ?_
       refine pX 88 20 false ?_
       refine yOt 89 78 88 ?_
       refine yM 90 89 ?_
       refine pX 91 32 false ?_
       refine pX 92 32 false ?_
       refine pX 93 32 false ?_
       refine pX 94 32 false ?_
       refine pX 95 32 false ?_
       refine yOt 96 90 95 ?_
       refine yM 97 96 ?_
       refine pX 98 39 false ?_
       refine pX 99 39 false ?_
       refine pX 100 39 false ?_
       refine pX 101 39 false ?_
       refine pX 102 39 false ?_
       refine yOt 103 97 102 ?_
       refine yM 104 103 ?_
       refine pX 105 46 false ?_
       refine pX 106 46 false ?_
       refine pX 107 46 false ?_
       refine pX 108 49 true ?_
       refine pX 109 49 true ?_
       refine pX 110 49 true ?_
       refine pX 111 49 true ?_
       refine pX 112 49 true ?_
       refine pX 113 49 true ?_
       refine pX 114 49 true ?_
       refine pX 115 49 true ?_
       refine pX 116 49 true ?_
       refine pX 117 46 false ?_
       refine yOt 118 104 117 ?_
       exact Sch.nil (hcut _ _ _ hcs rfl (eq_bool (decide_eq_true (RpI.out hV (by omega))).symm) (sk 61))
      ·
       obtain ⟨a0, ha0⟩ : ∃ a0 : Nat, (cs[i]'hil).a = a0 := ⟨(cs[i]'hil).a.toNat, by omega⟩
       obtain ⟨b0, hb0⟩ : ∃ b0 : Nat, (cs[i]'hil).b = b0 := ⟨(cs[i]'hil).b.toNat, by omega⟩
       have han : a0 < n0 := by omega
       have hbm : b0 < m0 := by omega
       have hia2 : cs[i]!.a = (a0 : Int) := by rw [hia, ha0]
       have hib2 : cs[i]!.b = (b0 : Int) := by rw [hib, hb0]
       have hml : a0 < (mmat l n0 m0).length := by rw [hMx.n]; exact han
       have hmr : b0 < ((mmat l n0 m0)[a0]'hml).length := by rw [hMx.m _ (List.getElem_mem _)]; exact hbm
       have hcell : ((mmat l n0 m0)[a0]'hml)[b0]'hmr = pos (edW l) a0 b0 := by rw [← wK_at hml hmr]; exact wK_mmat han hbm
       rw [ha0, hb0] at hcut ⊢
       have hgR : gB R a0 = R[a0]'(by omega) := getD_in _
       have hgK : gB Kl b0 = Kl[b0]'(by omega) := getD_in _
       by_cases hE : pos (edW l) a0 b0 ≤ 0
       ·
        refine run_draw (id := 10) (ops := F23.o10) [] (Cw2) [yy 0, yy 1, yy 2, yy 3, yy 4, yy 5, yy 6, yy 7, yy 8, yy 9, yy 10, yy 11, yy 12, yy 13, yy 14, yy 15, yy 16, yy 17, yy 18, yy 19, yy 20, yy 21, yy 22, yy 23, yy 24, yy 25, yy 26, yy 27, yy 28, yy 29, yy 30, yy 31, yy 32, yy 33, yy 34, yy 35, yy 36, yy 37, yy 38, yy 39, yy 40, yy 41, yy 42, yy 43, yy 44, yy 45, yy 46, yy 47, yy 48, yy 49, yy 50, yy 51, yy 52, yy 53, yy 54, yy 55, yy 56, yy 57, yy 58, yy 59, yy 60] Try_mixed (by kernel_rfl) (by kernel_rfl) (by kernel_rfl) ?_
        intro w8 hs
        replace hF := hF.st hs
        replace hT := hT.t hs; replace hl := hl.t hs; replace hc := hc.t hs; replace hu := hu.t hs; replace hv := hv.t hs; replace hwv := hwv.t hs; replace hr := hr.t hs; replace hk := hk.t hs; replace h56 := h56.t hs; replace hx := hx.t hs
        have hcs := hs
        refine yF 58 53 19 0 0 ?_
        refine yS (kq 59 (.load 3 (.tmp 58))) rfl rfl (fun w' hS => val_loadOwn (hx.sy hS) (by kernel_rfl) rfl rfl) ?_
        refine yV (kq 60 (.binOp .lss 3 (.tmp 59) (.const (.int .i64 0)) 3)) (fun _ => val_F (val_lss rfl rfl) hA) ?_
        refine yM 61 60 ?_
        refine yFg 62 53 19 0 0 3 false ?_
        refine yS (kg 63 (.load 3 (.tmp 62)) 3 false) rfl rfl (fun w' hS => val_loadOwn (hx.sy hS) (by kernel_rfl) rfl rfl) ?_
        refine yMg 64 0 3 false ?_
        refine yV (kg 65 (.binOp .geq 3 (.tmp 63) (.tmp 64) 3) 3 false) (fun _ => val_F (val_geq rfl rfl) hB) ?_
        refine yOf 66 61 65 ?_
        refine yM 67 66 ?_
        refine yFg 68 53 19 1 1 9 false ?_
        refine yS (kg 69 (.load 3 (.tmp 68)) 9 false) rfl rfl (fun w' hS => val_loadOwn (hx.sy hS) (by kernel_rfl) rfl rfl) ?_
        refine yV (kg 70 (.binOp .lss 3 (.tmp 69) (.const (.int .i64 0)) 3) 9 false) (fun _ => val_F (val_lss rfl rfl) hC) ?_
        refine yOf 71 67 70 ?_
        refine yM 72 71 ?_
        refine yFg 73 53 19 1 1 14 false ?_
        refine yS (kg 74 (.load 3 (.tmp 73)) 14 false) rfl rfl (fun w' hS => val_loadOwn (hx.sy hS) (by kernel_rfl) rfl rfl) ?_
        refine yMg 75 1 14 false ?_
        refine yV (kg 76 (.binOp .geq 3 (.tmp 74) (.tmp 75) 3) 14 false) (fun _ => val_F (val_geq rfl rfl) hD) ?_
        refine yOf 77 72 76 ?_
        refine yM 78 77 ?_
        refine yMg 79 13 20 false ?_
        refine yFg 80 53 19 0 0 20 false ?_
        refine yS (kg 81 (.load 3 (.tmp 80)) 20 false) rfl rfl (fun w' hS => val_loadOwn (hx.sy hS) (by kernel_rfl) rfl rfl) ?_
        rw [ha0]
        refine iS (e := 22) (kg 82 (.indexAddr 70 (.tmp 79) (.tmp 81)) 20 false) rfl rfl hwv rfl (by kernel_rfl) rfl (by omega) (by omega) ?_
        intro b82 o82 h82
        try simp only [Int.toNat_natCast] at h82
        refine lS (kg 83 (.load 22 (.tmp 82)) 20 false) rfl rfl (fun w' hS => h82.sy hS) h82 (by kernel_rfl) rfl rfl ?_
        intro v83 g83
        refine yFg 84 53 19 1 1 20 false ?_
        refine yS (kg 85 (.load 3 (.tmp 84)) 20 false) rfl rfl (fun w' hS => val_loadOwn (hx.sy hS) (by kernel_rfl) rfl rfl) ?_
        rw [hb0]
        refine iS (e := 3) (kg 86 (.indexAddr 22 (.tmp 83) (.tmp 85)) 20 false) rfl rfl g83 rfl (by kernel_rfl) rfl (by omega) (by omega) ?_
        intro b86 o86 h86
        try simp only [Int.toNat_natCast] at h86
        refine lS (kg 87 (.load 3 (.tmp 86)) 20 false) rfl rfl (fun w' hS => h86.sy hS) h86 (by kernel_rfl) rfl rfl ?_
        intro v87 g87
        first | (obtain rfl := rv_nat.1 g87) | (obtain rfl := rv_int.1 g87)
        rw [hcell]
        refine yV (kg 88 (.binOp .leq 3 (.tmp 87) (.const (.int .i64 0)) 3) 20 false) (fun _ => val_T (val_leq rfl rfl) hE) ?_
        refine yOf 89 78 88 ?_
        refine yM 90 89 ?_
        refine pX 91 32 false ?_
        refine pX 92 32 false ?_
        refine pX 93 32 false ?_
        refine pX 94 32 false ?_
        refine pX 95 32 false ?_
        refine yOt 96 90 95 ?_
        refine yM 97 96 ?_
        refine pX 98 39 false ?_
        refine pX 99 39 false ?_
        refine pX 100 39 false ?_
        refine pX 101 39 false ?_
        refine pX 102 39 false ?_
        refine yOt 103 97 102 ?_
        refine yM 104 103 ?_
        refine pX 105 46 false ?_
        refine pX 106 46 false ?_
        refine pX 107 46 false ?_
        refine pX 108 49 true ?_
        refine pX 109 49 true ?_
        refine pX 110 49 true ?_
        refine pX 111 49 true ?_
        refine pX 112 49 true ?_
        refine pX 113 49 true ?_
        refine pX 114 49 true ?_
        refine pX 115 49 true ?_
        refine pX 116 49 true ?_
        refine pX 117 46 false ?_
        refine yOt 118 104 117 ?_
        exact Sch.nil (hcut _ _ _ hcs rfl (eq_bool (decide_eq_true (RpI.no_w hV hia2 hib2 hE)).symm) (sk 61))
       ·
        by_cases hG : R[a0]'(by omega) = true
        ·
         refine run_draw (id := 10) (ops := F23.o10) [] (Cw2) [yy 0, yy 1, yy 2, yy 3, yy 4, yy 5, yy 6, yy 7, yy 8, yy 9, yy 10, yy 11, yy 12, yy 13, yy 14, yy 15, yy 16, yy 17, yy 18, yy 19, yy 20, yy 21, yy 22, yy 23, yy 24, yy 25, yy 26, yy 27, yy 28, yy 29, yy 30, yy 31, yy 32, yy 33, yy 34, yy 35, yy 36, yy 37, yy 38, yy 39, yy 40, yy 41, yy 42, yy 43, yy 44, yy 45, yy 46, yy 47, yy 48, yy 49, yy 50, yy 51, yy 52, yy 53, yy 54, yy 55, yy 56, yy 57, yy 58, yy 59, yy 60] Try_mixed (by kernel_rfl) (by kernel_rfl) (by kernel_rfl) ?_
         intro w9 hs
         replace hF := hF.st hs
         replace hT := hT.t hs; replace hl := hl.t hs; replace hc := hc.t hs; replace hu := hu.t hs; replace hv := hv.t hs; replace hwv := hwv.t hs; replace hr := hr.t hs; replace hk := hk.t hs; replace h56 := h56.t hs; replace hx := hx.t hs
         have hcs := hs
         refine yF 58 53 19 0 0 ?_
         refine yS (kq 59 (.load 3 (.tmp 58))) rfl rfl (fun w' hS => val_loadOwn (hx.sy hS) (by kernel_rfl) rfl rfl) ?_
         refine yV (kq 60 (.binOp .lss 3 (.tmp 59) (.const (.int .i64 0)) 3)) (fun _ => val_F (val_lss rfl rfl) hA) ?_
         refine yM 61 60 ?_
         refine yFg 62 53 19 0 0 3 false ?_
         refine yS (kg 63 (.load 3 (.tmp 62)) 3 false) rfl rfl (fun w' hS => val_loadOwn (hx.sy hS) (by kernel_rfl) rfl rfl) ?_
         refine yMg 64 0 3 false ?_
         refine yV (kg 65 (.binOp .geq 3 (.tmp 63) (.tmp 64) 3) 3 false) (fun _ => val_F (val_geq rfl rfl) hB) ?_
         refine yOf 66 61 65 ?_
         refine yM 67 66 ?_
         refine yFg 68 53 19 1 1 9 false ?_
         refine yS (kg 69 (.load 3 (.tmp 68)) 9 false) rfl rfl (fun w' hS => val_loadOwn (hx.sy hS) (by kernel_rfl) rfl rfl) ?_
         refine yV (kg 70 (.binOp .lss 3 (.tmp 69) (.const (.int .i64 0)) 3) 9 false) (fun _ => val_F (val_lss rfl rfl) hC) ?_
         refine yOf 71 67 70 ?_
         refine yM 72 71 ?_
         refine yFg 73 53 19 1 1 14 false ?_
         refine yS (kg 74 (.load 3 (.tmp 73)) 14 false) rfl rfl (fun w' hS => val_loadOwn (hx.sy hS) (by kernel_rfl) rfl rfl) ?_
         refine yMg 75 1 14 false ?_
         refine yV (kg 76 (.binOp .geq 3 (.tmp 74) (.tmp 75) 3) 14 false) (fun _ => val_F (val_geq rfl rfl) hD) ?_
         refine yOf 77 72 76 ?_
         refine yM 78 77 ?_
         refine yMg 79 13 20 false ?_
         refine yFg 80 53 19 0 0 20 false ?_
         refine yS (kg 81 (.load 3 (.tmp 80)) 20 false) rfl rfl (fun w' hS => val_loadOwn (hx.sy hS) (by kernel_rfl) rfl rfl) ?_
         rw [ha0]
         refine iS (e := 22) (kg 82 (.indexAddr 70 (.tmp 79) (.tmp 81)) 20 false) rfl rfl hwv rfl (by kernel_rfl) rfl (by omega) (by omega) ?_
         intro b82 o82 h82
         try simp only [Int.toNat_natCast] at h82
         refine lS (kg 83 (.load 22 (.tmp 82)) 20 false) rfl rfl (fun w' hS => h82.sy hS) h82 (by kernel_rfl) rfl rfl ?_
         intro v83 g83
         refine yFg 84 53 19 1 1 20 false ?_
         refine yS (kg 85 (.load 3 (.tmp 84)) 20 false) rfl rfl (fun w' hS => val_loadOwn (hx.sy hS) (by kernel_rfl) rfl rfl) ?_
         rw [hb0]
         refine iS (e := 3) (kg 86 (.indexAddr 22 (.tmp 83) (.tmp 85)) 20 false) rfl rfl g83 rfl (by kernel_rfl) rfl (by omega) (by omega) ?_
         intro b86 o86 h86
         try simp only [Int.toNat_natCast] at h86
         refine lS (kg 87 (.load 3 (.tmp 86)) 20 false) rfl rfl (fun w' hS => h86.sy hS) h86 (by kernel_rfl) rfl rfl ?_
         intro v87 g87
         first | (obtain rfl := rv_nat.1 g87) | (obtain rfl := rv_int.1 g87)
         rw [hcell]
         refine yV (kg 88 (.binOp .leq 3 (.tmp 87) (.const (.int .i64 0)) 3) 20 false) (fun _ => val_F (val_leq rfl rfl) hE) ?_
         refine yOf 89 78 88 ?_
         refine yM 90 89 ?_
         refine yMg 91 16 32 false ?_
         refine yFg 92 53 19 0 0 32 false ?_
         refine yS (kg 93 (.load 3 (.tmp 92)) 32 false) rfl rfl (fun w' hS => val_loadOwn (hx.sy hS) (by kernel_rfl) rfl rfl) ?_
         rw [ha0]
         refine oI (e' := 4) (kg 94 (.indexAddr 48 (.tmp 91) (.tmp 93)) 32 false) rfl rfl hr rfl (by kernel_rfl) rfl (by omega) (by omega) ?_
         intro g94 hg94
         try simp only [Int.toNat_natCast]
         refine oS (I := []) (kg 95 (.load 4 (.tmp 94)) 32 false) rfl rfl hr hg94 (fun w' hS => hr.sy hg94 hS) (by omega) (by kernel_rfl) rfl rfl ?_
         intro v95 g95
         try simp only [Int.toNat_natCast] at g95
         obtain rfl := rv_bool.1 g95
         rw [hG]
         refine yOf 96 90 95 ?_
         refine yM 97 96 ?_
         refine pX 98 39 false ?_
         refine pX 99 39 false ?_
         refine pX 100 39 false ?_
         refine pX 101 39 false ?_
         refine pX 102 39 false ?_
         refine yOt 103 97 102 ?_
         refine yM 104 103 ?_
         refine pX 105 46 false ?_
         refine pX 106 46 false ?_
         refine pX 107 46 false ?_
         refine pX 108 49 true ?_
         refine pX 109 49 true ?_
         refine pX 110 49 true ?_
         refine pX 111 49 true ?_
         refine pX 112 49 true ?_
         refine pX 113 49 true ?_
         refine pX 114 49 true ?_
         refine pX 115 49 true ?_
         refine pX 116 49 true ?_
         refine pX 117 46 false ?_
         refine yOt 118 104 117 ?_
         exact Sch.nil (hcut _ _ _ hcs rfl (eq_bool (decide_eq_true (hI.no_a hia2 han (by rw [hgR]; exact hG))).symm) (sk 61))
        ·
         by_cases hH : Kl[b0]'(by omega) = true
         ·
          refine run_draw (id := 10) (ops := F23.o10) [] (Cw2) [yy 0, yy 1, yy 2, yy 3, yy 4, yy 5, yy 6, yy 7, yy 8, yy 9, yy 10, yy 11, yy 12, yy 13, yy 14, yy 15, yy 16, yy 17, yy 18, yy 19, yy 20, yy 21, yy 22, yy 23, yy 24, yy 25, yy 26, yy 27, yy 28, yy 29, yy 30, yy 31, yy 32, yy 33, yy 34, yy 35, yy 36, yy 37, yy 38, yy 39, yy 40, yy 41, yy 42, yy 43, yy 44, yy 45, yy 46, yy 47, yy 48, yy 49, yy 50, yy 51, yy 52, yy 53, yy 54, yy 55, yy 56, yy 57, yy 58, yy 59, yy 60] Try_mixed (by kernel_rfl) (by kernel_rfl) (by kernel_rfl) ?_
          intro w10 hs
          replace hF := hF.st hs
          replace hT := hT.t hs; replace hl := hl.t hs; replace hc := hc.t hs; replace hu := hu.t hs; replace hv := hv.t hs; replace hwv := hwv.t hs; replace hr := hr.t hs; replace hk := hk.t hs; replace h56 := h56.t hs; replace hx := hx.t hs
          have hcs := hs
          refine yF 58 53 19 0 0 ?_
          refine yS (kq 59 (.load 3 (.tmp 58))) rfl rfl (fun w' hS => val_loadOwn (hx.sy hS) (by kernel_rfl) rfl rfl) ?_
          refine yV (kq 60 (.binOp .lss 3 (.tmp 59) (.const (.int .i64 0)) 3)) (fun _ => val_F (val_lss rfl rfl) hA) ?_
          refine yM 61 60 ?_
          refine yFg 62 53 19 0 0 3 false ?_
          refine yS (kg 63 (.load 3 (.tmp 62)) 3 false) rfl rfl (fun w' hS => val_loadOwn (hx.sy hS) (by kernel_rfl) rfl rfl) ?_
          refine yMg 64 0 3 false ?_
          refine yV (kg 65 (.binOp .geq 3 (.tmp 63) (.tmp 64) 3) 3 false) (fun _ => val_F (val_geq rfl rfl) hB) ?_
          refine yOf 66 61 65 ?_
          refine yM 67 66 ?_
          refine yFg 68 53 19 1 1 9 false ?_
          refine yS (kg 69 (.load 3 (.tmp 68)) 9 false) rfl rfl (fun w' hS => val_loadOwn (hx.sy hS) (by kernel_rfl) rfl rfl) ?_
          refine yV (kg 70 (.binOp .lss 3 (.tmp 69) (.const (.int .i64 0)) 3) 9 false) (fun _ => val_F (val_lss rfl rfl) hC) ?_
          refine yOf 71 67 70 ?_
          refine yM 72 71 ?_
          refine yFg 73 53 19 1 1 14 false ?_
          refine yS (kg 74 (.load 3 (.tmp 73)) 14 false) rfl rfl (fun w' hS => val_loadOwn (hx.sy hS) (by kernel_rfl) rfl rfl) ?_
          refine yMg 75 1 14 false ?_
          refine yV (kg 76 (.binOp .geq 3 (.tmp 74) (.tmp 75) 3) 14 false) (fun _ => val_F (val_geq rfl rfl) hD) ?_
          refine yOf 77 72 76 ?_
          refine yM 78 77 ?_
          refine yMg 79 13 20 false ?_
          refine yFg 80 53 19 0 0 20 false ?_
          refine yS (kg 81 (.load 3 (.tmp 80)) 20 false) rfl rfl (fun w' hS => val_loadOwn (hx.sy hS) (by kernel_rfl) rfl rfl) ?_
          rw [ha0]
          refine iS (e := 22) (kg 82 (.indexAddr 70 (.tmp 79) (.tmp 81)) 20 false) rfl rfl hwv rfl (by kernel_rfl) rfl (by omega) (by omega) ?_
          intro b82 o82 h82
          try simp only [Int.toNat_natCast] at h82
          refine lS (kg 83 (.load 22 (.tmp 82)) 20 false) rfl rfl (fun w' hS => h82.sy hS) h82 (by kernel_rfl) rfl rfl ?_
          intro v83 g83
          refine yFg 84 53 19 1 1 20 false ?_
          refine yS (kg 85 (.load 3 (.tmp 84)) 20 false) rfl rfl (fun w' hS => val_loadOwn (hx.sy hS) (by kernel_rfl) rfl rfl) ?_
          rw [hb0]
          refine iS (e := 3) (kg 86 (.indexAddr 22 (.tmp 83) (.tmp 85)) 20 false) rfl rfl g83 rfl (by kernel_rfl) rfl (by omega) (by omega) ?_
          intro b86 o86 h86
          try simp only [Int.toNat_natCast] at h86
          refine lS (kg 87 (.load 3 (.tmp 86)) 20 false) rfl rfl (fun w' hS => h86.sy hS) h86 (by kernel_rfl) rfl rfl ?_
          intro v87 g87
          first | (obtain rfl := rv_nat.1 g87) | (obtain rfl := rv_int.1 g87)
          rw [hcell]
          refine yV (kg 88 (.binOp .leq 3 (.tmp 87) (.const (.int .i64 0)) 3) 20 false) (fun _ => val_F (val_leq rfl rfl) hE) ?_
          refine yOf 89 78 88 ?_
          refine yM 90 89 ?_
          refine yMg 91 16 32 false ?_
          refine yFg 92 53 19 0 0 32 false ?_
          refine yS (kg 93 (.load 3 (.tmp 92)) 32 false) rfl rfl (fun w' hS => val_loadOwn (hx.sy hS) (by kernel_rfl) rfl rfl) ?_
          rw [ha0]
          refine oI (e' := 4) (kg 94 (.indexAddr 48 (.tmp 91) (.tmp 93)) 32 false) rfl rfl hr rfl (by kernel_rfl) rfl (by omega) (by omega) ?_
          intro g94 hg94
          try simp only [Int.toNat_natCast]
          refine oS (I := []) (kg 95 (.load 4 (.tmp 94)) 32 false) rfl rfl hr hg94 (fun w' hS => hr.sy hg94 hS) (by omega) (by kernel_rfl) rfl rfl ?_
          intro v95 g95
          try simp only [Int.toNat_natCast] at g95
          obtain rfl := rv_bool.1 g95
          rw [Bool.eq_false_iff.2 hG]
          refine yOf 96 90 95 ?_
          refine yM 97 96 ?_
          refine yMg 98 17 39 false ?_
          refine yFg 99 53 19 1 1 39 false ?_
          refine yS (kg 100 (.load 3 (.tmp 99)) 39 false) rfl rfl (fun w' hS => val_loadOwn (hx.sy hS) (by kernel_rfl) rfl rfl) ?_
          rw [hb0]
          refine oI (e' := 4) (kg 101 (.indexAddr 48 (.tmp 98) (.tmp 100)) 39 false) rfl rfl hk rfl (by kernel_rfl) rfl (by omega) (by omega) ?_
          intro g101 hg101
          try simp only [Int.toNat_natCast]
          refine oS (I := []) (kg 102 (.load 4 (.tmp 101)) 39 false) rfl rfl hk hg101 (fun w' hS => hk.sy hg101 hS) (by omega) (by kernel_rfl) rfl rfl ?_
          intro v102 g102
          try simp only [Int.toNat_natCast] at g102
          obtain rfl := rv_bool.1 g102
          rw [hH]
          refine yOf 103 97 102 ?_
          refine yM 104 103 ?_
          refine pX 105 46 false ?_
          refine pX 106 46 false ?_
          refine pX 107 46 false ?_
          refine pX 108 49 true ?_
          refine pX 109 49 true ?_
          refine pX 110 49 true ?_
          refine pX 111 49 true ?_
          refine pX 112 49 true ?_
          refine pX 113 49 true ?_
          refine pX 114 49 true ?_
          refine pX 115 49 true ?_
          refine pX 116 49 true ?_
          refine pX 117 46 false ?_
          refine yOt 118 104 117 ?_
          exact Sch.nil (hcut _ _ _ hcs rfl (eq_bool (decide_eq_true (hI.no_b hib2 hbm (by rw [hgK]; exact hH))).symm) (sk 61))
         ·
          by_cases hJ : (0 : Int) < i
          ·
           have hcp : cs[i - 1]! = cs[i - 1]'(by omega) := getElem!_pos cs (i - 1) (by omega)
           have hpa : cs[i - 1]!.a = (cs[i - 1]'(by omega)).a := by rw [hcp]
           by_cases hM : (cs[i]'hil).a ≤ (cs[i - 1]'(by omega)).a
           ·
            refine run_draw (id := 10) (ops := F23.o10) [] (Cw2) [yy 0, yy 1, yy 2, yy 3, yy 4, yy 5, yy 6, yy 7, yy 8, yy 9, yy 10, yy 11, yy 12, yy 13, yy 14, yy 15, yy 16, yy 17, yy 18, yy 19, yy 20, yy 21, yy 22, yy 23, yy 24, yy 25, yy 26, yy 27, yy 28, yy 29, yy 30, yy 31, yy 32, yy 33, yy 34, yy 35, yy 36, yy 37, yy 38, yy 39, yy 40, yy 41, yy 42, yy 43, yy 44, yy 45, yy 46, yy 47, yy 48, yy 49, yy 50, yy 51, yy 52, yy 53, yy 54, yy 55, yy 56, yy 57, yy 58, yy 59, yy 60] Try_mixed (by kernel_rfl) (by kernel_rfl) (by kernel_rfl) ?_
            intro w11 hs
            replace hF := hF.st hs
            replace hT := hT.t hs; replace hl := hl.t hs; replace hc := hc.t hs; replace hu := hu.t hs; replace hv := hv.t hs; replace hwv := hwv.t hs; replace hr := hr.t hs; replace hk := hk.t hs; replace h56 := h56.t hs; replace hx := hx.t hs
            have hcs := hs
            refine yF 58 53 19 0 0 ?_
            refine yS (kq 59 (.load 3 (.tmp 58))) rfl rfl (fun w' hS => val_loadOwn (hx.sy hS) (by kernel_rfl) rfl rfl) ?_
            refine yV (kq 60 (.binOp .lss 3 (.tmp 59) (.const (.int .i64 0)) 3)) (fun _ => val_F (val_lss rfl rfl) hA) ?_
            refine yM 61 60 ?_
            refine yFg 62 53 19 0 0 3 false ?_
            refine yS (kg 63 (.load 3 (.tmp 62)) 3 false) rfl rfl (fun w' hS => val_loadOwn (hx.sy hS) (by kernel_rfl) rfl rfl) ?_
            refine yMg 64 0 3 false ?_
            refine yV (kg 65 (.binOp .geq 3 (.tmp 63) (.tmp 64) 3) 3 false) (fun _ => val_F (val_geq rfl rfl) hB) ?_
            refine yOf 66 61 65 ?_
            refine yM 67 66 ?_
            refine yFg 68 53 19 1 1 9 false ?_
            refine yS (kg 69 (.load 3 (.tmp 68)) 9 false) rfl rfl (fun w' hS => val_loadOwn (hx.sy hS) (by kernel_rfl) rfl rfl) ?_
            refine yV (kg 70 (.binOp .lss 3 (.tmp 69) (.const (.int .i64 0)) 3) 9 false) (fun _ => val_F (val_lss rfl rfl) hC) ?_
            refine yOf 71 67 70 ?_
            refine yM 72 71 ?_
            refine yFg 73 53 19 1 1 14 false ?_
            refine yS (kg 74 (.load 3 (.tmp 73)) 14 false) rfl rfl (fun w' hS => val_loadOwn (hx.sy hS) (by kernel_rfl) rfl rfl) ?_
            refine yMg 75 1 14 false ?_
            refine yV (kg 76 (.binOp .geq 3 (.tmp 74) (.tmp 75) 3) 14 false) (fun _ => val_F (val_geq rfl rfl) hD) ?_
            refine yOf 77 72 76 ?_
            refine yM 78 77 ?_
            refine yMg 79 13 20 false ?_
            refine yFg 80 53 19 0 0 20 false ?_
            refine yS (kg 81 (.load 3 (.tmp 80)) 20 false) rfl rfl (fun w' hS => val_loadOwn (hx.sy hS) (by kernel_rfl) rfl rfl) ?_
            rw [ha0]
            refine iS (e := 22) (kg 82 (.indexAddr 70 (.tmp 79) (.tmp 81)) 20 false) rfl rfl hwv rfl (by kernel_rfl) rfl (by omega) (by omega) ?_
            intro b82 o82 h82
            try simp only [Int.toNat_natCast] at h82
            refine lS (kg 83 (.load 22 (.tmp 82)) 20 false) rfl rfl (fun w' hS => h82.sy hS) h82 (by kernel_rfl) rfl rfl ?_
            intro v83 g83
            refine yFg 84 53 19 1 1 20 false ?_
            refine yS (kg 85 (.load 3 (.tmp 84)) 20 false) rfl rfl (fun w' hS => val_loadOwn (hx.sy hS) (by kernel_rfl) rfl rfl) ?_
            rw [hb0]
            refine iS (e := 3) (kg 86 (.indexAddr 22 (.tmp 83) (.tmp 85)) 20 false) rfl rfl g83 rfl (by kernel_rfl) rfl (by omega) (by omega) ?_
            intro b86 o86 h86
            try simp only [Int.toNat_natCast] at h86
            refine lS (kg 87 (.load 3 (.tmp 86)) 20 false) rfl rfl (fun w' hS => h86.sy hS) h86 (by kernel_rfl) rfl rfl ?_
            intro v87 g87
            first | (obtain rfl := rv_nat.1 g87) | (obtain rfl := rv_int.1 g87)
            rw [hcell]
            refine yV (kg 88 (.binOp .leq 3 (.tmp 87) (.const (.int .i64 0)) 3) 20 false) (fun _ => val_F (val_leq rfl rfl) hE) ?_
            refine yOf 89 78 88 ?_
            refine yM 90 89 ?_
            refine yMg 91 16 32 false ?_
            refine yFg 92 53 19 0 0 32 false ?_
            refine yS (kg 93 (.load 3 (.tmp 92)) 32 false) rfl rfl (fun w' hS => val_loadOwn (hx.sy hS) (by kernel_rfl) rfl rfl) ?_
            rw [ha0]
            refine oI (e' := 4) (kg 94 (.indexAddr 48 (.tmp 91) (.tmp 93)) 32 false) rfl rfl hr rfl (by kernel_rfl) rfl (by omega) (by omega) ?_
            intro g94 hg94
            try simp only [Int.toNat_natCast]
            refine oS (I := []) (kg 95 (.load 4 (.tmp 94)) 32 false) rfl rfl hr hg94 (fun w' hS => hr.sy hg94 hS) (by omega) (by kernel_rfl) rfl rfl ?_
            intro v95 g95
            try simp only [Int.toNat_natCast] at g95
            obtain rfl := rv_bool.1 g95
            rw [Bool.eq_false_iff.2 hG]
            refine yOf 96 90 95 ?_
            refine yM 97 96 ?_
            refine yMg 98 17 39 false ?_
            refine yFg 99 53 19 1 1 39 false ?_
            refine yS (kg 100 (.load 3 (.tmp 99)) 39 false) rfl rfl (fun w' hS => val_loadOwn (hx.sy hS) (by kernel_rfl) rfl rfl) ?_
            rw [hb0]
            refine oI (e' := 4) (kg 101 (.indexAddr 48 (.tmp 98) (.tmp 100)) 39 false) rfl rfl hk rfl (by kernel_rfl) rfl (by omega) (by omega) ?_
            intro g101 hg101
            try simp only [Int.toNat_natCast]
            refine oS (I := []) (kg 102 (.load 4 (.tmp 101)) 39 false) rfl rfl hk hg101 (fun w' hS => hk.sy hg101 hS) (by omega) (by kernel_rfl) rfl rfl ?_
            intro v102 g102
            try simp only [Int.toNat_natCast] at g102
            obtain rfl := rv_bool.1 g102
            rw [Bool.eq_false_iff.2 hH]
            refine yOf 103 97 102 ?_
            refine yM 104 103 ?_
            refine yMg 105 18 46 false ?_
            refine yV (kg 106 (.binOp .gtr 3 (.tmp 105) (.const (.int .i64 0)) 3) 46 false) (fun _ => val_T (val_gtr rfl rfl) hJ) ?_
            refine yMg 107 106 46 false ?_
            refine yMg 108 3 49 true ?_
            refine yMg 109 18 49 true ?_
            refine yV (kg 110 (.binOp .sub 3 (.tmp 109) (.const (.int .i64 1)) 3) 49 true) (fun _ => val_subi rfl rfl (by omega) (by omega)) ?_
            refine iS (e := 53) (kg 111 (.indexAddr 24 (.tmp 108) (.tmp 110)) 49 true) rfl rfl hc rfl (by kernel_rfl) rfl (by omega) (by omega) ?_
            intro b111 o111 h111
            try simp only [Int.toNat_natCast] at h111
            simp only [show ((i : Int) - 1).toNat = i - 1 from by omega] at h111
            have h112 := RA.ca h111
            refine yFg 112 53 111 0 0 49 true ?_
            refine lS (kg 113 (.load 3 (.tmp 112)) 49 true) rfl rfl (fun w' hS => h112.sy hS) h112 (by kernel_rfl) rfl rfl ?_
            intro v113 g113
            first | (obtain rfl := rv_nat.1 g113) | (obtain rfl := rv_int.1 g113)
            refine yFg 114 53 19 0 0 49 true ?_
            refine yS (kg 115 (.load 3 (.tmp 114)) 49 true) rfl rfl (fun w' hS => val_loadOwn (hx.sy hS) (by kernel_rfl) rfl rfl) ?_
            refine yV (kg 116 (.binOp .geq 3 (.tmp 113) (.tmp 115) 3) 49 true) (fun _ => val_T (val_geq rfl rfl) hM) ?_
            refine yV (kg 117 (.pick (.tmp 107) (.tmp 116) (.const (.bool false))) 46 false) (fun _ => val_pick_t rfl rfl) ?_
            refine yOf 118 104 117 ?_
            exact Sch.nil (hcut _ _ _ hcs rfl (eq_bool (decide_eq_true (show ¬ okC l cs i from fun e => by have := e.2.2 (by omega); omega)).symm) (sk 61))
           ·
            refine run_draw (id := 10) (ops := F23.o10) [] (Cw2) [yy 0, yy 1, yy 2, yy 3, yy 4, yy 5, yy 6, yy 7, yy 8, yy 9, yy 10, yy 11, yy 12, yy 13, yy 14, yy 15, yy 16, yy 17, yy 18, yy 19, yy 20, yy 21, yy 22, yy 23, yy 24, yy 25, yy 26, yy 27, yy 28, yy 29, yy 30, yy 31, yy 32, yy 33, yy 34, yy 35, yy 36, yy 37, yy 38, yy 39, yy 40, yy 41, yy 42, yy 43, yy 44, yy 45, yy 46, yy 47, yy 48, yy 49, yy 50, yy 51, yy 52, yy 53, yy 54, yy 55, yy 56, yy 57, yy 58, yy 59, yy 60] Try_mixed (by kernel_rfl) (by kernel_rfl) (by kernel_rfl) ?_
            intro w12 hs
            replace hF := hF.st hs
            replace hT := hT.t hs; replace hl := hl.t hs; replace hc := hc.t hs; replace hu := hu.t hs; replace hv := hv.t hs; replace hwv := hwv.t hs; replace hr := hr.t hs; replace hk := hk.t hs; replace h56 := h56.t hs; replace hx := hx.t hs
            have hcs := hs
            refine yF 58 53 19 0 0 ?_
            refine yS (kq 59 (.load 3 (.tmp 58))) rfl rfl (fun w' hS => val_loadOwn (hx.sy hS) (by kernel_rfl) rfl rfl) ?_
            refine yV (kq 60 (.binOp .lss 3 (.tmp 59) (.const (.int .i64 0)) 3)) (fun _ => val_F (val_lss rfl rfl) hA) ?_
            refine yM 61 60 ?_
            refine yFg 62 53 19 0 0 3 false ?_
            refine yS (kg 63 (.load 3 (.tmp 62)) 3 false) rfl rfl (fun w' hS => val_loadOwn (hx.sy hS) (by kernel_rfl) rfl rfl) ?_
            refine yMg 64 0 3 false ?_
            refine yV (kg 65 (.binOp .geq 3 (.tmp 63) (.tmp 64) 3) 3 false) (fun _ => val_F (val_geq rfl rfl) hB) ?_
            refine yOf 66 61 65 ?_
            refine yM 67 66 ?_
            refine yFg 68 53 19 1 1 9 false ?_
            refine yS (kg 69 (.load 3 (.tmp 68)) 9 false) rfl rfl (fun w' hS => val_loadOwn (hx.sy hS) (by kernel_rfl) rfl rfl) ?_
            refine yV (kg 70 (.binOp .lss 3 (.tmp 69) (.const (.int .i64 0)) 3) 9 false) (fun _ => val_F (val_lss rfl rfl) hC) ?_
            refine yOf 71 67 70 ?_
            refine yM 72 71 ?_
            refine yFg 73 53 19 1 1 14 false ?_
            refine yS (kg 74 (.load 3 (.tmp 73)) 14 false) rfl rfl (fun w' hS => val_loadOwn (hx.sy hS) (by kernel_rfl) rfl rfl) ?_
            refine yMg 75 1 14 false ?_
            refine yV (kg 76 (.binOp .geq 3 (.tmp 74) (.tmp 75) 3) 14 false) (fun _ => val_F (val_geq rfl rfl) hD) ?_
            refine yOf 77 72 76 ?_
            refine yM 78 77 ?_
            refine yMg 79 13 20 false ?_
            refine yFg 80 53 19 0 0 20 false ?_
            refine yS (kg 81 (.load 3 (.tmp 80)) 20 false) rfl rfl (fun w' hS => val_loadOwn (hx.sy hS) (by kernel_rfl) rfl rfl) ?_
            rw [ha0]
            refine iS (e := 22) (kg 82 (.indexAddr 70 (.tmp 79) (.tmp 81)) 20 false) rfl rfl hwv rfl (by kernel_rfl) rfl (by omega) (by omega) ?_
            intro b82 o82 h82
            try simp only [Int.toNat_natCast] at h82
            refine lS (kg 83 (.load 22 (.tmp 82)) 20 false) rfl rfl (fun w' hS => h82.sy hS) h82 (by kernel_rfl) rfl rfl ?_
            intro v83 g83
            refine yFg 84 53 19 1 1 20 false ?_
            refine yS (kg 85 (.load 3 (.tmp 84)) 20 false) rfl rfl (fun w' hS => val_loadOwn (hx.sy hS) (by kernel_rfl) rfl rfl) ?_
            rw [hb0]
            refine iS (e := 3) (kg 86 (.indexAddr 22 (.tmp 83) (.tmp 85)) 20 false) rfl rfl g83 rfl (by kernel_rfl) rfl (by omega) (by omega) ?_
            intro b86 o86 h86
            try simp only [Int.toNat_natCast] at h86
            refine lS (kg 87 (.load 3 (.tmp 86)) 20 false) rfl rfl (fun w' hS => h86.sy hS) h86 (by kernel_rfl) rfl rfl ?_
            intro v87 g87
            first | (obtain rfl := rv_nat.1 g87) | (obtain rfl := rv_int.1 g87)
            rw [hcell]
            refine yV (kg 88 (.binOp .leq 3 (.tmp 87) (.const (.int .i64 0)) 3) 20 false) (fun _ => val_F (val_leq rfl rfl) hE) ?_
            refine yOf 89 78 88 ?_
            refine yM 90 89 ?_
            refine yMg 91 16 32 false ?_
            refine yFg 92 53 19 0 0 32 false ?_
            refine yS (kg 93 (.load 3 (.tmp 92)) 32 false) rfl rfl (fun w' hS => val_loadOwn (hx.sy hS) (by kernel_rfl) rfl rfl) ?_
            rw [ha0]
            refine oI (e' := 4) (kg 94 (.indexAddr 48 (.tmp 91) (.tmp 93)) 32 false) rfl rfl hr rfl (by kernel_rfl) rfl (by omega) (by omega) ?_
            intro g94 hg94
            try simp only [Int.toNat_natCast]
            refine oS (I := []) (kg 95 (.load 4 (.tmp 94)) 32 false) rfl rfl hr hg94 (fun w' hS => hr.sy hg94 hS) (by omega) (by kernel_rfl) rfl rfl ?_
            intro v95 g95
            try simp only [Int.toNat_natCast] at g95
            obtain rfl := rv_bool.1 g95
            rw [Bool.eq_false_iff.2 hG]
            refine yOf 96 90 95 ?_
            refine yM 97 96 ?_
            refine yMg 98 17 39 false ?_
            refine yFg 99 53 19 1 1 39 false ?_
            refine yS (kg 100 (.load 3 (.tmp 99)) 39 false) rfl rfl (fun w' hS => val_loadOwn (hx.sy hS) (by kernel_rfl) rfl rfl) ?_
            rw [hb0]
            refine oI (e' := 4) (kg 101 (.indexAddr 48 (.tmp 98) (.tmp 100)) 39 false) rfl rfl hk rfl (by kernel_rfl) rfl (by omega) (by omega) ?_
            intro g101 hg101
            try simp only [Int.toNat_natCast]
            refine oS (I := []) (kg 102 (.load 4 (.tmp 101)) 39 false) rfl rfl hk hg101 (fun w' hS => hk.sy hg101 hS) (by omega) (by kernel_rfl) rfl rfl ?_
            intro v102 g102
            try simp only [Int.toNat_natCast] at g102
            obtain rfl := rv_bool.1 g102
            rw [Bool.eq_false_iff.2 hH]
            refine yOf 103 97 102 ?_
            refine yM 104 103 ?_
            refine yMg 105 18 46 false ?_
            refine yV (kg 106 (.binOp .gtr 3 (.tmp 105) (.const (.int .i64 0)) 3) 46 false) (fun _ => val_T (val_gtr rfl rfl) hJ) ?_
            refine yMg 107 106 46 false ?_
            refine yMg 108 3 49 true ?_
            refine yMg 109 18 49 true ?_
            refine yV (kg 110 (.binOp .sub 3 (.tmp 109) (.const (.int .i64 1)) 3) 49 true) (fun _ => val_subi rfl rfl (by omega) (by omega)) ?_
            refine iS (e := 53) (kg 111 (.indexAddr 24 (.tmp 108) (.tmp 110)) 49 true) rfl rfl hc rfl (by kernel_rfl) rfl (by omega) (by omega) ?_
            intro b111 o111 h111
            try simp only [Int.toNat_natCast] at h111
            simp only [show ((i : Int) - 1).toNat = i - 1 from by omega] at h111
            have h112 := RA.ca h111
            refine yFg 112 53 111 0 0 49 true ?_
            refine lS (kg 113 (.load 3 (.tmp 112)) 49 true) rfl rfl (fun w' hS => h112.sy hS) h112 (by kernel_rfl) rfl rfl ?_
            intro v113 g113
            first | (obtain rfl := rv_nat.1 g113) | (obtain rfl := rv_int.1 g113)
            refine yFg 114 53 19 0 0 49 true ?_
            refine yS (kg 115 (.load 3 (.tmp 114)) 49 true) rfl rfl (fun w' hS => val_loadOwn (hx.sy hS) (by kernel_rfl) rfl rfl) ?_
            refine yV (kg 116 (.binOp .geq 3 (.tmp 113) (.tmp 115) 3) 49 true) (fun _ => val_F (val_geq rfl rfl) hM) ?_
            refine yV (kg 117 (.pick (.tmp 107) (.tmp 116) (.const (.bool false))) 46 false) (fun _ => val_pick_t rfl rfl) ?_
            refine yOf 118 104 117 ?_
            exact Sch.nil (hcut _ _ _ hcs rfl (eq_bool (decide_eq_false (fun e => e (hI.yes hV hia2 hib2 hbm hE (by rw [hgK]; exact hH) (fun _ => by omega)))).symm) (sk 61))
          ·
           refine run_draw (id := 10) (ops := F23.o10) [] (Cw2) [yy 0, yy 1, yy 2, yy 3, yy 4, yy 5, yy 6, yy 7, yy 8, yy 9, yy 10, yy 11, yy 12, yy 13, yy 14, yy 15, yy 16, yy 17, yy 18, yy 19, yy 20, yy 21, yy 22, yy 23, yy 24, yy 25, yy 26, yy 27, yy 28, yy 29, yy 30, yy 31, yy 32, yy 33, yy 34, yy 35, yy 36, yy 37, yy 38, yy 39, yy 40, yy 41, yy 42, yy 43, yy 44, yy 45, yy 46, yy 47, yy 48, yy 49, yy 50, yy 51, yy 52, yy 53, yy 54, yy 55, yy 56, yy 57, yy 58, yy 59, yy 60] Try_mixed (by kernel_rfl) (by kernel_rfl) (by kernel_rfl) ?_
           intro w13 hs
           replace hF := hF.st hs
           replace hT := hT.t hs; replace hl := hl.t hs; replace hc := hc.t hs; replace hu := hu.t hs; replace hv := hv.t hs; replace hwv := hwv.t hs; replace hr := hr.t hs; replace hk := hk.t hs; replace h56 := h56.t hs; replace hx := hx.t hs
           have hcs := hs
           refine yF 58 53 19 0 0 ?_
           refine yS (kq 59 (.load 3 (.tmp 58))) rfl rfl (fun w' hS => val_loadOwn (hx.sy hS) (by kernel_rfl) rfl rfl) ?_
           refine yV (kq 60 (.binOp .lss 3 (.tmp 59) (.const (.int .i64 0)) 3)) (fun _ => val_F (val_lss rfl rfl) hA) ?_
           refine yM 61 60 ?_
           refine yFg 62 53 19 0 0 3 false ?_
           refine yS (kg 63 (.load 3 (.tmp 62)) 3 false) rfl rfl (fun w' hS => val_loadOwn (hx.sy hS) (by kernel_rfl) rfl rfl) ?_
           refine yMg 64 0 3 false ?_
           refine yV (kg 65 (.binOp .geq 3 (.tmp 63) (.tmp 64) 3) 3 false) (fun _ => val_F (val_geq rfl rfl) hB) ?_
           refine yOf 66 61 65 ?_
           refine yM 67 66 ?_
           refine yFg 68 53 19 1 1 9 false ?_
           refine yS (kg 69 (.load 3 (.tmp 68)) 9 false) rfl rfl (fun w' hS => val_loadOwn (hx.sy hS) (by kernel_rfl) rfl rfl) ?_
           refine yV (kg 70 (.binOp .lss 3 (.tmp 69) (.const (.int .i64 0)) 3) 9 false) (fun _ => val_F (val_lss rfl rfl) hC) ?_
           refine yOf 71 67 70 ?_
           refine yM 72 71 ?_
           refine yFg 73 53 19 1 1 14 false ?_
           refine yS (kg 74 (.load 3 (.tmp 73)) 14 false) rfl rfl (fun w' hS => val_loadOwn (hx.sy hS) (by kernel_rfl) rfl rfl) ?_
           refine yMg 75 1 14 false ?_
           refine yV (kg 76 (.binOp .geq 3 (.tmp 74) (.tmp 75) 3) 14 false) (fun _ => val_F (val_geq rfl rfl) hD) ?_
           refine yOf 77 72 76 ?_
           refine yM 78 77 ?_
           refine yMg 79 13 20 false ?_
           refine yFg 80 53 19 0 0 20 false ?_
           refine yS (kg 81 (.load 3 (.tmp 80)) 20 false) rfl rfl (fun w' hS => val_loadOwn (hx.sy hS) (by kernel_rfl) rfl rfl) ?_
           rw [ha0]
           refine iS (e := 22) (kg 82 (.indexAddr 70 (.tmp 79) (.tmp 81)) 20 false) rfl rfl hwv rfl (by kernel_rfl) rfl (by omega) (by omega) ?_
           intro b82 o82 h82
           try simp only [Int.toNat_natCast] at h82
           refine lS (kg 83 (.load 22 (.tmp 82)) 20 false) rfl rfl (fun w' hS => h82.sy hS) h82 (by kernel_rfl) rfl rfl ?_
           intro v83 g83
           refine yFg 84 53 19 1 1 20 false ?_
           refine yS (kg 85 (.load 3 (.tmp 84)) 20 false) rfl rfl (fun w' hS => val_loadOwn (hx.sy hS) (by kernel_rfl) rfl rfl) ?_
           rw [hb0]
           refine iS (e := 3) (kg 86 (.indexAddr 22 (.tmp 83) (.tmp 85)) 20 false) rfl rfl g83 rfl (by kernel_rfl) rfl (by omega) (by omega) ?_
           intro b86 o86 h86
           try simp only [Int.toNat_natCast] at h86
           refine lS (kg 87 (.load 3 (.tmp 86)) 20 false) rfl rfl (fun w' hS => h86.sy hS) h86 (by kernel_rfl) rfl rfl ?_
           intro v87 g87
           first | (obtain rfl := rv_nat.1 g87) | (obtain rfl := rv_int.1 g87)
           rw [hcell]
           refine yV (kg 88 (.binOp .leq 3 (.tmp 87) (.const (.int .i64 0)) 3) 20 false) (fun _ => val_F (val_leq rfl rfl) hE) ?_
           refine yOf 89 78 88 ?_
           refine yM 90 89 ?_
           refine yMg 91 16 32 false ?_
           refine yFg 92 53 19 0 0 32 false ?_
           refine yS (kg 93 (.load 3 (.tmp 92)) 32 false) rfl rfl (fun w' hS => val_loadOwn (hx.sy hS) (by kernel_rfl) rfl rfl) ?_
           rw [ha0]
           refine oI (e' := 4) (kg 94 (.indexAddr 48 (.tmp 91) (.tmp 93)) 32 false) rfl rfl hr rfl (by kernel_rfl) rfl (by omega) (by omega) ?_
           intro g94 hg94
           try simp only [Int.toNat_natCast]
           refine oS (I := []) (kg 95 (.load 4 (.tmp 94)) 32 false) rfl rfl hr hg94 (fun w' hS => hr.sy hg94 hS) (by omega) (by kernel_rfl) rfl rfl ?_
           intro v95 g95
           try simp only [Int.toNat_natCast] at g95
           obtain rfl := rv_bool.1 g95
           rw [Bool.eq_false_iff.2 hG]
           refine yOf 96 90 95 ?_
           refine yM 97 96 ?_
           refine yMg 98 17 39 false ?_
           refine yFg 99 53 19 1 1 39 false ?_
           refine yS (kg 100 (.load 3 (.tmp 99)) 39 false) rfl rfl (fun w' hS => val_loadOwn (hx.sy hS) (by kernel_rfl) rfl rfl) ?_
           rw [hb0]
           refine oI (e' := 4) (kg 101 (.indexAddr 48 (.tmp 98) (.tmp 100)) 39 false) rfl rfl hk rfl (by kernel_rfl) rfl (by omega) (by omega) ?_
           intro g101 hg101
           try simp only [Int.toNat_natCast]
           refine oS (I := []) (kg 102 (.load 4 (.tmp 101)) 39 false) rfl rfl hk hg101 (fun w' hS => hk.sy hg101 hS) (by omega) (by kernel_rfl) rfl rfl ?_
           intro v102 g102
           try simp only [Int.toNat_natCast] at g102
           obtain rfl := rv_bool.1 g102
           rw [Bool.eq_false_iff.2 hH]
           refine yOf 103 97 102 ?_
           refine yM 104 103 ?_
           refine yMg 105 18 46 false ?_
           refine yV (kg 106 (.binOp .gtr 3 (.tmp 105) (.const (.int .i64 0)) 3) 46 false) (fun _ => val_F (val_gtr rfl rfl) hJ) ?_
           refine yMg 107 106 46 false ?_
           refine pX 108 49 true ?_
           refine pX 109 49 true ?_
           refine pX 110 49 true ?_
           refine pX 111 49 true ?_
           refine pX 112 49 true ?_
           refine pX 113 49 true ?_
           refine pX 114 49 true ?_
           refine pX 115 49 true ?_
           refine pX 116 49 true ?_
           refine yV (kg 117 (.pick (.tmp 107) (.tmp 116) (.const (.bool false))) 46 false) (fun _ => val_pick_f rfl rfl) ?_
           refine yOf 118 104 117 ?_
           exact Sch.nil (hcut _ _ _ hcs rfl (eq_bool (decide_eq_false (fun e => e (hI.yes hV hia2 hib2 hbm hE (by rw [hgK]; exact hH) (fun _ => by omega)))).symm) (sk 61))
  intro w14 hs
  replace hF := hF.st hs
  replace hT := hT.t hs; replace hl := hl.t hs; replace hc := hc.t hs; replace hu := hu.t hs; replace hv := hv.t hs; replace hwv := hwv.t hs; replace hr := hr.t hs; replace hk := hk.t hs; replace h56 := h56.t hs; replace hx := hx.t hs
  refine run_i 118 rfl (fun h118 => ?_) (fun h118 => ?_)
  ·
   have hno : pvB n0 m0 l cs ul vl = false := pv_no fun (e : PvO _ _ l cs ul vl) => h118 (e.2.2.1 i hil)
   refine run_sq ?_
   refine run_pl [yy 0] ?_
   refine yAc 12 (.bool false) ?_
   refine Sch.nil ?_
   refine run_ret1 (by kernel_rfl) Try.func23 Try.results23 rfl ?_
   exact ⟨by rw [hno], hT.out1 (by decide)⟩
  ·
   have hok := Classical.not_not.1 h118
   obtain ⟨a0, b0, hia2, hib2, han, hbm, hew⟩ := hok.rng hV
   have ha0 : (cs[i]'hil).a = a0 := by rw [← hia]; exact hia2
   have hb0 : (cs[i]'hil).b = b0 := by rw [← hib]; exact hib2
   have hml : a0 < (mmat l n0 m0).length := by rw [hMx.n]; exact han
   have hmr : b0 < ((mmat l n0 m0)[a0]'hml).length := by rw [hMx.m _ (List.getElem_mem _)]; exact hbm
   have hcell : ((mmat l n0 m0)[a0]'hml)[b0]'hmr = pos (edW l) a0 b0 := by rw [← wK_at hml hmr]; exact wK_mmat han hbm
   have hwl := hV.wle a0 b0
   have hps : pos (edW l) a0 b0 = edW l a0 b0 := by unfold pos; omega
   have hts := RpI.tot_step hia2 hib2 (l := l) (by omega)
   have hI2 := hI.step hok hia2 hib2 han hbm
   refine run_sk ?_
   refine run_sq ?_
   refine run_draw (id := 12) (ops := F23.o12) [3, 4] (Cw2) [yy 0, yy 1, yy 2, yy 3, yy 4, yy 5, yy 6, nn 7, yy 8, nn 9] Try_mixed (by kernel_rfl) (by kernel_rfl) (by kernel_rfl) ?_
   intro w15 hs
   replace hF := hF.st hs
   replace hT := hT.t hs; replace hl := hl.t hs; replace hc := hc.t hs; replace hu := hu.t hs; replace hv := hv.t hs; replace hwv := hwv.t hs; replace hr := hr.t hs; replace hk := hk.t hs; replace h56 := h56.t hs; replace hx := hx.t hs
   have hR := Stp.refl [3, 4] w15 (Cw2)
   refine yM 119 16 ?_
   refine yF 120 53 19 0 0 ?_
   refine yS (kq 121 (.load 3 (.tmp 120))) rfl rfl (fun w' hS => val_loadOwn (hx.sy hS) (by kernel_rfl) rfl rfl) ?_
   rw [ha0]
   refine yM 122 17 ?_
   refine yF 123 53 19 1 1 ?_
   refine yS (kq 124 (.load 3 (.tmp 123))) rfl rfl (fun w' hS => val_loadOwn (hx.sy hS) (by kernel_rfl) rfl rfl) ?_
   rw [hb0]
   refine oI (e' := 4) (kq 125 (.indexAddr 48 (.tmp 119) (.tmp 121))) rfl rfl hr rfl (by kernel_rfl) rfl (by omega) (by omega) ?_
   intro g125 hg125
   try simp only [Int.toNat_natCast]
   refine aN (k0 (.store 4 (.tmp 125) (.const (.bool true)))) rfl (a_storeO hr hg125 (by omega) rfl rfl (by kernel_rfl) (rv_bool.2 rfl)) ?_
   rintro _ w16 ⟨rfl, hs, hr⟩
   refine ⟨(hR.trans hs (by simp)).ext, ?_⟩
   replace hF := hF.st hs
   replace hT := hT.t hs; replace hl := hl.t hs; replace hc := hc.t hs; replace hu := hu.t hs; replace hv := hv.t hs; replace hwv := hwv.t hs; replace hk := hk.t hs; replace h56 := h56.t hs; replace hx := hx.t hs; replace hR := hR.t hs
   refine oI (e' := 4) (kq 126 (.indexAddr 48 (.tmp 122) (.tmp 124))) rfl rfl hk rfl (by kernel_rfl) rfl (by omega) (by omega) ?_
   intro g126 hg126
   try simp only [Int.toNat_natCast]
   refine Sch.free rfl ?_
   refine aN (k0 (.store 4 (.tmp 126) (.const (.bool true)))) rfl (a_storeO hk hg126 (by omega) rfl rfl (by kernel_rfl) (rv_bool.2 rfl)) ?_
   rintro _ w17 ⟨rfl, hs, hk⟩
   refine ⟨trivial, ?_⟩
   replace hF := hF.st hs
   replace hT := hT.t hs; replace hl := hl.t hs; replace hc := hc.t hs; replace hu := hu.t hs; replace hv := hv.t hs; replace hwv := hwv.t hs; replace hr := hr.t hs; replace h56 := h56.t hs; replace hx := hx.t hs
   refine Sch.nil ?_
   refine run_draw (id := 13) (ops := F23.o13) [] (Cw2) [yy 0, yy 1, yy 2, yy 3, yy 4, yy 5, yy 6, yy 7, yy 8, yy 9, yy 10, yy 11] Try_mixed (by kernel_rfl) (by kernel_rfl) (by kernel_rfl) ?_
   intro w18 hs
   replace hF := hF.st hs
   replace hT := hT.t hs; replace hl := hl.t hs; replace hc := hc.t hs; replace hu := hu.t hs; replace hv := hv.t hs; replace hwv := hwv.t hs; replace hr := hr.t hs; replace hk := hk.t hs; replace h56 := h56.t hs; replace hx := hx.t hs
   refine yM 127 14 ?_
   refine yM 128 13 ?_
   refine yF 129 53 19 0 0 ?_
   refine yS (kq 130 (.load 3 (.tmp 129))) rfl rfl (fun w' hS => val_loadOwn (hx.sy hS) (by kernel_rfl) rfl rfl) ?_
   rw [ha0]
   refine iS (e := 22) (kq 131 (.indexAddr 70 (.tmp 128) (.tmp 130))) rfl rfl hwv rfl (by kernel_rfl) rfl (by omega) (by omega) ?_
   intro b131 o131 h131
   try simp only [Int.toNat_natCast] at h131
   refine lS (kq 132 (.load 22 (.tmp 131))) rfl rfl (fun w' hS => h131.sy hS) h131 (by kernel_rfl) rfl rfl ?_
   intro v132 g132
   refine yF 133 53 19 1 1 ?_
   refine yS (kq 134 (.load 3 (.tmp 133))) rfl rfl (fun w' hS => val_loadOwn (hx.sy hS) (by kernel_rfl) rfl rfl) ?_
   rw [hb0]
   refine iS (e := 3) (kq 135 (.indexAddr 22 (.tmp 132) (.tmp 134))) rfl rfl g132 rfl (by kernel_rfl) rfl (by omega) (by omega) ?_
   intro b135 o135 h135
   try simp only [Int.toNat_natCast] at h135
   refine lS (kq 136 (.load 3 (.tmp 135))) rfl rfl (fun w' hS => h135.sy hS) h135 (by kernel_rfl) rfl rfl ?_
   intro v136 g136
   first | (obtain rfl := rv_nat.1 g136) | (obtain rfl := rv_int.1 g136)
   rw [hcell]
   refine yV (kq 137 (.binOp .add 3 (.tmp 127) (.tmp 136) 3)) (fun _ => val_addi rfl rfl (by omega) (by omega)) ?_
   refine yA 14 137 ?_
   refine Sch.nil ?_
   refine run_inBlock ?_
   refine run_pl [yy 0, yy 1, yy 2] ?_
   refine yM 52 18 ?_
   refine yV (kq 53 (.binOp .add 3 (.tmp 52) (.const (.int .i64 1)) 3)) (fun _ => val_addi rfl rfl (by omega) (by omega)) ?_
   refine yA 18 53 ?_
   refine Sch.nil ?_
   refine kp (sub_cons 0 rfl rfl (sub_cons 1 rfl rfl (sub_cons 2 rfl rfl (sub_cons 3 rfl rfl (sub_cons 4 rfl rfl (sub_cons 5 rfl rfl (sub_cons 13 rfl rfl (sub_cons 14 rfl (eq_int hts.symm) (sub_cons 15 rfl rfl (sub_cons 16 rfl rfl (sub_cons 17 rfl rfl (sub_cons 18 rfl (eq_int (by simp)) (sub_nil _))))))))))))) (next1 (i + 1, R.set a0 true, Kl.set b0 true, Cw2) _ ⟨(by first | omega | (simp only; omega)), hI2, hF, hT, hl, hc, hu, hv, hwv, hr, hk⟩ (by first | omega | (simp only; omega)))
 ·
  have hil : i = cs.length := by omega
  rw [hil] at hI htt ⊢
  have hall := hI.all
  obtain ⟨T, hT0⟩ : ∃ T, T = totL l cs cs.length := ⟨_, rfl⟩
  rw [← hT0] at htt ⊢
  refine run_ex 0 ?_
  refine run_sq ?_
  refine run_sq ?_
  refine run_pl [yy 0] ?_
  refine yAc 20 (.int .i64 0) ?_
  refine Sch.nil ?_
  refine run_bk 2 ?_
  
  refine run_lp (ι := Nat × (Nat → Nat)) (I := fun x w => x.1 ≤ ul.length ∧ (∀ q, q < x.1 → 0 ≤ gI ul q ∧ gI ul q ≤ T) ∧ Lim w x.2 ∧ Stp [2, 3, 4, 5, 6, 7, 8, 9] w₀ (col1 C) w x.2 ∧ RV w (Mc x.2) l pl ∧ RV w (Mc x.2) ul pu ∧ RV w (Mc x.2) vl pv) (e := fun x => [(0, .int .i64 n0), (1, .int .i64 m0), (2, pl), (4, pu), (5, pv), (14, .int .i64 T), (15, .int .i64 (sumN x.1 (gI ul))), (20, .int .i64 x.1)]) (m := fun x => ul.length - x.1) (x₀ := (0, C1)) (sr 0 (sr 1 (sr 2 (sr 4 (sr 5 (sr 14 (sr 15 (sr 20 (sub_nil _))))))))) ?_ ?_
  · exact ⟨Nat.zero_le _, (fun q hq => by simp only at hq; omega), hF, hT, hl, hu, hv⟩
  intro ⟨k, C2⟩ w19 hI next
  obtain ⟨hk0, hpul, hF, hT, hl, hu, hv⟩ := hI
  try simp only at hk0 hpul hF hT hl hu hv
  have next2 := next
  clear next
  show Run _ _ _ _ [(0, .int .i64 n0), (1, .int .i64 m0), (2, pl), (4, pu), (5, pv), (14, .int .i64 T), (15, .int .i64 (sumN k (gI ul))), (20, .int .i64 k)] _ _
  have hsb := sumN_bound (n := k) (B := 4194304) (g := gI ul) (fun q hq => by have := hpul q hq; omega)
  refine run_sq ?_
  refine run_sq ?_
  refine run_pl [yy 0, yy 1, yy 2] ?_
  refine yM 138 20 ?_
  refine yM 139 0 ?_
  refine yV (kq 140 (.binOp .lss 3 (.tmp 138) (.tmp 139) 3)) (fun _ => val_lss rfl rfl) ?_
  refine Sch.nil ?_
  refine run_i 140 rfl (fun h140 => ?_) (fun h140 => ?_)
  ·
   have hkl : k < ul.length := by omega
   have hgx : gI ul k = ul[k]'hkl := getD_in _
   refine run_sk ?_
   refine run_sq ?_
   refine run_bk 3 ?_
   refine run_sq ?_
   refine run_sq ?_
   refine run_cut 155 (decide ((ul[k]'hkl) < 0 ∨ T < (ul[k]'hkl))) (C2) ?_ ?_
   ·
    intro hcut
    by_cases hA : (ul[k]'hkl) < 0
    ·
     refine run_pl [yy 0, yy 1, yy 2, nn 3, yy 4, yy 5, yy 6, yy 7, yy 8, nn 9, yy 10, yy 11, yy 12] ?_
     refine yM 143 4 ?_
     refine yM 144 20 ?_
     refine iS (e := 3) (kq 145 (.indexAddr 22 (.tmp 143) (.tmp 144))) rfl rfl hu rfl (by kernel_rfl) rfl (by omega) (by omega) ?_
     intro b145 o145 h145
     try simp only [Int.toNat_natCast] at h145
     refine lN (kq 146 (.load 3 (.tmp 145))) rfl rfl trivial h145 (by kernel_rfl) rfl rfl ?_
     intro v146 g146
     first | (obtain rfl := rv_nat.1 g146) | (obtain rfl := rv_int.1 g146)
     refine yV (kq 147 (.binOp .lss 3 (.tmp 146) (.const (.int .i64 0)) 3)) (fun _ => val_T (val_lss rfl rfl) hA) ?_
     refine yM 148 147 ?_
     refine pX 149 5 false ?_
     refine pX 150 5 false ?_
     refine pX 151 5 false ?_
     refine pW (kg 152 (.load 3 (.tmp 151)) 5 false) rfl rfl trivial ?_
     refine pX 153 5 false ?_
     refine pX 154 5 false ?_
     refine yOt 155 148 154 ?_
     exact Sch.nil (hcut _ _ _ (Stp.refl _ _ _) rfl (eq_bool (decide_eq_true (Or.inl hA)).symm) (sk 13))
    ·
     refine run_pl [yy 0, yy 1, yy 2, nn 3, yy 4, yy 5, yy 6, yy 7, yy 8, nn 9, yy 10, yy 11, yy 12] ?_
     refine yM 143 4 ?_
     refine yM 144 20 ?_
     refine iS (e := 3) (kq 145 (.indexAddr 22 (.tmp 143) (.tmp 144))) rfl rfl hu rfl (by kernel_rfl) rfl (by omega) (by omega) ?_
     intro b145 o145 h145
     try simp only [Int.toNat_natCast] at h145
     refine lN (kq 146 (.load 3 (.tmp 145))) rfl rfl trivial h145 (by kernel_rfl) rfl rfl ?_
     intro v146 g146
     first | (obtain rfl := rv_nat.1 g146) | (obtain rfl := rv_int.1 g146)
     refine yV (kq 147 (.binOp .lss 3 (.tmp 146) (.const (.int .i64 0)) 3)) (fun _ => val_F (val_lss rfl rfl) hA) ?_
     refine yM 148 147 ?_
     refine yMg 149 4 5 false ?_
     refine yMg 150 20 5 false ?_
     refine iS (e := 3) (kg 151 (.indexAddr 22 (.tmp 149) (.tmp 150)) 5 false) rfl rfl hu rfl (by kernel_rfl) rfl (by omega) (by omega) ?_
     intro b151 o151 h151
     try simp only [Int.toNat_natCast] at h151
     refine lN (kg 152 (.load 3 (.tmp 151)) 5 false) rfl rfl trivial h151 (by kernel_rfl) rfl rfl ?_
     intro v152 g152
     first | (obtain rfl := rv_nat.1 g152) | (obtain rfl := rv_int.1 g152)
     refine yMg 153 14 5 false ?_
     refine yV (kg 154 (.binOp .gtr 3 (.tmp 152) (.tmp 153) 3) 5 false) (fun _ => val_gtr rfl rfl) ?_
     refine yOf 155 148 154 ?_
     exact Sch.nil (hcut _ _ _ (Stp.refl _ _ _) rfl (eq_bool (decide_eq_decide.2 (by omega))) (sk 13))
   intro w20 hs
   replace hF := hF.st hs
   replace hT := hT.t hs; replace hl := hl.t hs; replace hu := hu.t hs; replace hv := hv.t hs
   refine run_i 155 rfl (fun h155 => ?_) (fun h155 => ?_)
   ·
    have hno : pvB n0 m0 l cs ul vl = false := pv_no fun (e : PvO _ _ l cs ul vl) => by have := (pv_rng e).1 k hkl; rw [hgx, ← hT0] at this; omega
    refine run_sq ?_
    refine run_pl [yy 0] ?_
    refine yAc 12 (.bool false) ?_
    refine Sch.nil ?_
    refine run_ret1 (by kernel_rfl) Try.func23 Try.results23 rfl ?_
    exact ⟨by rw [hno], hT.out1 (by decide)⟩
   ·
    have hokk : 0 ≤ gI ul k ∧ gI ul k ≤ T := by rw [hgx]; omega
    have hts2 : sumN (k + 1) (gI ul) = sumN k (gI ul) + (ul[k]'hkl) := by show sumN k _ + gI ul k = _; rw [hgx]
    refine run_sk ?_
    refine run_pl [yy 0, yy 1, yy 2, yy 3, nn 4, yy 5, yy 6] ?_
    refine yM 156 15 ?_
    refine yM 157 4 ?_
    refine yM 158 20 ?_
    refine iS (e := 3) (kq 159 (.indexAddr 22 (.tmp 157) (.tmp 158))) rfl rfl hu rfl (by kernel_rfl) rfl (by omega) (by omega) ?_
    intro b159 o159 h159
    try simp only [Int.toNat_natCast] at h159
    refine lN (kq 160 (.load 3 (.tmp 159))) rfl rfl trivial h159 (by kernel_rfl) rfl rfl ?_
    intro v160 g160
    first | (obtain rfl := rv_nat.1 g160) | (obtain rfl := rv_int.1 g160)
    refine yV (kq 161 (.binOp .add 3 (.tmp 156) (.tmp 160) 3)) (fun _ => val_addi rfl rfl (by omega) (by omega)) ?_
    refine yA 15 161 ?_
    refine Sch.nil ?_
    refine run_inBlock ?_
    refine run_pl [yy 0, yy 1, yy 2] ?_
    refine yM 141 20 ?_
    refine yV (kq 142 (.binOp .add 3 (.tmp 141) (.const (.int .i64 1)) 3)) (fun _ => val_addi rfl rfl (by omega) (by omega)) ?_
    refine yA 20 142 ?_
    refine Sch.nil ?_
    refine kp (sub_cons 0 rfl rfl (sub_cons 1 rfl rfl (sub_cons 2 rfl rfl (sub_cons 4 rfl rfl (sub_cons 5 rfl rfl (sub_cons 14 rfl rfl (sub_cons 15 rfl (eq_int (by simp only; rw [hts2] <;> omega)) (sub_cons 20 rfl (eq_int (by simp)) (sub_nil _))))))))) (next2 (k + 1, C2) _ ⟨(by first | omega | (simp only; omega)), (fun q hq => by
        simp only at hq
        by_cases e : q = k
        · subst e; exact hokk
        · exact hpul q (by omega)), hF, hT, hl, hu, hv⟩ (by first | omega | (simp only; omega)))
  ·
   have hkl : k = ul.length := by omega
   rw [hkl] at hpul ⊢
   refine run_ex 2 ?_
   refine run_sq ?_
   refine run_sq ?_
   refine run_pl [yy 0] ?_
   refine yAc 21 (.int .i64 0) ?_
   refine Sch.nil ?_
   refine run_bk 4 ?_
   
   refine run_lp (ι := Nat × (Nat → Nat)) (I := fun x w => x.1 ≤ vl.length ∧ (∀ q, q < x.1 → 0 ≤ gI vl q ∧ gI vl q ≤ T) ∧ Lim w x.2 ∧ Stp [2, 3, 4, 5, 6, 7, 8, 9] w₀ (col1 C) w x.2 ∧ RV w (Mc x.2) l pl ∧ RV w (Mc x.2) ul pu ∧ RV w (Mc x.2) vl pv) (e := fun x => [(0, .int .i64 n0), (1, .int .i64 m0), (2, pl), (4, pu), (5, pv), (14, .int .i64 T), (15, .int .i64 (sumN ul.length (gI ul) + sumN x.1 (gI vl))), (21, .int .i64 x.1)]) (m := fun x => vl.length - x.1) (x₀ := (0, C2)) (sr 0 (sr 1 (sr 2 (sr 4 (sr 5 (sr 14 (sub_cons 15 rfl (eq_int (by show _ = _ + sumN 0 _; simp [sumN])) (sr 21 (sub_nil _))))))))) ?_ ?_
   · exact ⟨Nat.zero_le _, (fun q hq => by simp only at hq; omega), hF, hT, hl, hu, hv⟩
   intro ⟨k, C3⟩ w21 hI next
   obtain ⟨hk0, hpvl, hF, hT, hl, hu, hv⟩ := hI
   try simp only at hk0 hpvl hF hT hl hu hv
   have next3 := next
   clear next
   show Run _ _ _ _ [(0, .int .i64 n0), (1, .int .i64 m0), (2, pl), (4, pu), (5, pv), (14, .int .i64 T), (15, .int .i64 (sumN ul.length (gI ul) + sumN k (gI vl))), (21, .int .i64 k)] _ _
   have hsb := sumN_bound (n := k) (B := 4194304) (g := gI vl) (fun q hq => by have := hpvl q hq; omega)
   have hsu := sumN_bound (n := ul.length) (B := 4194304) (g := gI ul) (fun q hq => by have := hpul q hq; omega)
   refine run_sq ?_
   refine run_sq ?_
   refine run_pl [yy 0, yy 1, yy 2] ?_
   refine yM 162 21 ?_
   refine yM 163 1 ?_
   refine yV (kq 164 (.binOp .lss 3 (.tmp 162) (.tmp 163) 3)) (fun _ => val_lss rfl rfl) ?_
   refine Sch.nil ?_
   refine run_i 164 rfl (fun h164 => ?_) (fun h164 => ?_)
   ·
    have hkl : k < vl.length := by omega
    have hgx : gI vl k = vl[k]'hkl := getD_in _
    refine run_sk ?_
    refine run_sq ?_
    refine run_bk 5 ?_
    refine run_sq ?_
    refine run_sq ?_
    refine run_cut 179 (decide ((vl[k]'hkl) < 0 ∨ T < (vl[k]'hkl))) (C3) ?_ ?_
    ·
     intro hcut
     by_cases hA : (vl[k]'hkl) < 0
     ·
      refine run_pl [yy 0, yy 1, yy 2, nn 3, yy 4, yy 5, yy 6, yy 7, yy 8, nn 9, yy 10, yy 11, yy 12] ?_
      refine yM 167 5 ?_
      refine yM 168 21 ?_
      refine iS (e := 3) (kq 169 (.indexAddr 22 (.tmp 167) (.tmp 168))) rfl rfl hv rfl (by kernel_rfl) rfl (by omega) (by omega) ?_
      intro b169 o169 h169
      try simp only [Int.toNat_natCast] at h169
      refine lN (kq 170 (.load 3 (.tmp 169))) rfl rfl trivial h169 (by kernel_rfl) rfl rfl ?_
      intro v170 g170
      first | (obtain rfl := rv_nat.1 g170) | (obtain rfl := rv_int.1 g170)
      refine yV (kq 171 (.binOp .lss 3 (.tmp 170) (.const (.int .i64 0)) 3)) (fun _ => val_T (val_lss rfl rfl) hA) ?_
      refine yM 172 171 ?_
      refine pX 173 5 false ?_
      refine pX 174 5 false ?_
      refine pX 175 5 false ?_
      refine pW (kg 176 (.load 3 (.tmp 175)) 5 false) rfl rfl trivial ?_
      refine pX 177 5 false ?_
      refine pX 178 5 false ?_
      refine yOt 179 172 178 ?_
      exact Sch.nil (hcut _ _ _ (Stp.refl _ _ _) rfl (eq_bool (decide_eq_true (Or.inl hA)).symm) (sk 13))
     ·
      refine run_pl [yy 0, yy 1, yy 2, nn 3, yy 4, yy 5, yy 6, yy 7, yy 8, nn 9, yy 10, yy 11, yy 12] ?_
      refine yM 167 5 ?_
      refine yM 168 21 ?_
      refine iS (e := 3) (kq 169 (.indexAddr 22 (.tmp 167) (.tmp 168))) rfl rfl hv rfl (by kernel_rfl) rfl (by omega) (by omega) ?_
      intro b169 o169 h169
      try simp only [Int.toNat_natCast] at h169
      refine lN (kq 170 (.load 3 (.tmp 169))) rfl rfl trivial h169 (by kernel_rfl) rfl rfl ?_
      intro v170 g170
      first | (obtain rfl := rv_nat.1 g170) | (obtain rfl := rv_int.1 g170)
      refine yV (kq 171 (.binOp .lss 3 (.tmp 170) (.const (.int .i64 0)) 3)) (fun _ => val_F (val_lss rfl rfl) hA) ?_
      refine yM 172 171 ?_
      refine yMg 173 5 5 false ?_
      refine yMg 174 21 5 false ?_
      refine iS (e := 3) (kg 175 (.indexAddr 22 (.tmp 173) (.tmp 174)) 5 false) rfl rfl hv rfl (by kernel_rfl) rfl (by omega) (by omega) ?_
      intro b175 o175 h175
      try simp only [Int.toNat_natCast] at h175
      refine lN (kg 176 (.load 3 (.tmp 175)) 5 false) rfl rfl trivial h175 (by kernel_rfl) rfl rfl ?_
      intro v176 g176
      first | (obtain rfl := rv_nat.1 g176) | (obtain rfl := rv_int.1 g176)
      refine yMg 177 14 5 false ?_
      refine yV (kg 178 (.binOp .gtr 3 (.tmp 176) (.tmp 177) 3) 5 false) (fun _ => val_gtr rfl rfl) ?_
      refine yOf 179 172 178 ?_
      exact Sch.nil (hcut _ _ _ (Stp.refl _ _ _) rfl (eq_bool (decide_eq_decide.2 (by omega))) (sk 13))
    intro w22 hs
    replace hF := hF.st hs
    replace hT := hT.t hs; replace hl := hl.t hs; replace hu := hu.t hs; replace hv := hv.t hs
    refine run_i 179 rfl (fun h179 => ?_) (fun h179 => ?_)
    ·
     have hno : pvB n0 m0 l cs ul vl = false := pv_no fun (e : PvO _ _ l cs ul vl) => by have := (pv_rng e).2 k hkl; rw [hgx, ← hT0] at this; omega
     refine run_sq ?_
     refine run_pl [yy 0] ?_
     refine yAc 12 (.bool false) ?_
     refine Sch.nil ?_
     refine run_ret1 (by kernel_rfl) Try.func23 Try.results23 rfl ?_
     exact ⟨by rw [hno], hT.out1 (by decide)⟩
    ·
     have hokk : 0 ≤ gI vl k ∧ gI vl k ≤ T := by rw [hgx]; omega
     have hts2 : sumN (k + 1) (gI vl) = sumN k (gI vl) + (vl[k]'hkl) := by show sumN k _ + gI vl k = _; rw [hgx]
     refine run_sk ?_
     refine run_pl [yy 0, yy 1, yy 2, yy 3, nn 4, yy 5, yy 6] ?_
     refine yM 180 15 ?_
     refine yM 181 5 ?_
     refine yM 182 21 ?_
     refine iS (e := 3) (kq 183 (.indexAddr 22 (.tmp 181) (.tmp 182))) rfl rfl hv rfl (by kernel_rfl) rfl (by omega) (by omega) ?_
     intro b183 o183 h183
     try simp only [Int.toNat_natCast] at h183
     refine lN (kq 184 (.load 3 (.tmp 183))) rfl rfl trivial h183 (by kernel_rfl) rfl rfl ?_
     intro v184 g184
     first | (obtain rfl := rv_nat.1 g184) | (obtain rfl := rv_int.1 g184)
     refine yV (kq 185 (.binOp .add 3 (.tmp 180) (.tmp 184) 3)) (fun _ => val_addi rfl rfl (by omega) (by omega)) ?_
     refine yA 15 185 ?_
     refine Sch.nil ?_
     refine run_inBlock ?_
     refine run_pl [yy 0, yy 1, yy 2] ?_
     refine yM 165 21 ?_
     refine yV (kq 166 (.binOp .add 3 (.tmp 165) (.const (.int .i64 1)) 3)) (fun _ => val_addi rfl rfl (by omega) (by omega)) ?_
     refine yA 21 166 ?_
     refine Sch.nil ?_
     refine kp (sub_cons 0 rfl rfl (sub_cons 1 rfl rfl (sub_cons 2 rfl rfl (sub_cons 4 rfl rfl (sub_cons 5 rfl rfl (sub_cons 14 rfl rfl (sub_cons 15 rfl (eq_int (by simp only; rw [hts2] <;> omega)) (sub_cons 21 rfl (eq_int (by simp)) (sub_nil _))))))))) (next3 (k + 1, C3) _ ⟨(by first | omega | (simp only; omega)), (fun q hq => by
         simp only at hq
         by_cases e : q = k
         · subst e; exact hokk
         · exact hpvl q (by omega)), hF, hT, hl, hu, hv⟩ (by first | omega | (simp only; omega)))
   ·
    have hkl : k = vl.length := by omega
    rw [hkl] at hpvl ⊢
    refine run_ex 4 ?_
    refine run_sq ?_
    refine run_sq ?_
    refine run_pl [yy 0] ?_
    refine yAc 22 (.int .i64 0) ?_
    refine Sch.nil ?_
    refine run_bk 6 ?_
    
    refine run_lp (ι := Nat × (Nat → Nat)) (I := fun x w => x.1 ≤ l.length ∧ (∀ r (hr : r < l.length), r < x.1 → l[r].w ≤ gI ul l[r].a.toNat + gI vl l[r].b.toNat) ∧ Lim w x.2 ∧ Stp [2, 3, 4, 5, 6, 7, 8, 9] w₀ (col1 C) w x.2 ∧ RV w (Mc x.2) l pl ∧ RV w (Mc x.2) ul pu ∧ RV w (Mc x.2) vl pv) (e := fun x => [(2, pl), (4, pu), (5, pv), (14, .int .i64 T), (15, .int .i64 (sumN ul.length (gI ul) + sumN vl.length (gI vl))), (22, .int .i64 x.1)]) (m := fun x => l.length - x.1) (x₀ := (0, C3)) (sr 2 (sr 4 (sr 5 (sr 14 (sr 15 (sr 22 (sub_nil _))))))) ?_ ?_
    · exact ⟨Nat.zero_le _, (fun r _ hq => by simp only at hq; omega), hF, hT, hl, hu, hv⟩
    intro ⟨q, C4⟩ w23 hI next
    obtain ⟨hq, h1, hF, hT, hl, hu, hv⟩ := hI
    try simp only at hq h1 hF hT hl hu hv
    have next4 := next
    clear next
    show Run _ _ _ _ [(2, pl), (4, pu), (5, pv), (14, .int .i64 T), (15, .int .i64 (sumN ul.length (gI ul) + sumN vl.length (gI vl))), (22, .int .i64 q)] _ _
    refine run_sq ?_
    refine run_sq ?_
    refine run_pl [yy 0, yy 1, yy 2, yy 3] ?_
    refine yM 186 22 ?_
    refine yM 187 2 ?_
    refine yS (kq 188 (.call { callee := .builtin .len, args := #[(.tmp 187)], argTypes := #[23] })) rfl rfl (fun w' hS => hl.lenV rfl Try.underlying23 w' ) ?_
    refine yV (kq 189 (.binOp .lss 3 (.tmp 186) (.tmp 188) 3)) (fun _ => val_lss rfl rfl) ?_
    refine Sch.nil ?_
    refine run_i 189 rfl (fun h189 => ?_) (fun h189 => ?_)
    ·
     have hql : q < l.length := by omega
     have hxo := hV.ok (l[q]'hql) (List.getElem_mem hql)
     unfold okE at hxo
     have hxa : (l[q]'hql).a.toNat < ul.length := by omega
     have hxb : (l[q]'hql).b.toNat < vl.length := by omega
     have hgu : gI ul (l[q]'hql).a.toNat = ul[(l[q]'hql).a.toNat]'hxa := getD_in _
     have hgv : gI vl (l[q]'hql).b.toNat = vl[(l[q]'hql).b.toNat]'hxb := getD_in _
     have hu0 := hpul _ hxa
     have hv0 := hpvl _ hxb
     rw [hgu] at hu0
     rw [hgv] at hv0
     refine run_sk ?_
     refine run_sq ?_
     refine run_bk 7 ?_
     refine run_sq ?_
     refine run_draw (id := 29) (ops := F23.o29) [] (C4) [yy 0, yy 1, yy 2, yy 3, yy 4, yy 5, yy 6, yy 7, yy 8, yy 9, yy 10, yy 11, yy 12, yy 13, yy 14, yy 15, yy 16, yy 17, yy 18, yy 19, yy 20, yy 21, yy 22] Try_mixed (by kernel_rfl) (by kernel_rfl) (by kernel_rfl) ?_
     intro w24 hs
     replace hF := hF.st hs
     replace hT := hT.t hs; replace hl := hl.t hs; replace hu := hu.t hs; replace hv := hv.t hs
     refine yM 192 4 ?_
     refine yM 193 2 ?_
     refine yM 194 22 ?_
     refine iS (e := 46) (kq 195 (.indexAddr 23 (.tmp 193) (.tmp 194))) rfl rfl hl rfl (by kernel_rfl) rfl (by omega) (by omega) ?_
     intro b195 o195 h195
     try simp only [Int.toNat_natCast] at h195
     have h196 := RA.ea h195
     refine yF 196 46 195 0 0 ?_
     refine lS (kq 197 (.load 3 (.tmp 196))) rfl rfl (fun w' hS => h196.sy hS) h196 (by kernel_rfl) rfl rfl ?_
     intro v197 g197
     first | (obtain rfl := rv_nat.1 g197) | (obtain rfl := rv_int.1 g197)
     refine iS (e := 3) (kq 198 (.indexAddr 22 (.tmp 192) (.tmp 197))) rfl rfl hu rfl (by kernel_rfl) rfl (by omega) (by omega) ?_
     intro b198 o198 h198
     try simp only [Int.toNat_natCast] at h198
     refine lS (kq 199 (.load 3 (.tmp 198))) rfl rfl (fun w' hS => h198.sy hS) h198 (by kernel_rfl) rfl rfl ?_
     intro v199 g199
     first | (obtain rfl := rv_nat.1 g199) | (obtain rfl := rv_int.1 g199)
     refine yM 200 5 ?_
     refine yM 201 2 ?_
     refine yM 202 22 ?_
     refine iS (e := 46) (kq 203 (.indexAddr 23 (.tmp 201) (.tmp 202))) rfl rfl hl rfl (by kernel_rfl) rfl (by omega) (by omega) ?_
     intro b203 o203 h203
     try simp only [Int.toNat_natCast] at h203
     have h204 := RA.eb h203
     refine yF 204 46 203 1 1 ?_
     refine lS (kq 205 (.load 3 (.tmp 204))) rfl rfl (fun w' hS => h204.sy hS) h204 (by kernel_rfl) rfl rfl ?_
     intro v205 g205
     first | (obtain rfl := rv_nat.1 g205) | (obtain rfl := rv_int.1 g205)
     refine iS (e := 3) (kq 206 (.indexAddr 22 (.tmp 200) (.tmp 205))) rfl rfl hv rfl (by kernel_rfl) rfl (by omega) (by omega) ?_
     intro b206 o206 h206
     try simp only [Int.toNat_natCast] at h206
     refine lS (kq 207 (.load 3 (.tmp 206))) rfl rfl (fun w' hS => h206.sy hS) h206 (by kernel_rfl) rfl rfl ?_
     intro v207 g207
     first | (obtain rfl := rv_nat.1 g207) | (obtain rfl := rv_int.1 g207)
     refine yV (kq 208 (.binOp .add 3 (.tmp 199) (.tmp 207) 3)) (fun _ => val_addi rfl rfl (by omega) (by omega)) ?_
     refine yM 209 2 ?_
     refine yM 210 22 ?_
     refine iS (e := 46) (kq 211 (.indexAddr 23 (.tmp 209) (.tmp 210))) rfl rfl hl rfl (by kernel_rfl) rfl (by omega) (by omega) ?_
     intro b211 o211 h211
     try simp only [Int.toNat_natCast] at h211
     have h212 := RA.ew h211
     refine yF 212 46 211 2 2 ?_
     refine lS (kq 213 (.load 3 (.tmp 212))) rfl rfl (fun w' hS => h212.sy hS) h212 (by kernel_rfl) rfl rfl ?_
     intro v213 g213
     first | (obtain rfl := rv_nat.1 g213) | (obtain rfl := rv_int.1 g213)
     refine yV (kq 214 (.binOp .lss 3 (.tmp 208) (.tmp 213) 3)) (fun _ => val_lss rfl rfl) ?_
     refine Sch.nil ?_
     refine run_i 214 rfl (fun h214 => ?_) (fun h214 => ?_)
     ·
      have hno : pvB n0 m0 l cs ul vl = false := pv_no fun (e : PvO _ _ l cs ul vl) => by have := e.2.1.cov _ (List.getElem_mem hql); rw [hgu, hgv] at this; omega
      refine run_sq ?_
      refine run_pl [yy 0] ?_
      refine yAc 12 (.bool false) ?_
      refine Sch.nil ?_
      refine run_ret1 (by kernel_rfl) Try.func23 Try.results23 rfl ?_
      exact ⟨by rw [hno], hT.out1 (by decide)⟩
     ·
      refine run_sk ?_
      refine run_inBlock ?_
      refine run_pl [yy 0, yy 1, yy 2] ?_
      refine yM 190 22 ?_
      refine yV (kq 191 (.binOp .add 3 (.tmp 190) (.const (.int .i64 1)) 3)) (fun _ => val_addi rfl rfl (by omega) (by omega)) ?_
      refine yA 22 191 ?_
      refine Sch.nil ?_
      refine kp (sub_cons 2 rfl rfl (sub_cons 4 rfl rfl (sub_cons 5 rfl rfl (sub_cons 14 rfl rfl (sub_cons 15 rfl rfl (sub_cons 22 rfl (eq_int (by simp)) (sub_nil _))))))) (next4 (q + 1, C4) _ ⟨(by first | omega | (simp only; omega)), (fun r hr hr2 => by
          simp only at hr2
          by_cases e : r = q
          · subst e; rw [hgu, hgv]; omega
          · exact h1 r hr (by omega)), hF, hT, hl, hu, hv⟩ (by first | omega | (simp only; omega)))
    ·
     have hql : q = l.length := by omega
     have hfin := pv_fin (n := n0) (m := m0) hz hun2 hvn2 (by omega) hall (by rw [← hT0]; exact hpul) (by rw [← hT0]; exact hpvl) (fun r hr => h1 r hr (by omega))
     rw [← hT0] at hfin
     refine run_ex 6 ?_
     refine run_sq ?_
     refine run_pl [yy 0, yy 1, yy 2, yy 3] ?_
     refine yM 215 15 ?_
     refine yM 216 14 ?_
     refine yV (kq 217 (.binOp .eql 3 (.tmp 215) (.tmp 216) 3)) (fun _ => val_eql rfl rfl) ?_
     refine yA 12 217 ?_
     refine Sch.nil ?_
     refine run_ret1 (by kernel_rfl) Try.func23 Try.results23 rfl ?_
     exact ⟨by rw [hfin], hT.out1 (by decide)⟩
/-- The reference's 'Proves'. -/
theorem rproves_ok {w₀ : World} {C : Nat → Nat} {n m : Int} {l : List K.Edge} {cs : List Couple} {ul vl : List Int} {pl pc pu pv : Value} (hF : Lim w₀ C) (hl : RV w₀ (Mc C) l pl) (hc : RV w₀ (Mc C) cs pc) (hu : RV w₀ (Mc C) ul pu) (hv : RV w₀ (Mc C) vl pv) :
    Calls Try.prog 23 #[.int .i64 n, .int .i64 m, pl, pc, pu, pv] w₀ (Ret fun v w' => v = .bool (pvB n m l cs ul vl) ∧ Stp [] w₀ C w' C) := by
 have hF0 := hF
 have hT := Stp.refl [2, 3, 4, 5, 6, 7, 8, 9] w₀ (col1 C)
 replace hF := hF.col1
 replace hl : RV w₀ (Mc (col1 C)) l pl := by rw [Mc_col1]; exact hl
 replace hc : RV w₀ (Mc (col1 C)) cs pc := by rw [Mc_col1]; exact hc
 replace hu : RV w₀ (Mc (col1 C)) ul pu := by rw [Mc_col1]; exact hu
 replace hv : RV w₀ (Mc (col1 C)) vl pv := by rw [Mc_col1]; exact hv
 refine calls_start (c := F23.c0) (N := 218) [.int .i64 n, .int .i64 m, pl, pc, pu, pv] Try.func23 (by kernel_rfl) (by kernel_rfl) (by kernel_rfl) ?_
 show Run _ _ _ _ [(0, .int .i64 n), (1, .int .i64 m), (2, pl), (3, pc), (4, pu), (5, pv)] _ _
 refine run_sq ?_
 refine run_pl [yy 0] ?_
 refine yAc 12 (.bool false) ?_
 refine Sch.nil ?_
 refine run_sq ?_
 refine run_sq ?_
 refine run_cut 39 (decide (chkE n m l ≠ 0 ∨ (ul.length : Int) ≠ n ∨ (vl.length : Int) ≠ m)) (col1 C) ?_ ?_
 ·
  intro hcut
  by_cases hA : chkE n m l ≠ 0
  ·
   refine run_pl [yy 0, yy 1, yy 2, nn 3, yy 4, yy 5, yy 6, yy 7, yy 8, yy 9, yy 10, yy 11, yy 12, yy 13, yy 14, yy 15, yy 16] ?_
   have hcs := Stp.reflF hF
   refine yM 23 0 ?_
   refine yM 24 1 ?_
   refine yM 25 2 ?_
   refine cS (kq 26 (.call { callee := .value (.func 18), args := #[(.tmp 23), (.tmp 24), (.tmp 25)], argTypes := #[3, 3, 23] })) rfl rfl (ent Try.call18 rfl) (rcheck_ok hF hl) ?_
   rintro vw25 w25 ⟨rfl, hs⟩
   refine ⟨trivial, ?_⟩
   replace hF := hF.st hs
   replace hT := hT.t hs; replace hl := hl.t hs; replace hc := hc.t hs; replace hu := hu.t hs; replace hv := hv.t hs; replace hcs := hcs.t hs
   refine yV (kq 27 (.binOp .neq 35 (.tmp 26) (.const (.int .i64 0)) 35)) (fun _ => val_T (val_neq rfl rfl) hA) ?_
   refine yM 28 27 ?_
   refine pX 29 5 false ?_
   refine pX 30 5 false ?_
   refine pX 31 5 false ?_
   refine pX 32 5 false ?_
   refine yOt 33 28 32 ?_
   refine yM 34 33 ?_
   refine pX 35 11 false ?_
   refine pX 36 11 false ?_
   refine pX 37 11 false ?_
   refine pX 38 11 false ?_
   refine yOt 39 34 38 ?_
   exact Sch.nil (hcut _ _ _ hcs rfl (eq_bool (decide_eq_true (Or.inl hA)).symm) (sk 17))
  ·
   by_cases hB : (ul.length : Int) ≠ n
   ·
    refine run_pl [yy 0, yy 1, yy 2, nn 3, yy 4, yy 5, yy 6, yy 7, yy 8, yy 9, yy 10, yy 11, yy 12, yy 13, yy 14, yy 15, yy 16] ?_
    have hcs := Stp.reflF hF
    refine yM 23 0 ?_
    refine yM 24 1 ?_
    refine yM 25 2 ?_
    refine cS (kq 26 (.call { callee := .value (.func 18), args := #[(.tmp 23), (.tmp 24), (.tmp 25)], argTypes := #[3, 3, 23] })) rfl rfl (ent Try.call18 rfl) (rcheck_ok hF hl) ?_
    rintro vw26 w26 ⟨rfl, hs⟩
    refine ⟨trivial, ?_⟩
    replace hF := hF.st hs
    replace hT := hT.t hs; replace hl := hl.t hs; replace hc := hc.t hs; replace hu := hu.t hs; replace hv := hv.t hs; replace hcs := hcs.t hs
    refine yV (kq 27 (.binOp .neq 35 (.tmp 26) (.const (.int .i64 0)) 35)) (fun _ => val_F (val_neq rfl rfl) hA) ?_
    refine yM 28 27 ?_
    refine yMg 29 4 5 false ?_
    refine yS (kg 30 (.call { callee := .builtin .len, args := #[(.tmp 29)], argTypes := #[22] }) 5 false) rfl rfl (fun w' hS => hu.lenV rfl Try.underlying22 w' ) ?_
    refine yMg 31 0 5 false ?_
    refine yV (kg 32 (.binOp .neq 3 (.tmp 30) (.tmp 31) 3) 5 false) (fun _ => val_T (val_neq rfl rfl) hB) ?_
    refine yOf 33 28 32 ?_
    refine yM 34 33 ?_
    refine pX 35 11 false ?_
    refine pX 36 11 false ?_
    refine pX 37 11 false ?_
    refine pX 38 11 false ?_
    refine yOt 39 34 38 ?_
    exact Sch.nil (hcut _ _ _ hcs rfl (eq_bool (decide_eq_true (Or.inr (Or.inl hB))).symm) (sk 17))
   ·
    refine run_pl [yy 0, yy 1, yy 2, nn 3, yy 4, yy 5, yy 6, yy 7, yy 8, yy 9, yy 10, yy 11, yy 12, yy 13, yy 14, yy 15, yy 16] ?_
    have hcs := Stp.reflF hF
    refine yM 23 0 ?_
    refine yM 24 1 ?_
    refine yM 25 2 ?_
    refine cS (kq 26 (.call { callee := .value (.func 18), args := #[(.tmp 23), (.tmp 24), (.tmp 25)], argTypes := #[3, 3, 23] })) rfl rfl (ent Try.call18 rfl) (rcheck_ok hF hl) ?_
    rintro vw27 w27 ⟨rfl, hs⟩
    refine ⟨trivial, ?_⟩
    replace hF := hF.st hs
    replace hT := hT.t hs; replace hl := hl.t hs; replace hc := hc.t hs; replace hu := hu.t hs; replace hv := hv.t hs; replace hcs := hcs.t hs
    refine yV (kq 27 (.binOp .neq 35 (.tmp 26) (.const (.int .i64 0)) 35)) (fun _ => val_F (val_neq rfl rfl) hA) ?_
    refine yM 28 27 ?_
    refine yMg 29 4 5 false ?_
    refine yS (kg 30 (.call { callee := .builtin .len, args := #[(.tmp 29)], argTypes := #[22] }) 5 false) rfl rfl (fun w' hS => hu.lenV rfl Try.underlying22 w' ) ?_
    refine yMg 31 0 5 false ?_
    refine yV (kg 32 (.binOp .neq 3 (.tmp 30) (.tmp 31) 3) 5 false) (fun _ => val_F (val_neq rfl rfl) hB) ?_
    refine yOf 33 28 32 ?_
    refine yM 34 33 ?_
    refine yMg 35 5 11 false ?_
    refine yS (kg 36 (.call { callee := .builtin .len, args := #[(.tmp 35)], argTypes := #[22] }) 11 false) rfl rfl (fun w' hS => hv.lenV rfl Try.underlying22 w' ) ?_
    refine yMg 37 1 11 false ?_
    refine yV (kg 38 (.binOp .neq 3 (.tmp 36) (.tmp 37) 3) 11 false) (fun _ => val_neq rfl rfl) ?_
    refine yOf 39 34 38 ?_
    exact Sch.nil (hcut _ _ _ hcs rfl (eq_bool (decide_eq_decide.2 ⟨fun e => Or.inr (Or.inr e), fun e => (e.resolve_left hA).resolve_left hB⟩)) (sk 17))
 intro w28 hs
 replace hF := hF.st hs
 replace hT := hT.t hs; replace hl := hl.t hs; replace hc := hc.t hs; replace hu := hu.t hs; replace hv := hv.t hs
 refine run_i 39 rfl (fun h39 => ?_) (fun h39 => ?_)
 ·
  have hno : pvB n m l cs ul vl = false := pv_no fun (e : PvO _ _ l cs ul vl) => h39.elim (fun q => q e.1) (fun q => q.elim (fun q => q e.2.1.un) (fun q => q e.2.1.vn))
  refine run_sq ?_
  refine run_pl [yy 0] ?_
  refine yAc 12 (.bool false) ?_
  refine Sch.nil ?_
  refine run_ret1 (by kernel_rfl) Try.func23 Try.results23 rfl ?_
  exact ⟨by rw [hno], hT.out1 (by decide)⟩
 ·
  obtain ⟨hz, hun, hvn⟩ : chkE n m l = 0 ∧ (ul.length : Int) = n ∧ (vl.length : Int) = m := ⟨Classical.byContradiction fun e => h39 (.inl e), Classical.byContradiction fun e => h39 (.inr (.inl e)), Classical.byContradiction fun e => h39 (.inr (.inr e))⟩
  have hV := chkE_zero hz
  obtain ⟨n0, rfl⟩ : ∃ k : Nat, n = k := ⟨n.toNat, by have := hV.n0; omega⟩
  obtain ⟨m0, rfl⟩ : ∃ k : Nat, m = k := ⟨m.toNat, by have := hV.m0; omega⟩
  have hn6 : n0 ≤ 64 := by have := hV.n1; omega
  have hm6 : m0 ≤ 64 := by have := hV.m1; omega
  have hun2 : ul.length = n0 := by omega
  have hvn2 : vl.length = m0 := by omega
  have hel := hV.len
  refine run_sk ?_
  refine run_sq ?_
  refine run_pl [yy 0, yy 1, yy 2, nn 3, yy 4] ?_
  refine yM 40 0 ?_
  refine yM 41 1 ?_
  refine yM 42 2 ?_
  refine cS (kq 43 (.call { callee := .value (.func 36), args := #[(.tmp 40), (.tmp 41), (.tmp 42)], argTypes := #[3, 3, 23] })) rfl rfl (ent Try.call36 rfl) (matrix_ok hF hl hV hn6 hm6) ?_
  rintro vw0 w29 ⟨Cm, vf0, hs, hF, ho, hin⟩
  refine ⟨trivial, ?_⟩
  replace hT := hT.t hs; replace hl := hl.t hs; replace hc := hc.t hs; replace hu := hu.t hs; replace hv := hv.t hs
  replace hin : ∀ q, q < n0 → OwnL w29 Cm (100 + q) 3 (vf0 q) ((mmat l n0 m0).getD q []) := fun q hq => by rw [mmat_getD hq]; exact hin q hq
  have hMx := mmat_ok (n := n0) (m := m0) hV
  have hwv := mx_read hMx hn6 hm6 ho hin
  replace hF := hF.frz 99
  replace hT := hT.frz (n := 99) (fun b => Nat.lt_of_lt_of_le (col1_lt2 C b) (by decide))
  replace hl := hl.frz 99
  replace hc := hc.frz 99
  replace hu := hu.frz 99
  replace hv := hv.frz 99
  clear ho hin
  refine yA 13 43 ?_
  refine Sch.nil ?_
  refine run_sq ?_
  refine run_pl [yy 0, yy 1] ?_
  refine yAc 14 (.int .i64 0) ?_
  refine yAc 15 (.int .i64 0) ?_
  refine Sch.nil ?_
  refine run_sq ?_
  refine run_draw2 (id := 5) (ops := F23.o5) [] (K.frz 99 Cm) [0, 2] 1 [yy 4, nn 3, yy 5] 3 [nn 1, yy 4, yy 5] Try_mixed (by kernel_rfl) (by kernel_rfl) (by kernel_rfl) ?_ ?_
  ·
   intro w30 hs
   replace hF := hF.st hs
   replace hT := hT.t hs; replace hl := hl.t hs; replace hc := hc.t hs; replace hu := hu.t hs; replace hv := hv.t hs; replace hwv := hwv.t hs
   show Sch _ _ _ _ _ _ _ [yy 0, yy 2, nn 1, yy 4, nn 3, yy 5] _ _
   have hR := Stp.refl [] w30 (K.frz 99 Cm)
   refine yM 44 0 ?_
   refine yM 46 1 ?_
   refine aS (kq 45 (.makeSlice 48 (.tmp 44) (.tmp 44))) rfl rfl (a_make (e := 4) (bytes := 1) (x0 := false) (zs := [.bool false]) hF (j := 3) (by decide) (by kernel_rfl) (by kernel_rfl) rfl rfl (by omega) (by omega) (by omega) (fun h M => rfl)) ?_
   rintro v45 w31 ⟨Cw31, hs, hr, hF⟩
   refine ⟨(hR.trans hs (by simp)).ext, ?_⟩
   replace hT := hT.t hs; replace hl := hl.t hs; replace hc := hc.t hs; replace hu := hu.t hs; replace hv := hv.t hs; replace hwv := hwv.t hs; replace hR := hR.t hs
   refine yA 16 45 ?_
   refine aS (kq 47 (.makeSlice 48 (.tmp 46) (.tmp 46))) rfl rfl (a_make (e := 4) (bytes := 1) (x0 := false) (zs := [.bool false]) hF (j := 4) (by decide) (by kernel_rfl) (by kernel_rfl) rfl rfl (by omega) (by omega) (by omega) (fun h M => rfl)) ?_
   rintro v47 w32 ⟨Cw32, hs, hk, hF⟩
   refine ⟨(hR.trans hs (by simp)).ext, ?_⟩
   replace hT := hT.t hs; replace hl := hl.t hs; replace hc := hc.t hs; replace hu := hu.t hs; replace hv := hv.t hs; replace hwv := hwv.t hs; replace hR := hR.t hs; replace hr := hr.t hs
   refine yA 17 47 ?_
   refine Sch.nil ?_
   refine kp (sub_cons 0 rfl rfl (sub_cons 1 rfl rfl (sub_cons 2 rfl rfl (sub_cons 3 rfl rfl (sub_cons 4 rfl rfl (sub_cons 5 rfl rfl (sub_cons 13 rfl rfl (sub_cons 14 rfl rfl (sub_cons 15 rfl rfl (sub_cons 16 rfl rfl (sub_cons 17 rfl rfl (sub_nil _)))))))))))) (rproves_rest hF hT hl hc hu hv hwv hr hk hz hV hn6 hm6 hun2 hvn2 hMx)
  ·
   intro w33 hs
   replace hF := hF.st hs
   replace hT := hT.t hs; replace hl := hl.t hs; replace hc := hc.t hs; replace hu := hu.t hs; replace hv := hv.t hs; replace hwv := hwv.t hs
   show Sch _ _ _ _ _ _ _ [yy 0, yy 2, nn 3, nn 1, yy 4, yy 5] _ _
   have hR := Stp.refl [] w33 (K.frz 99 Cm)
   refine yM 44 0 ?_
   refine yM 46 1 ?_
   refine aS (kq 47 (.makeSlice 48 (.tmp 46) (.tmp 46))) rfl rfl (a_make (e := 4) (bytes := 1) (x0 := false) (zs := [.bool false]) hF (j := 4) (by decide) (by kernel_rfl) (by kernel_rfl) rfl rfl (by omega) (by omega) (by omega) (fun h M => rfl)) ?_
   rintro v47 w34 ⟨Cw34, hs, hk, hF⟩
   refine ⟨(hR.trans hs (by simp)).ext, ?_⟩
   replace hT := hT.t hs; replace hl := hl.t hs; replace hc := hc.t hs; replace hu := hu.t hs; replace hv := hv.t hs; replace hwv := hwv.t hs; replace hR := hR.t hs
   refine aS (kq 45 (.makeSlice 48 (.tmp 44) (.tmp 44))) rfl rfl (a_make (e := 4) (bytes := 1) (x0 := false) (zs := [.bool false]) hF (j := 3) (by decide) (by kernel_rfl) (by kernel_rfl) rfl rfl (by omega) (by omega) (by omega) (fun h M => rfl)) ?_
   rintro v45 w35 ⟨Cw35, hs, hr, hF⟩
   refine ⟨(hR.trans hs (by simp)).ext, ?_⟩
   replace hT := hT.t hs; replace hl := hl.t hs; replace hc := hc.t hs; replace hu := hu.t hs; replace hv := hv.t hs; replace hwv := hwv.t hs; replace hR := hR.t hs; replace hk := hk.t hs
   refine yA 16 45 ?_
   refine yA 17 47 ?_
   refine Sch.nil ?_
   refine kp (sub_cons 0 rfl rfl (sub_cons 1 rfl rfl (sub_cons 2 rfl rfl (sub_cons 3 rfl rfl (sub_cons 4 rfl rfl (sub_cons 5 rfl rfl (sub_cons 13 rfl rfl (sub_cons 14 rfl rfl (sub_cons 15 rfl rfl (sub_cons 16 rfl rfl (sub_cons 17 rfl rfl (sub_nil _)))))))))))) (rproves_rest hF hT hl hc hu hv hwv hr hk hz hV hn6 hm6 hun2 hvn2 hMx)
end Go.Proofs.Ytgooehopkmbkfaa
