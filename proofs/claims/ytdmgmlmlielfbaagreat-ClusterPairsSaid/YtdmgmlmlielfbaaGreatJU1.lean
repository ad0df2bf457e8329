/- Steps through functions of the program. -/
import Derived.Test.YtdmgmlmlielfbaaGreatJT8
import Derived.Test.YtdmgmlmlielfbaaGreatL3
import Derived.Test.YtdmgmlmlielfbaaGreatJC1
set_option linter.unusedVariables false
set_option linter.unusedSimpArgs false
set_option maxRecDepth 100000
set_option maxHeartbeats 4000000
namespace Go.Proofs.YtdmgmlmlielfbaaGreat
open Go.K Go.K.Rep
noncomputable section
theorem orI_okA {w₀ : World} {M : Nat → Prop} {l : List Int} {vl : Value} (hl : RV w₀ M l vl) : Calls Tryz.prog 96 #[vl] w₀ (Ret fun v w' => v = .int .i64 (orL l) ∧ w' = w₀) := by
 refine c_st F96.c0 18 [vl] Tryz.func96 ?_
 show Run _ _ _ _ [(0, vl)] _ _
 refine run_sq (run_pl [yy 0] ?_)
 refine yAc 2 (.int .i64 0) ?_
 refine Sch.nil (run_sq (run_pl [yy 0] ?_))
 refine yAc 3 (.int .i64 0) ?_
 refine Sch.nil (run_sq (run_sq (run_pl [yy 0, yy 1, yy 2] ?_)))
 refine yM 6 0 ?_
 refine yS (kq 7 (.call { callee := .builtin .len, args := #[(.tmp 6)], argTypes := #[22] })) rfl rfl (fun w' hS => hl.lenV rfl Tryz.underlying22 w' ) ?_
 refine yC 8 (.int .i64 0) ?_
 refine Sch.nil (run_bk 0 ?_)
 refine run_lp (ι := Nat) (I := fun x w => x ≤ l.length ∧ w = w₀ ∧ orL (l.drop x) = orL l) (e := fun x => [(3, .int .i64 0), (6, vl), (7, .int .i64 l.length), (8, .int .i64 x)]) (m := fun x => l.length - x) (x₀ := 0) (sr 3 (sr 6 (sr 7 (sr 8 (sub_nil _))))) ?_ ?_
 · exact ⟨Nat.zero_le _, rfl, rfl⟩
 intro i w1 hI next
 obtain ⟨hi, rfl, ho⟩ := hI
 have hll := hl.le
 refine run_sq (run_pl [yy 0] ?_)
 refine yL 9 3 8 7 ?_
 refine Sch.nil (run_sq ?_)
 refine run_i 9 rfl (fun h9 => ?_) (fun h9 => ?_)
 ·
  have hil : i < l.length := by omega
  rw [orL_drop hil] at ho
  refine run_sk (run_sq (run_bk 1 (run_sq (run_pl [yy 0, nn 1, yy 2] ?_))))
  refine iR 3 10 22 6 8 hl rfl (h := ?_)
  intro b10 o10 h10
  try simp only [Int.toNat_natCast] at h10
  refine lN (kq 11 (.load 3 (.tmp 10))) rfl rfl trivial h10 (by kernel_rfl) rfl rfl ?_
  intro v11 g11
  first | (obtain rfl := rv_nat.1 g11) | (obtain rfl := rv_int.1 g11)
  refine yA 5 11 ?_
  refine Sch.nil (run_sq (run_pl [yy 0, yy 1, yy 2] ?_))
  refine yM 12 5 ?_
  refine yM 13 3 ?_
  refine yV (kq 14 (.binOp .neq 3 (.tmp 12) (.tmp 13) 3)) (fun _ => val_neq rfl rfl) ?_
  refine Sch.nil ?_
  refine run_i 14 rfl (fun h14 => ?_) (fun h14 => ?_)
  ·
   rw [if_neg h14] at ho
   refine run_sq (run_pl [yy 0, yy 1] ?_)
   refine yM 15 5 ?_
   refine yA 2 15 ?_
   refine Sch.nil ?_
   refine rt1 Tryz.func96 Tryz.results96 ?_
   exact ⟨by rw [ho], rfl⟩
  have h14 : l[i] = 0 := by simpa using h14
  rw [if_pos h14] at ho
  refine run_sk (run_inBlock (run_pl [yy 0, yy 1] ?_))
  refine yI 16 3 8 1 ?_
  refine yM 8 16 ?_
  refine Sch.nil ?_
  refine kp ?_ (next (i + 1) _ ⟨by omega, rfl, ho⟩ (by omega))
  exact sr 3 (sr 6 (sr 7 (sub_cons 8 rfl (eq_int (by simp)) (sub_nil _))))
 have hil : i = l.length := by omega
 refine run_ex 0 ?_
 refine run_sq (run_pl [yy 0, yy 1] ?_)
 refine yM 17 3 ?_
 refine yA 2 17 ?_
 refine Sch.nil ?_
 refine rt1 Tryz.func96 Tryz.results96 ?_
 subst hil
 rw [List.drop_length] at ho
 exact ⟨by rw [← ho]; rfl, rfl⟩
theorem isNaN_okA (x : Int) (w : World) : Calls Tryz.prog 116 #[.int .i64 x] w (Ret fun v w' => v = .bool false ∧ w' = w) := by
 refine c_st F116.c0 6 [.int .i64 x] Tryz.func116 ?_
 show Run _ _ _ _ [(0, .int .i64 x)] _ _
 refine run_sq (run_pl [yy 0] ?_)
 refine yAc 2 (.bool false) ?_
 refine Sch.nil (run_sq (run_pl [yy 0, yy 1, yy 2, yy 3] ?_))
 refine yM 3 0 ?_
 refine yM 4 0 ?_
 refine yV (kq 5 (.binOp .neq 3 (.tmp 3) (.tmp 4) 3)) (fun _ => val_neq rfl rfl) ?_
 refine yA 2 5 ?_
 refine Sch.nil ?_
 refine rt1 Tryz.func116 Tryz.results116 ?_
 exact ⟨by simp, rfl⟩
theorem cmpI_okA (x y : Int) (w : World) : Calls Tryz.prog 76 #[.int .i64 x, .int .i64 y] w (Ret fun v w' => v = .int .i64 (cmpI x y) ∧ w' = w) := by
 refine c_st F76.c0 20 [.int .i64 x, .int .i64 y] Tryz.func76 ?_
 show Run _ _ _ _ [(0, .int .i64 x), (1, .int .i64 y)] _ _
 refine run_sq (run_pl [yy 0] ?_)
 refine yAc 4 (.int .i64 0) ?_
 refine Sch.nil (run_sq (run_pl [yy 0, nn 1, yy 2] ?_))
 refine yM 7 0 ?_
 refine cG 8 116 [7] [3] Tryz.call116 rfl (isNaN_okA _ _) ?_
 rintro vw1 w1 ⟨rfl, rfl⟩
 refine yA 5 8 ?_
 refine Sch.nil (run_sq (run_pl [yy 0, nn 1, yy 2] ?_))
 refine yM 9 1 ?_
 refine cG 10 116 [9] [3] Tryz.call116 rfl (isNaN_okA _ _) ?_
 rintro vw2 w2 ⟨rfl, rfl⟩
 refine yA 6 10 ?_
 refine Sch.nil (run_sq (run_sq (run_pl [yy 0] ?_)))
 refine yM 11 5 ?_
 refine Sch.nil (run_cF 11 (run_sk (run_sq (run_sq (run_pl [yy 0] ?_)))))
 refine yM 13 6 ?_
 refine Sch.nil (run_cF 13 (run_sk (run_sq (run_sq (run_pl [yy 0, yy 1, yy 2] ?_)))))
 refine yM 14 0 ?_
 refine yM 15 1 ?_
 refine yL 16 3 14 15 ?_
 refine Sch.nil ?_
 refine run_i 16 rfl (fun h16 => ?_) (fun h16 => ?_)
 ·
  refine run_sq (run_pl [yy 0] ?_)
  refine yV (kq 4 (.assign (.const (.int .i64 (-1))))) (fun _ => val_assign rfl) ?_
  refine Sch.nil ?_
  refine rt1 Tryz.func76 Tryz.results76 ?_
  exact ⟨eq_int (by unfold cmpI; split <;> (try split) <;> omega), rfl⟩
 refine run_sk (run_sq (run_sq (run_pl [yy 0, yy 1, yy 2] ?_)))
 refine yM 17 0 ?_
 refine yM 18 1 ?_
 refine yV (kq 19 (.binOp .gtr 3 (.tmp 17) (.tmp 18) 3)) (fun _ => val_gtr rfl rfl) ?_
 refine Sch.nil ?_
 refine run_i 19 rfl (fun h19 => ?_) (fun h19 => ?_)
 ·
  refine run_sq (run_pl [yy 0] ?_)
  refine yAc 4 (.int .i64 1) ?_
  refine Sch.nil ?_
  refine rt1 Tryz.func76 Tryz.results76 ?_
  exact ⟨eq_int (by unfold cmpI; split <;> (try split) <;> omega), rfl⟩
 refine run_sk (run_sq (run_pl [yy 0] ?_))
 refine yAc 4 (.int .i64 0) ?_
 refine Sch.nil ?_
 refine rt1 Tryz.func76 Tryz.results76 ?_
 exact ⟨eq_int (by unfold cmpI; split <;> (try split) <;> omega), rfl⟩
namespace F102
def c0 := bodyOf Tryz.f102
end F102
theorem side_ok {w₀ : World} {C : Nat → Nat} (x : Int) (hF : Lim w₀ C) : Calls Tryz.prog 102 #[.int .i64 x] w₀ (Ret fun v w' => v = .bool (sideB x) ∧ Stp [] w₀ C w' C) := by
 have hF0 := hF
 have hT := Stp.refl [2, 3, 4, 5, 6, 7, 8, 9] w₀ (col1 C)
 replace hF := hF.col1
 refine c_st F102.c0 9 [.int .i64 x] Tryz.func102 ?_
 show Run _ _ _ _ [(0, .int .i64 x)] _ _
 refine run_sq (run_pl [yy 0] ?_)
 refine yAc 2 (.bool false) ?_
 refine Sch.nil ?_
 refine kp (sr 0 (sub_nil _)) ?_
 refine run_sq ?_
 refine run_cut 2 (sideB x) (col1 C) ?_ ?_
 ·
  intro hcut
  by_cases hA : 0 ≤ x
  ·
   refine run_pl [yy 0, yy 1, yy 2, yy 3, yy 4, yy 5, yy 6] ?_
   refine yM 3 0 ?_
   refine yV (kq 4 (.binOp .geq 3 (.tmp 3) (.const (.int .i64 0)) 3)) (fun _ => val_T (val_geq rfl rfl) hA) ?_
   refine yM 5 4 ?_
   refine yMg 6 0 2 true ?_
   refine yV (kg 7 (.binOp .leq 3 (.tmp 6) (.const (.int .i64 64)) 3) 2 true) (fun _ => val_leq rfl rfl) ?_
   refine yAt 8 5 7 ?_
   refine yA 2 8 ?_
   exact Sch.nil (hcut _ _ _ (Stp.refl _ _ _) rfl (by unfold sideB; rw [decide_eq_true hA]; rfl) (sk 7))
  refine run_pl [yy 0, yy 1, yy 2, yy 3, yy 4, yy 5, yy 6] ?_
  refine yM 3 0 ?_
  refine yV (kq 4 (.binOp .geq 3 (.tmp 3) (.const (.int .i64 0)) 3)) (fun _ => val_F (val_geq rfl rfl) hA) ?_
  refine yM 5 4 ?_
  refine pX 6 2 true ?_
  refine pX 7 2 true ?_
  refine yAf 8 5 7 ?_
  refine yA 2 8 ?_
  exact Sch.nil (hcut _ _ _ (Stp.refl _ _ _) rfl (by unfold sideB; rw [decide_eq_false hA]; rfl) (sk 7))
 intro w1 s_1
 refine rt1 Tryz.func102 Tryz.results102 ?_
 replace hT := hT.t s_1
 exact ⟨rfl, hT.out1 (by decide)⟩
namespace F103
def c0 := bodyOf Tryz.f103
def o1 := rops (cl (cr c0))
end F103
theorem ecompare_ok {w₀ : World} {C : Nat → Nat} {x y : K.Edge} (hF : Lim w₀ C) : Calls Tryz.prog 103 #[.agg #[.int .i64 x.a, .int .i64 x.b, .int .i64 x.w], .agg #[.int .i64 y.a, .int .i64 y.b, .int .i64 y.w]] w₀ (Ret fun v w' => v = .int .i64 (cmpC x.k y.k) ∧ Stp [] w₀ C w' C) := by
 have hF0 := hF
 have hT := Stp.refl [2, 3, 4, 5, 6, 7, 8, 9] w₀ (col1 C)
 replace hF := hF.col1
 refine c_st F103.c0 17 [.agg #[.int .i64 x.a, .int .i64 x.b, .int .i64 x.w], .agg #[.int .i64 y.a, .int .i64 y.b, .int .i64 y.w]] Tryz.func103 ?_
 show Run _ _ _ _ [(0, .agg #[.int .i64 x.a, .int .i64 x.b, .int .i64 x.w]), (1, .agg #[.int .i64 y.a, .int .i64 y.b, .int .i64 y.w])] _ _
 refine run_sq (run_pl [nn 0, nn 1, yy 2] ?_)
 refine aT (kq 2 (.box 62 (.tmp 0))) rfl rfl (a_box (cs := [.int .i64 x.a, .int .i64 x.b, .int .i64 x.w]) hF 3 rfl rfl) ?_
 rintro _ w1 ⟨Cw1, bw1, rfl, s_1, hx, hF⟩
 refine aT (kq 3 (.box 62 (.tmp 1))) rfl rfl (a_box (cs := [.int .i64 y.a, .int .i64 y.b, .int .i64 y.w]) hF 3 rfl rfl) ?_
 rintro _ w2 ⟨Cw2, bw2, rfl, s_2, hy, hF⟩
 refine yAc 4 (.int .i64 0) ?_
 refine Sch.nil (run_sq ?_)
 refine run_draw (id := 1) (ops := F103.o1) [] (Cw2) [yy 0, yy 1, yy 2, yy 3, yy 5, yy 6, yy 7, yy 8, nn 4, nn 9, nn 10, nn 11, yy 12] Tryz_mixed (by kernel_rfl) (by kernel_rfl) (by kernel_rfl) ?_
 intro w3 s_3
 have hR := Stp.refl [] w3 (Cw2)
 refine yF 5 62 2 0 0 ?_
 replace hx := (hx.t s_2).t s_3
 refine yS (kq 6 (.load 3 (.tmp 5))) rfl rfl (fun w' hS => val_loadOwn (hx.sy hS) (by kernel_rfl) rfl rfl) ?_
 refine yF 7 62 3 0 0 ?_
 replace hy := hy.t s_3
 refine yS (kq 8 (.load 3 (.tmp 7))) rfl rfl (fun w' hS => val_loadOwn (hy.sy hS) (by kernel_rfl) rfl rfl) ?_
 refine yF 10 62 2 1 1 ?_
 refine yS (kq 11 (.load 3 (.tmp 10))) rfl rfl (fun w' hS => val_loadOwn (hx.sy hS) (by kernel_rfl) rfl rfl) ?_
 refine yF 12 62 3 1 1 ?_
 refine yS (kq 13 (.load 3 (.tmp 12))) rfl rfl (fun w' hS => val_loadOwn (hy.sy hS) (by kernel_rfl) rfl rfl) ?_
 refine cF 9 76 [6, 8] [3, 3] Tryz.call76 rfl (cmpI_okA _ _ _) ?_
 rintro vw4 w4 ⟨rfl, rfl⟩
 refine ⟨hR.ext, ?_⟩
 refine cF 14 76 [11, 13] [3, 3] Tryz.call76 rfl (cmpI_okA _ _ _) ?_
 rintro vw5 w5 ⟨rfl, rfl⟩
 refine ⟨hR.ext, ?_⟩
 replace hF := hF.st s_3
 refine aS (kq 15 (.buildSlice 22 2 #[(0, (.tmp 9)), (1, (.tmp 14))])) rfl rfl (a_buildSlice (ys := ([cmpI x.a y.a, cmpI x.b y.b] : List Int)) (e := 3) (bytes := 8) hF (by kernel_rfl) rfl (by decide) (by decide) ⟨rfl, ⟨_, rfl, rv_int.2 rfl⟩, rfl, ⟨_, rfl, rv_int.2 rfl⟩, trivial⟩) ?_
 rintro v15 w6 ⟨s_4, g15, hF⟩
 refine ⟨(hR.trans s_4 (by simp)).ext, ?_⟩
 refine cF 16 96 [15] [22] Tryz.call96 rfl (orI_okA g15) ?_
 rintro vw7 w7 ⟨rfl, rfl⟩
 replace hR := hR.t s_4
 refine ⟨hR.ext, ?_⟩
 refine yA 4 16 ?_
 refine Sch.nil ?_
 refine rt1 Tryz.func103 Tryz.results103 ?_
 replace hT := (((hT.t s_1).t s_2).t s_3).t s_4
 exact ⟨rfl, hT.out1 (by decide)⟩
namespace F65
def c0 := bodyOf Tryz.f65
def c21 := (cl (cr (cl (cr (cr c0)))))
def c30 := (cl (cl (cr (cr (cl c21)))))
def c41 := (cr (cr (cr (cl (cr c30)))))
def o12 := rops (cl (cr c41))
end F65
theorem echeck_ok {w₀ : World} {C : Nat → Nat} {n m : Int} {l : List K.Edge} {vl : Value} (hF : Lim w₀ C) (hl : RV w₀ (Mc C) l vl) : Calls Tryz.prog 65 #[.int .i64 n, .int .i64 m, vl] w₀ (Ret fun v w' => v = .int .i64 (chkE n m l) ∧ Stp [] w₀ C w' C) := by
 have hF0 := hF
 have hT := Stp.refl [2, 3, 4, 5, 6, 7, 8, 9] w₀ (col1 C)
 replace hF := hF.col1
 replace hl := hl.c1
 refine c_st F65.c0 73 [.int .i64 n, .int .i64 m, vl] Tryz.func65 ?_
 show Run _ _ _ _ [(0, .int .i64 n), (1, .int .i64 m), (2, vl)] _ _
 refine run_sq (run_pl [yy 0] ?_)
 refine yAc 6 (.int .i64 0) ?_
 refine Sch.nil (run_sq (run_bk 0 (run_sq ?_)))
 refine run_cut 9 (decide (sideB n = false ∨ sideB m = false)) (col1 C) ?_ ?_
 ·
  intro hcut
  by_cases hA : sideB n = true
  ·
   by_cases hB : sideB m = true
   ·
    refine run_pl [yy 0, nn 1, yy 2, yy 3, yy 4, nn 5, yy 6, yy 7, yy 8] ?_
    have hcs := Stp.reflF hF
    refine yM 10 0 ?_
    refine cG 11 102 [10] [3] Tryz.call102 rfl (side_ok n hF) ?_
    rintro vw1 w1 ⟨rfl, s_1⟩
    rw [hA]
    refine yV (kq 12 (.unOp .not 4 (.tmp 11))) (fun _ => val_not rfl) ?_
    refine yM 13 12 ?_
    refine yMg 14 1 3 false ?_
    replace hF := hF.st s_1
    refine cT (kg 15 (.call { callee := .value (.func 102), args := #[(.tmp 14)], argTypes := #[3] }) 3 false) rfl rfl (ent Tryz.call102 rfl) (side_ok m hF) ?_
    rintro vw2 w2 ⟨rfl, s_2⟩
    rw [hB]
    refine yV (kg 16 (.unOp .not 4 (.tmp 15)) 3 false) (fun _ => val_not rfl) ?_
    refine yOf 17 13 16 ?_
    refine yA 9 17 ?_
    replace hcs := (hcs.t s_1).t s_2
    exact Sch.nil (hcut _ _ _ hcs rfl (by rw [hA, hB]; rfl) (sk 9))
   refine run_pl [yy 0, nn 1, yy 2, yy 3, yy 4, nn 5, yy 6, yy 7, yy 8] ?_
   have hcs := Stp.reflF hF
   refine yM 10 0 ?_
   refine cG 11 102 [10] [3] Tryz.call102 rfl (side_ok n hF) ?_
   rintro vw3 w3 ⟨rfl, s_3⟩
   rw [hA]
   refine yV (kq 12 (.unOp .not 4 (.tmp 11))) (fun _ => val_not rfl) ?_
   refine yM 13 12 ?_
   refine yMg 14 1 3 false ?_
   replace hF := hF.st s_3
   refine cT (kg 15 (.call { callee := .value (.func 102), args := #[(.tmp 14)], argTypes := #[3] }) 3 false) rfl rfl (ent Tryz.call102 rfl) (side_ok m hF) ?_
   rintro vw4 w4 ⟨rfl, s_4⟩
   rw [Bool.eq_false_iff.2 hB]
   refine yV (kg 16 (.unOp .not 4 (.tmp 15)) 3 false) (fun _ => val_not rfl) ?_
   refine yOf 17 13 16 ?_
   refine yA 9 17 ?_
   replace hcs := (hcs.t s_3).t s_4
   exact Sch.nil (hcut _ _ _ hcs rfl (by rw [decide_eq_true (show sideB n = false ∨ sideB m = false from .inr (Bool.eq_false_iff.2 hB))]; rfl) (sk 9))
  refine run_pl [yy 0, nn 1, yy 2, yy 3, yy 4, nn 5, yy 6, yy 7, yy 8] ?_
  have hcs := Stp.reflF hF
  refine yM 10 0 ?_
  refine cG 11 102 [10] [3] Tryz.call102 rfl (side_ok n hF) ?_
  rintro vw5 w5 ⟨rfl, s_5⟩
  rw [Bool.eq_false_iff.2 hA]
  refine yV (kq 12 (.unOp .not 4 (.tmp 11))) (fun _ => val_not rfl) ?_
  refine yM 13 12 ?_
  refine pX 14 3 false ?_
  refine pW (kg 15 (.call { callee := .value (.func 102), args := #[(.tmp 14)], argTypes := #[3] }) 3 false) rfl rfl trivial ?_
  refine pX 16 3 false ?_
  refine yOt 17 13 16 ?_
  refine yA 9 17 ?_
  replace hcs := hcs.t s_5
  exact Sch.nil (hcut _ _ _ hcs rfl (by rw [decide_eq_true (show sideB n = false ∨ sideB m = false from .inl (Bool.eq_false_iff.2 hA))]) (sk 9))
 intro w6 s_6
 refine run_i 9 rfl (fun h9 => ?_) (fun h9 => ?_)
 ·
  refine run_sq (run_pl [yy 0] ?_)
  refine yAc 6 (.int .i64 2) ?_
  refine Sch.nil ?_
  refine rt1 Tryz.func65 Tryz.results65 ?_
  replace hT := hT.t s_6
  exact ⟨by rw [chkE_side h9], hT.out1 (by decide)⟩
 refine run_sq (run_pl [yy 0, yy 1, yy 2, yy 3] ?_)
 refine yM 19 2 ?_
 replace hl := hl.t s_6
 refine yS (kq 20 (.call { callee := .builtin .len, args := #[(.tmp 19)], argTypes := #[60] })) rfl rfl (fun w' hS => hl.lenV rfl Tryz.underlying60 w' ) ?_
 refine yV (kq 21 (.binOp .gtr 3 (.tmp 20) (.const (.int .i64 4096)) 3)) (fun _ => val_gtr rfl rfl) ?_
 refine yA 18 21 ?_
 refine Sch.nil ?_
 refine run_i 18 rfl (fun h18 => ?_) (fun h18 => ?_)
 ·
  refine run_sq (run_pl [yy 0] ?_)
  refine yAc 6 (.int .i64 1) ?_
  refine Sch.nil ?_
  refine rt1 Tryz.func65 Tryz.results65 ?_
  replace hT := hT.t s_6
  exact ⟨by rw [chkE_lim h9 (by omega)], hT.out1 (by decide)⟩
 have hlim : l.length ≤ 4096 := by omega
 refine run_sk (run_inBlock (run_sq (run_sq (run_pl [yy 0, yy 1, yy 2] ?_))))
 refine yM 22 2 ?_
 refine yS (kq 23 (.call { callee := .builtin .len, args := #[(.tmp 22)], argTypes := #[60] })) rfl rfl (fun w' hS => hl.lenV rfl Tryz.underlying60 w' ) ?_
 refine yC 24 (.int .i64 0) ?_
 refine Sch.nil (run_bk 1 ?_)
 refine run_lp (ι := Nat × (Nat → Nat)) (I := fun x w => x.1 ≤ l.length ∧ (∀ k, k < x.1 → errE n m l k = 0) ∧ Lim w x.2 ∧ Stp [2, 3, 4, 5, 6, 7, 8, 9] w₀ (col1 C) w x.2 ∧ RV w (Mc x.2) l vl) (e := fun x => [(0, .int .i64 n), (1, .int .i64 m), (2, vl), (22, vl), (23, .int .i64 l.length), (24, .int .i64 x.1)]) (m := fun x => l.length - x.1) (x₀ := (0, col1 C)) (sr 0 (sr 1 (sr 2 (sr 22 (sr 23 (sr 24 (sub_nil _))))))) ?_ ?_
 ·
   replace hF := hF.st s_6; replace hT := hT.t s_6
   exact ⟨Nat.zero_le _, fun k hk => by simp at hk, hF, hT, hl⟩
 intro ⟨i, C1⟩ w7 hI next1
 obtain ⟨hi, h0, hF, hT, hl⟩ := hI
 try simp only at hi h0 hF hT hl
 show Run _ _ _ _ [(0, .int .i64 n), (1, .int .i64 m), (2, vl), (22, vl), (23, .int .i64 l.length), (24, .int .i64 i)] _ _
 refine run_sq (run_pl [yy 0] ?_)
 refine yL 25 3 24 23 ?_
 refine Sch.nil (run_sq ?_)
 refine run_i 25 rfl (fun h25 => ?_) (fun h25 => ?_)
 ·
  have hil : i < l.length := by omega
  have hE := errE_val (n := n) (m := m) hil
  refine run_sk (run_sq (run_bk 2 (run_sq (run_pl [yy 0, yy 1, nn 2, nn 3, yy 4, nn 5] ?_))))
  refine yM 26 24 ?_
  refine iR 62 27 60 22 24 hl rfl (h := ?_)
  intro b27 o27 h27
  try simp only [Int.toNat_natCast] at h27
  refine lNA (kq 28 (.load 62 (.tmp 27))) rfl rfl trivial h27 (by kernel_rfl) (by kernel_rfl) rfl rfl ?_
  intro v28 g28
  obtain rfl := rv_edge.1 g28
  refine aT (kq 8 (.alloc 62)) rfl rfl (a_alloc (cs := [.int .i64 0, .int .i64 0, .int .i64 0]) hF 4 (by kernel_rfl)) ?_
  rintro _ w8 ⟨Cw8, bw8, rfl, s_7, hx, hF⟩
  refine yA 7 26 ?_
  refine aU (k0 (.store 62 (.tmp 8) (.tmp 28))) rfl (a_storeAll (vs := encE (l[i]'hil)) (n := 3) rfl rfl (by kernel_rfl) rfl rfl (by intro u hu; simp only [encE, List.mem_cons, List.not_mem_nil, or_false] at hu; rcases hu with rfl | rfl | rfl <;> rfl) hx rfl) ?_
  rintro _ w9 ⟨rfl, s_8, hx⟩
  refine Sch.nil (run_bk 3 (run_sq ?_))
  refine run_cut 29 (decide ((l[i]'hil).a < 0 ∨ n ≤ (l[i]'hil).a ∨ (l[i]'hil).b < 0 ∨ m ≤ (l[i]'hil).b)) (Cw8) ?_ ?_
  ·
   intro hcut
   by_cases hA : (l[i]'hil).a < 0
   ·
    refine run_pl [yy 0, nn 1, yy 2, yy 3, yy 4, nn 5, yy 6, yy 7, yy 8, yy 9, yy 10, nn 11, yy 12, yy 13, yy 14, yy 15, nn 16, yy 17, yy 18, yy 19, yy 20] ?_
    refine yF 30 62 8 0 0 ?_
    refine nO 31 3 30 hx.at_ rfl rfl ?_
    refine yV (kq 32 (.binOp .lss 3 (.tmp 31) (.const (.int .i64 0)) 3)) (fun _ => val_T (val_lss rfl rfl) hA) ?_
    refine yM 33 32 ?_
    refine pX 34 3 false ?_
    refine pW (kg 35 (.load 3 (.tmp 34)) 3 false) rfl rfl trivial ?_
    refine pX 36 3 false ?_
    refine pX 37 3 false ?_
    refine yOt 38 33 37 ?_
    refine yM 39 38 ?_
    refine pX 40 9 false ?_
    refine pW (kg 41 (.load 3 (.tmp 40)) 9 false) rfl rfl trivial ?_
    refine pX 42 9 false ?_
    refine yOt 43 39 42 ?_
    refine yM 44 43 ?_
    refine pX 45 14 false ?_
    refine pW (kg 46 (.load 3 (.tmp 45)) 14 false) rfl rfl trivial ?_
    refine pX 47 14 false ?_
    refine pX 48 14 false ?_
    refine yOt 49 44 48 ?_
    refine yA 29 49 ?_
    exact Sch.nil (hcut _ _ _ (Stp.refl _ _ _) rfl (by rw [decide_eq_true (show (l[i]'hil).a < 0 ∨ n ≤ (l[i]'hil).a ∨ (l[i]'hil).b < 0 ∨ m ≤ (l[i]'hil).b from .inl hA)]) (sk 21))
   by_cases hB : n ≤ (l[i]'hil).a
   ·
    refine run_pl [yy 0, nn 1, yy 2, yy 3, yy 4, nn 5, yy 6, yy 7, yy 8, yy 9, yy 10, nn 11, yy 12, yy 13, yy 14, yy 15, nn 16, yy 17, yy 18, yy 19, yy 20] ?_
    refine yF 30 62 8 0 0 ?_
    refine nO 31 3 30 hx.at_ rfl rfl ?_
    refine yV (kq 32 (.binOp .lss 3 (.tmp 31) (.const (.int .i64 0)) 3)) (fun _ => val_F (val_lss rfl rfl) hA) ?_
    refine yM 33 32 ?_
    refine yFg 34 62 8 0 0 3 false ?_
    refine nS (kg 35 (.load 3 (.tmp 34)) 3 false) rfl rfl trivial (val_loadOwn hx.at_ (by kernel_rfl) rfl rfl) ?_
    refine yMg 36 0 3 false ?_
    refine yV (kg 37 (.binOp .geq 3 (.tmp 35) (.tmp 36) 3) 3 false) (fun _ => val_T (val_geq rfl rfl) hB) ?_
    refine yOf 38 33 37 ?_
    refine yM 39 38 ?_
    refine pX 40 9 false ?_
    refine pW (kg 41 (.load 3 (.tmp 40)) 9 false) rfl rfl trivial ?_
    refine pX 42 9 false ?_
    refine yOt 43 39 42 ?_
    refine yM 44 43 ?_
    refine pX 45 14 false ?_
    refine pW (kg 46 (.load 3 (.tmp 45)) 14 false) rfl rfl trivial ?_
    refine pX 47 14 false ?_
    refine pX 48 14 false ?_
    refine yOt 49 44 48 ?_
    refine yA 29 49 ?_
    exact Sch.nil (hcut _ _ _ (Stp.refl _ _ _) rfl (by rw [decide_eq_true (show (l[i]'hil).a < 0 ∨ n ≤ (l[i]'hil).a ∨ (l[i]'hil).b < 0 ∨ m ≤ (l[i]'hil).b from .inr (.inl hB))]) (sk 21))
   by_cases hC : (l[i]'hil).b < 0
   ·
    refine run_pl [yy 0, nn 1, yy 2, yy 3, yy 4, nn 5, yy 6, yy 7, yy 8, yy 9, yy 10, nn 11, yy 12, yy 13, yy 14, yy 15, nn 16, yy 17, yy 18, yy 19, yy 20] ?_
    refine yF 30 62 8 0 0 ?_
    refine nO 31 3 30 hx.at_ rfl rfl ?_
    refine yV (kq 32 (.binOp .lss 3 (.tmp 31) (.const (.int .i64 0)) 3)) (fun _ => val_F (val_lss rfl rfl) hA) ?_
    refine yM 33 32 ?_
    refine yFg 34 62 8 0 0 3 false ?_
    refine nS (kg 35 (.load 3 (.tmp 34)) 3 false) rfl rfl trivial (val_loadOwn hx.at_ (by kernel_rfl) rfl rfl) ?_
    refine yMg 36 0 3 false ?_
    refine yV (kg 37 (.binOp .geq 3 (.tmp 35) (.tmp 36) 3) 3 false) (fun _ => val_F (val_geq rfl rfl) hB) ?_
    refine yOf 38 33 37 ?_
    refine yM 39 38 ?_
    refine yFg 40 62 8 1 1 9 false ?_
    refine nS (kg 41 (.load 3 (.tmp 40)) 9 false) rfl rfl trivial (val_loadOwn hx.at_ (by kernel_rfl) rfl rfl) ?_
    refine yV (kg 42 (.binOp .lss 3 (.tmp 41) (.const (.int .i64 0)) 3) 9 false) (fun _ => val_T (val_lss rfl rfl) hC) ?_
    refine yOf 43 39 42 ?_
    refine yM 44 43 ?_
    refine pX 45 14 false ?_
    refine pW (kg 46 (.load 3 (.tmp 45)) 14 false) rfl rfl trivial ?_
    refine pX 47 14 false ?_
    refine pX 48 14 false ?_
    refine yOt 49 44 48 ?_
    refine yA 29 49 ?_
    exact Sch.nil (hcut _ _ _ (Stp.refl _ _ _) rfl (by rw [decide_eq_true (show (l[i]'hil).a < 0 ∨ n ≤ (l[i]'hil).a ∨ (l[i]'hil).b < 0 ∨ m ≤ (l[i]'hil).b from .inr (.inr (.inl hC)))]) (sk 21))
   refine run_pl [yy 0, nn 1, yy 2, yy 3, yy 4, nn 5, yy 6, yy 7, yy 8, yy 9, yy 10, nn 11, yy 12, yy 13, yy 14, yy 15, nn 16, yy 17, yy 18, yy 19, yy 20] ?_
   refine yF 30 62 8 0 0 ?_
   refine nO 31 3 30 hx.at_ rfl rfl ?_
   refine yV (kq 32 (.binOp .lss 3 (.tmp 31) (.const (.int .i64 0)) 3)) (fun _ => val_F (val_lss rfl rfl) hA) ?_
   refine yM 33 32 ?_
   refine yFg 34 62 8 0 0 3 false ?_
   refine nS (kg 35 (.load 3 (.tmp 34)) 3 false) rfl rfl trivial (val_loadOwn hx.at_ (by kernel_rfl) rfl rfl) ?_
   refine yMg 36 0 3 false ?_
   refine yV (kg 37 (.binOp .geq 3 (.tmp 35) (.tmp 36) 3) 3 false) (fun _ => val_F (val_geq rfl rfl) hB) ?_
   refine yOf 38 33 37 ?_
   refine yM 39 38 ?_
   refine yFg 40 62 8 1 1 9 false ?_
   refine nS (kg 41 (.load 3 (.tmp 40)) 9 false) rfl rfl trivial (val_loadOwn hx.at_ (by kernel_rfl) rfl rfl) ?_
   refine yV (kg 42 (.binOp .lss 3 (.tmp 41) (.const (.int .i64 0)) 3) 9 false) (fun _ => val_F (val_lss rfl rfl) hC) ?_
   refine yOf 43 39 42 ?_
   refine yM 44 43 ?_
   refine yFg 45 62 8 1 1 14 false ?_
   refine nS (kg 46 (.load 3 (.tmp 45)) 14 false) rfl rfl trivial (val_loadOwn hx.at_ (by kernel_rfl) rfl rfl) ?_
   refine yMg 47 1 14 false ?_
   refine yV (kg 48 (.binOp .geq 3 (.tmp 46) (.tmp 47) 3) 14 false) (fun _ => val_geq rfl rfl) ?_
   refine yOf 49 44 48 ?_
   refine yA 29 49 ?_
   exact Sch.nil (hcut _ _ _ (Stp.refl _ _ _) rfl (by congr 1; apply decide_eq_decide.2; omega) (sk 21))
  intro w10 s_9
  refine run_i 29 rfl (fun h29 => ?_) (fun h29 => ?_)
  ·
   refine run_sq (run_pl [yy 0] ?_)
   refine yAc 6 (.int .i64 43) ?_
   refine Sch.nil ?_
   refine rt1 Tryz.func65 Tryz.results65 ?_
   rw [if_pos h29] at hE
   replace hT := ((hT.t s_7).t s_8).t s_9
   exact ⟨by rw [chkE_at h9 hlim hil h0 (by rw [hE]; decide), hE], hT.out1 (by decide)⟩
  refine run_sq ?_
  refine run_cut 50 (decide ((l[i]'hil).w < -65536 ∨ 65536 < (l[i]'hil).w)) (Cw8) ?_ ?_
  ·
   intro hcut
   by_cases hA : (l[i]'hil).w < -65536
   ·
    refine run_pl [yy 0, nn 1, yy 2, yy 3, yy 4, nn 5, yy 6, yy 7, yy 8] ?_
    refine yF 51 62 8 2 2 ?_
    replace hx := hx.t s_9
    refine nO 52 3 51 hx.at_ rfl rfl ?_
    refine yV (kq 53 (.binOp .lss 3 (.tmp 52) (.const (.int .i64 (-65536))) 3)) (fun _ => val_T (val_lss rfl rfl) hA) ?_
    refine yM 54 53 ?_
    refine pX 55 3 false ?_
    refine pW (kg 56 (.load 3 (.tmp 55)) 3 false) rfl rfl trivial ?_
    refine pX 57 3 false ?_
    refine yOt 58 54 57 ?_
    refine yA 50 58 ?_
    exact Sch.nil (hcut _ _ _ (Stp.refl _ _ _) rfl (by rw [decide_eq_true (Or.inl hA)]) (sk 9))
   refine run_pl [yy 0, nn 1, yy 2, yy 3, yy 4, nn 5, yy 6, yy 7, yy 8] ?_
   refine yF 51 62 8 2 2 ?_
   replace hx := hx.t s_9
   refine nO 52 3 51 hx.at_ rfl rfl ?_
   refine yV (kq 53 (.binOp .lss 3 (.tmp 52) (.const (.int .i64 (-65536))) 3)) (fun _ => val_F (val_lss rfl rfl) hA) ?_
   refine yM 54 53 ?_
   refine yFg 55 62 8 2 2 3 false ?_
   refine nS (kg 56 (.load 3 (.tmp 55)) 3 false) rfl rfl trivial (val_loadOwn hx.at_ (by kernel_rfl) rfl rfl) ?_
   refine yV (kg 57 (.binOp .gtr 3 (.tmp 56) (.const (.int .i64 65536)) 3) 3 false) (fun _ => val_gtr rfl rfl) ?_
   refine yOf 58 54 57 ?_
   refine yA 50 58 ?_
   exact Sch.nil (hcut _ _ _ (Stp.refl _ _ _) rfl (by congr 1; apply decide_eq_decide.2; omega) (sk 9))
  intro w11 s_10
  refine run_i 50 rfl (fun h50 => ?_) (fun h50 => ?_)
  ·
   refine run_sq (run_pl [yy 0] ?_)
   refine yAc 6 (.int .i64 40) ?_
   refine Sch.nil ?_
   refine rt1 Tryz.func65 Tryz.results65 ?_
   rw [if_neg h29, if_pos h50] at hE
   replace hT := (((hT.t s_7).t s_8).t s_9).t s_10
   exact ⟨by rw [chkE_at h9 hlim hil h0 (by rw [hE]; decide), hE], hT.out1 (by decide)⟩
  refine run_sq ?_
  refine run_cut 59 (decide (0 < i ∧ ¬ ltP (l[i-1]'(by omega)).k (l[i]'hil).k)) (Cw8) ?_ ?_
  ·
   intro hcut
   by_cases hA : (0 : Int) < i
   ·
    refine run_draw (id := 12) (ops := F65.o12) [] (Cw8) [yy 0, yy 1, yy 2, yy 3, yy 4, yy 5, yy 6, yy 7, yy 8, nn 9, yy 10, yy 11, yy 12] Tryz_mixed (by kernel_rfl) (by kernel_rfl) (by kernel_rfl) ?_
    intro w12 s_11
    have hcs := s_11
    have hR := Stp.refl [] w12 (Cw8)
    refine yM 60 7 ?_
    refine yV (kq 61 (.binOp .gtr 3 (.tmp 60) (.const (.int .i64 0)) 3)) (fun _ => val_T (val_gtr rfl rfl) hA) ?_
    refine yM 62 61 ?_
    refine yMg 63 2 2 true ?_
    refine yMg 64 7 2 true ?_
    refine yV (kg 65 (.binOp .sub 3 (.tmp 64) (.const (.int .i64 1)) 3) 2 true) (fun _ => val_subi rfl rfl (by omega) (by omega)) ?_
    replace hl := ((((hl.t s_7).t s_8).t s_9).t s_10).t s_11
    refine iS (e := 62) (kg 66 (.indexAddr 60 (.tmp 63) (.tmp 65)) 2 true) rfl rfl hl rfl (by kernel_rfl) rfl (by omega) (by omega) ?_
    intro b66 o66 h66
    try simp only [Int.toNat_natCast] at h66
    refine lSA (kg 67 (.load 62 (.tmp 66)) 2 true) rfl rfl (fun w' hS => h66.sy hS) h66 (by kernel_rfl) (by kernel_rfl) rfl rfl ?_
    intro v67 g67
    obtain rfl := rv_edge.1 g67
    replace hx := ((hx.t s_9).t s_10).t s_11
    refine yS (kg 68 (.load 62 (.tmp 8)) 2 true) rfl rfl (fun w' hS => val_loadOwnAgg (n := 3) (vs := encE (l[i]'hil)) (hx.stay hS (by decide)) (by kernel_rfl) (by kernel_rfl) rfl rfl rfl) ?_
    replace hF := (((hF.st s_8).st s_9).st s_10).st s_11
    refine cS (kg 69 (.call { callee := .value (.func 103), args := #[(.tmp 67), (.tmp 68)], argTypes := #[62, 62] }) 2 true) rfl rfl (ent Tryz.call103 rfl) (ecompare_ok (y := l[i]'hil) hF) ?_
    rintro vw13 w13 ⟨rfl, s_12⟩
    refine ⟨(hR.trans s_12 (by simp)).ext, ?_⟩
    refine yV (kg 70 (.binOp .geq 3 (.tmp 69) (.const (.int .i64 0)) 3) 2 true) (fun _ => val_geq rfl rfl) ?_
    refine yAt 71 62 70 ?_
    refine yA 59 71 ?_
    replace hcs := hcs.t s_12
    exact Sch.nil (hcut _ _ _ hcs rfl (by
  have e1 : ((i : Int) - 1).toNat = i - 1 := by omega
  congr 1; apply decide_eq_decide.2; simp only [e1]; rw [← cmpC_neg]; exact ⟨fun h => ⟨by omega, by omega⟩, fun h => by have := h.2; omega⟩) (sk 13))
   refine run_draw (id := 12) (ops := F65.o12) [] (Cw8) [yy 0, yy 1, yy 2, yy 3, yy 4, yy 5, yy 6, yy 7, yy 8, nn 9, yy 10, yy 11, yy 12] Tryz_mixed (by kernel_rfl) (by kernel_rfl) (by kernel_rfl) ?_
   intro w14 s_13
   have hcs := s_13
   have hR := Stp.refl [] w14 (Cw8)
   refine yM 60 7 ?_
   refine yV (kq 61 (.binOp .gtr 3 (.tmp 60) (.const (.int .i64 0)) 3)) (fun _ => val_F (val_gtr rfl rfl) hA) ?_
   refine yM 62 61 ?_
   refine pX 63 2 true ?_
   refine pX 64 2 true ?_
   refine pX 65 2 true ?_
   refine pX 66 2 true ?_
   refine pX 67 2 true ?_
   refine pX 68 2 true ?_
   refine pW (kg 69 (.call { callee := .value (.func 103), args := #[(.tmp 67), (.tmp 68)], argTypes := #[62, 62] }) 2 true) rfl rfl hR.ext ?_
   refine pX 70 2 true ?_
   refine yAf 71 62 70 ?_
   refine yA 59 71 ?_
   exact Sch.nil (hcut _ _ _ hcs rfl (by rw [decide_eq_false (fun e => hA (by omega))]) (sk 13))
  intro w15 s_14
  refine run_i 59 rfl (fun h59 => ?_) (fun h59 => ?_)
  ·
   refine run_sq (run_pl [yy 0] ?_)
   refine yAc 6 (.int .i64 12) ?_
   refine Sch.nil ?_
   refine rt1 Tryz.func65 Tryz.results65 ?_
   rw [if_neg h29, if_neg h50, if_pos h59] at hE
   replace hT := ((((hT.t s_7).t s_8).t s_9).t s_10).t s_14
   exact ⟨by rw [chkE_at h9 hlim hil h0 (by rw [hE]; decide), hE], hT.out1 (by decide)⟩
  refine run_sk (run_inBlock (run_inBlock (run_pl [yy 0, yy 1] ?_)))
  refine yI 72 3 24 1 ?_
  refine yM 24 72 ?_
  refine Sch.nil ?_
  replace hT := ((((hT.t s_7).t s_8).t s_9).t s_10).t s_14; replace hl := ((((hl.t s_7).t s_8).t s_9).t s_10).t s_14; replace hF := (((hF.st s_8).st s_9).st s_10).st s_14
  refine kp (sub_cons 0 rfl rfl (sub_cons 1 rfl rfl (sub_cons 2 rfl rfl (sub_cons 22 rfl rfl (sub_cons 23 rfl rfl (sub_cons 24 rfl (eq_int (by simp)) (sub_nil _))))))) (next1 (i + 1, Cw8) _ ⟨(by first | omega | (simp only; omega)), (fun k hk => by
           simp only at hk
           by_cases e : k = i
           · subst e; rw [hE, if_neg h29, if_neg h50, if_neg h59]
           · exact h0 k (by omega)), hF, hT, hl⟩ (by first | omega | (simp only; omega)))
 have hil : i = l.length := by omega
 refine run_ex 1 ?_
 refine run_sq (run_pl [yy 0] ?_)
 refine yAc 6 (.int .i64 0) ?_
 refine Sch.nil ?_
 refine rt1 Tryz.func65 Tryz.results65 ?_
 subst hil
 exact ⟨by rw [chkE_ok h9 hlim h0], hT.out1 (by decide)⟩
end
end Go.Proofs.YtdmgmlmlielfbaaGreat
