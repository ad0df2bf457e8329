/- Steps through functions of the program. -/
import Derived.Test.YtmdhggfehknjjaaGreatJHC
set_option linter.unusedVariables false
set_option linter.unusedSimpArgs false
set_option maxRecDepth 100000
set_option maxHeartbeats 4000000
namespace Go.Proofs.YtmdhggfehknjjaaGreat
open Go.K Go.K.Rep
noncomputable section
namespace F24
def c0 := bodyOf Tryz.f24
def c14 := (cl (cr (cl (cr (cr c0)))))
def c24 := (cl (cl (cl (cr (cl c14)))))
def o6 := rops c24
end F24
theorem sameParts_ok {w₀ : World} {C : Nat → Nat} {l : List (List Couple)} {va vb : Value} (hF : Lim w₀ C) (ha : RV w₀ (Mc C) l va) (hb : RV w₀ (Mc C) l vb) : Calls Tryz.prog 24 #[va, vb] w₀ (Ret fun v w' => v = .bool true ∧ Stp [] w₀ C w' C) := by
 have hF0 := hF
 have hT := Stp.refl [2, 3, 4, 5, 6, 7, 8, 9] w₀ (col1 C)
 replace hF := hF.col1
 replace ha := ha.c1
 replace hb := hb.c1
 refine c_st F24.c0 27 [va, vb] Tryz.func24 ?_
 show Run _ _ _ _ [(0, va), (1, vb)] _ _
 refine run_sq (run_pl [yy 0] ?_)
 refine yAc 4 (.bool false) ?_
 refine Sch.nil (run_sq (run_sq (run_pl [yy 0, yy 1, yy 2, yy 3, yy 4] ?_)))
 refine yM 6 0 ?_
 refine yS (kq 7 (.call { callee := .builtin .len, args := #[(.tmp 6)], argTypes := #[24] })) rfl rfl (fun w' hS => ha.lenV rfl Tryz.underlying24 w' ) ?_
 refine yM 8 1 ?_
 refine yS (kq 9 (.call { callee := .builtin .len, args := #[(.tmp 8)], argTypes := #[24] })) rfl rfl (fun w' hS => hb.lenV rfl Tryz.underlying24 w' ) ?_
 refine yV (kq 10 (.binOp .neq 3 (.tmp 7) (.tmp 9) 3)) (fun _ => val_F (val_neq rfl rfl) (fun e => e rfl)) ?_
 refine Sch.nil (run_cF 10 (run_sk (run_sq (run_sq (run_pl [yy 0] ?_)))))
 refine yAc 5 (.int .i64 0) ?_
 refine Sch.nil (run_bk 0 ?_)
 refine run_lp (ι := Nat × (Nat → Nat)) (I := fun x w => x.1 ≤ l.length ∧ Lim w x.2 ∧ Stp [2, 3, 4, 5, 6, 7, 8, 9] w₀ (col1 C) w x.2 ∧ RV w (Mc x.2) l va ∧ RV w (Mc x.2) l vb) (e := fun x => [(0, va), (1, vb), (5, .int .i64 x.1)]) (m := fun x => l.length - x.1) (x₀ := (0, col1 C)) (sr 0 (sr 1 (sr 5 (sub_nil _)))) ?_ ?_
 · exact ⟨Nat.zero_le _, hF, hT, ha, hb⟩
 intro ⟨i, C1⟩ w1 hI next1
 obtain ⟨hi, hF, hT, ha, hb⟩ := hI
 try simp only at hi hF hT ha hb
 show Run _ _ _ _ [(0, va), (1, vb), (5, .int .i64 i)] _ _
 have hle := ha.le
 refine run_sq (run_sq (run_pl [yy 0, yy 1, yy 2, yy 3] ?_))
 refine yM 11 5 ?_
 refine yM 12 0 ?_
 refine yS (kq 13 (.call { callee := .builtin .len, args := #[(.tmp 12)], argTypes := #[24] })) rfl rfl (fun w' hS => ha.lenV rfl Tryz.underlying24 w' ) ?_
 refine yL 14 3 11 13 ?_
 refine Sch.nil ?_
 refine run_i 14 rfl (fun h14 => ?_) (fun h14 => ?_)
 ·
  have hil : i < l.length := by omega
  refine run_sk (run_sq (run_bk 1 (run_sq ?_)))
  refine run_draw (id := 6) (ops := F24.o6) [] (C1) [yy 0, yy 1, yy 2, yy 3, yy 4, yy 5, yy 6, yy 7, nn 8, yy 9] Tryz_mixed (by kernel_rfl) (by kernel_rfl) (by kernel_rfl) ?_
  intro w2 s_1
  have hR := Stp.refl [] w2 (C1)
  refine yM 17 0 ?_
  refine yM 18 5 ?_
  replace ha := ha.t s_1
  refine iR 52 19 24 17 18 ha rfl (h := ?_)
  intro b19 o19 h19
  try simp only [Int.toNat_natCast] at h19
  refine lS (kq 20 (.load 52 (.tmp 19))) rfl rfl (fun w' hS => h19.sy hS) h19 (by kernel_rfl) rfl rfl ?_
  intro v20 g20
  refine yM 21 1 ?_
  refine yM 22 5 ?_
  replace hb := hb.t s_1
  refine iR 52 23 24 21 22 hb rfl (h := ?_)
  intro b23 o23 h23
  try simp only [Int.toNat_natCast] at h23
  refine lS (kq 24 (.load 52 (.tmp 23))) rfl rfl (fun w' hS => h23.sy hS) h23 (by kernel_rfl) rfl rfl ?_
  intro v24 g24
  replace hF := hF.st s_1
  refine cF 25 38 [20, 24] [52, 52] Tryz.call38 rfl (sameRefs_ok hF g20 g24) ?_
  rintro vw3 w3 ⟨rfl, s_2⟩
  refine ⟨(hR.trans s_2 (by simp)).ext, ?_⟩
  refine yV (kq 26 (.unOp .not 4 (.tmp 25))) (fun _ => val_not rfl) ?_
  refine Sch.nil (run_cF 26 (run_sk (run_inBlock (run_pl [yy 0, yy 1, yy 2] ?_))))
  refine yM 15 5 ?_
  refine yI 16 3 15 1 ?_
  refine yA 5 16 ?_
  refine Sch.nil ?_
  replace hT := (hT.t s_1).t s_2; replace hF := hF.st s_2; replace ha := ha.t s_2; replace hb := hb.t s_2
  refine kp (sr 0 (sr 1 (sub_cons 5 rfl (eq_int (by simp)) (sub_nil _)))) (next1 (i + 1, C1) _ ⟨(by first | omega | (simp only; omega)), hF, hT, ha, hb⟩ (by first | omega | (simp only; omega)))
 refine run_ex 0 ?_
 refine run_sq (run_pl [yy 0] ?_)
 refine yAc 4 (.bool true) ?_
 refine Sch.nil ?_
 refine rt1 Tryz.func24 Tryz.results24 ?_
 exact ⟨rfl, hT.out1 (by decide)⟩
namespace F43
def c0 := bodyOf Tryz.f43
def c14 := (cl (cr (cl (cr (cr c0)))))
def c24 := (cl (cl (cl (cr (cl c14)))))
def o6 := rops c24
end F43
theorem sameBonds_ok {w₀ : World} {C : Nat → Nat} {l : List Bond} {va vb : Value} (hF : Lim w₀ C) (ha : RV w₀ (Mc C) l va) (hb : RV w₀ (Mc C) l vb) : Calls Tryz.prog 43 #[va, vb] w₀ (Ret fun v w' => v = .bool true ∧ Stp [] w₀ C w' C) := by
 have hF0 := hF
 have hT := Stp.refl [2, 3, 4, 5, 6, 7, 8, 9] w₀ (col1 C)
 replace hF := hF.col1
 replace ha := ha.c1
 replace hb := hb.c1
 refine c_st F43.c0 26 [va, vb] Tryz.func43 ?_
 show Run _ _ _ _ [(0, va), (1, vb)] _ _
 refine run_sq (run_pl [yy 0] ?_)
 refine yAc 4 (.bool false) ?_
 refine Sch.nil (run_sq (run_sq (run_pl [yy 0, yy 1, yy 2, yy 3, yy 4] ?_)))
 refine yM 6 0 ?_
 refine yS (kq 7 (.call { callee := .builtin .len, args := #[(.tmp 6)], argTypes := #[23] })) rfl rfl (fun w' hS => ha.lenV rfl Tryz.underlying23 w' ) ?_
 refine yM 8 1 ?_
 refine yS (kq 9 (.call { callee := .builtin .len, args := #[(.tmp 8)], argTypes := #[23] })) rfl rfl (fun w' hS => hb.lenV rfl Tryz.underlying23 w' ) ?_
 refine yV (kq 10 (.binOp .neq 3 (.tmp 7) (.tmp 9) 3)) (fun _ => val_F (val_neq rfl rfl) (fun e => e rfl)) ?_
 refine Sch.nil (run_cF 10 (run_sk (run_sq (run_sq (run_pl [yy 0] ?_)))))
 refine yAc 5 (.int .i64 0) ?_
 refine Sch.nil (run_bk 0 ?_)
 refine run_lp (ι := Nat × (Nat → Nat)) (I := fun x w => x.1 ≤ l.length ∧ Lim w x.2 ∧ Stp [2, 3, 4, 5, 6, 7, 8, 9] w₀ (col1 C) w x.2 ∧ RV w (Mc x.2) l va ∧ RV w (Mc x.2) l vb) (e := fun x => [(0, va), (1, vb), (5, .int .i64 x.1)]) (m := fun x => l.length - x.1) (x₀ := (0, col1 C)) (sr 0 (sr 1 (sr 5 (sub_nil _)))) ?_ ?_
 · exact ⟨Nat.zero_le _, hF, hT, ha, hb⟩
 intro ⟨i, C1⟩ w1 hI next1
 obtain ⟨hi, hF, hT, ha, hb⟩ := hI
 try simp only at hi hF hT ha hb
 show Run _ _ _ _ [(0, va), (1, vb), (5, .int .i64 i)] _ _
 have hle := ha.le
 refine run_sq (run_sq (run_pl [yy 0, yy 1, yy 2, yy 3] ?_))
 refine yM 11 5 ?_
 refine yM 12 0 ?_
 refine yS (kq 13 (.call { callee := .builtin .len, args := #[(.tmp 12)], argTypes := #[23] })) rfl rfl (fun w' hS => ha.lenV rfl Tryz.underlying23 w' ) ?_
 refine yL 14 3 11 13 ?_
 refine Sch.nil ?_
 refine run_i 14 rfl (fun h14 => ?_) (fun h14 => ?_)
 ·
  have hil : i < l.length := by omega
  refine run_sk (run_sq (run_bk 1 (run_sq ?_)))
  refine run_draw (id := 6) (ops := F43.o6) [] (C1) [yy 0, yy 1, yy 2, yy 3, yy 4, yy 5, yy 6, yy 7, yy 8] Tryz_mixed (by kernel_rfl) (by kernel_rfl) (by kernel_rfl) ?_
  intro w2 s_1
  refine yM 17 0 ?_
  refine yM 18 5 ?_
  replace ha := ha.t s_1
  refine iR 58 19 23 17 18 ha rfl (h := ?_)
  intro b19 o19 h19
  try simp only [Int.toNat_natCast] at h19
  refine lSA (kq 20 (.load 58 (.tmp 19))) rfl rfl (fun w' hS => h19.sy hS) h19 (by kernel_rfl) (by kernel_rfl) rfl rfl ?_
  intro v20 g20
  refine yM 21 1 ?_
  refine yM 22 5 ?_
  replace hb := hb.t s_1
  refine iR 58 23 23 21 22 hb rfl (h := ?_)
  intro b23 o23 h23
  try simp only [Int.toNat_natCast] at h23
  refine lSA (kq 24 (.load 58 (.tmp 23))) rfl rfl (fun w' hS => h23.sy hS) h23 (by kernel_rfl) (by kernel_rfl) rfl rfl ?_
  intro v24 g24
  obtain rfl := rv_bond.1 g20
  obtain rfl := rv_bond.1 g24
  refine yV (kq 25 (.binOp .neq 58 (.tmp 20) (.tmp 24) 58)) (fun _ => val_F (val_neBond (a := _) (b := _) Tryz.underlying58 (by decide) (by decide) (by decide) (by kernel_rfl) (eqOK_couple Tryz.underlying55 (by decide) (by decide) (by kernel_rfl) Tryz.underlying3) Tryz.underlying3 (by kernel_rfl) (by kernel_rfl) (by kernel_rfl) rfl rfl) (fun e => e rfl)) ?_
  refine Sch.nil (run_cF 25 (run_sk (run_inBlock (run_pl [yy 0, yy 1, yy 2] ?_))))
  refine yM 15 5 ?_
  refine yI 16 3 15 1 ?_
  refine yA 5 16 ?_
  refine Sch.nil ?_
  replace hF := hF.st s_1; replace hT := hT.t s_1
  refine kp (sr 0 (sr 1 (sub_cons 5 rfl (eq_int (by simp)) (sub_nil _)))) (next1 (i + 1, C1) _ ⟨(by first | omega | (simp only; omega)), hF, hT, ha, hb⟩ (by first | omega | (simp only; omega)))
 refine run_ex 0 ?_
 refine run_sq (run_pl [yy 0] ?_)
 refine yAc 4 (.bool true) ?_
 refine Sch.nil ?_
 refine rt1 Tryz.func43 Tryz.results43 ?_
 exact ⟨rfl, hT.out1 (by decide)⟩
namespace F18
def c0 := bodyOf Tryz.f18
end F18
theorem sameSol_ok {w₀ : World} {C : Nat → Nat} {l : List Bond} {zs : List (List Couple)} {va1 vp1 va2 vp2 : Value} {tt : Int} (hF : Lim w₀ C) (h1 : RV w₀ (Mc C) l va1) (h2 : RV w₀ (Mc C) zs vp1) (h3 : RV w₀ (Mc C) l va2) (h4 : RV w₀ (Mc C) zs vp2) : Calls Tryz.prog 18 #[.agg #[va1, vp1, .int .i64 tt], .agg #[va2, vp2, .int .i64 tt]] w₀ (Ret fun v w' => v = .bool true ∧ Stp [] w₀ C w' C) := by
 have hF0 := hF
 have hT := Stp.refl [2, 3, 4, 5, 6, 7, 8, 9] w₀ (col1 C)
 replace hF := hF.col1
 replace h1 := h1.c1
 replace h2 := h2.c1
 replace h3 := h3.c1
 replace h4 := h4.c1
 refine c_st F18.c0 24 [.agg #[va1, vp1, .int .i64 tt], .agg #[va2, vp2, .int .i64 tt]] Tryz.func18 ?_
 show Run _ _ _ _ [(0, .agg #[va1, vp1, .int .i64 tt]), (1, .agg #[va2, vp2, .int .i64 tt])] _ _
 refine run_sq (run_pl [nn 0, nn 1, yy 2] ?_)
 refine aT (kq 2 (.box 26 (.tmp 0))) rfl rfl (a_box (cs := [va1, vp1, .int .i64 tt]) hF 3 rfl rfl) ?_
 rintro _ w1 ⟨Cw1, bw1, rfl, s_1, hx, hF⟩
 refine aT (kq 3 (.box 26 (.tmp 1))) rfl rfl (a_box (cs := [va2, vp2, .int .i64 tt]) hF 4 rfl rfl) ?_
 rintro _ w2 ⟨Cw2, bw2, rfl, s_2, hy, hF⟩
 refine yAc 4 (.bool false) ?_
 refine Sch.nil (run_sq (run_pl [yy 0, nn 1, yy 2, nn 3, yy 4, yy 5, yy 6, nn 7, yy 8, nn 9, nn 10, yy 11, yy 12, yy 13, nn 14, yy 15, nn 16, nn 17, yy 18, yy 19] ?_))
 refine yF 5 26 2 2 2 ?_
 replace hx := hx.t s_2
 refine nO 6 3 5 hx.at_ rfl rfl ?_
 refine yF 7 26 3 2 2 ?_
 refine nO 8 3 7 hy.at_ rfl rfl ?_
 refine yV (kq 9 (.binOp .eql 3 (.tmp 6) (.tmp 8) 3)) (fun _ => val_T (val_eql rfl rfl) rfl) ?_
 refine yM 10 9 ?_
 refine yFg 11 26 2 0 0 5 true ?_
 refine nS (kg 12 (.load 23 (.tmp 11)) 5 true) rfl rfl trivial (val_loadOwn hx.at_ (by kernel_rfl) rfl rfl) ?_
 refine yFg 13 26 3 0 0 5 true ?_
 refine nS (kg 14 (.load 23 (.tmp 13)) 5 true) rfl rfl trivial (val_loadOwn hy.at_ (by kernel_rfl) rfl rfl) ?_
 replace h1 := (h1.t s_1).t s_2; replace h3 := (h3.t s_1).t s_2
 refine cT (kg 15 (.call { callee := .value (.func 43), args := #[(.tmp 12), (.tmp 14)], argTypes := #[23, 23] }) 5 true) rfl rfl (ent Tryz.call43 rfl) (sameBonds_ok hF h1 h3) ?_
 rintro vw3 w3 ⟨rfl, s_3⟩
 refine yAt 16 10 15 ?_
 refine yM 17 16 ?_
 refine yFg 18 26 2 1 1 12 true ?_
 replace hx := hx.t s_3
 refine nS (kg 19 (.load 24 (.tmp 18)) 12 true) rfl rfl trivial (val_loadOwn hx.at_ (by kernel_rfl) rfl rfl) ?_
 refine yFg 20 26 3 1 1 12 true ?_
 replace hy := hy.t s_3
 refine nS (kg 21 (.load 24 (.tmp 20)) 12 true) rfl rfl trivial (val_loadOwn hy.at_ (by kernel_rfl) rfl rfl) ?_
 replace h2 := ((h2.t s_1).t s_2).t s_3; replace h4 := ((h4.t s_1).t s_2).t s_3; replace hF := hF.st s_3
 refine cT (kg 22 (.call { callee := .value (.func 24), args := #[(.tmp 19), (.tmp 21)], argTypes := #[24, 24] }) 12 true) rfl rfl (ent Tryz.call24 rfl) (sameParts_ok hF h2 h4) ?_
 rintro vw4 w4 ⟨rfl, s_4⟩
 refine yAt 23 17 22 ?_
 refine yA 4 23 ?_
 refine Sch.nil ?_
 refine rt1 Tryz.func18 Tryz.results18 ?_
 replace hT := (((hT.t s_1).t s_2).t s_3).t s_4
 exact ⟨rfl, hT.out1 (by decide)⟩
end
end Go.Proofs.YtmdhggfehknjjaaGreat
