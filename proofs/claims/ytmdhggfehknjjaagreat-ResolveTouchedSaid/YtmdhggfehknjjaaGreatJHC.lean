/- Steps through functions of the program. -/
import Derived.Test.YtmdhggfehknjjaaGreatJH1
set_option linter.unusedVariables false
set_option linter.unusedSimpArgs false
set_option maxRecDepth 100000
set_option maxHeartbeats 4000000
namespace Go.Proofs.YtmdhggfehknjjaaGreat
open Go.K Go.K.Rep
noncomputable section
namespace F80
def c0 := bodyOf Tryz.f80
end F80
theorem less27_ok {w₀ : World} {C : Nat → Nat} {x y : Couple} (hF : Lim w₀ C) : Calls Tryz.prog 80 #[.agg #[.int .i64 x.a, .int .i64 x.b], .agg #[.int .i64 y.a, .int .i64 y.b]] w₀ (Ret fun v w' => v = .bool (decide (ltP x y)) ∧ Stp [] w₀ C w' C) := by
 have hF0 := hF
 have hT := Stp.refl [2, 3, 4, 5, 6, 7, 8, 9] w₀ (col1 C)
 replace hF := hF.col1
 refine c_st F80.c0 24 [.agg #[.int .i64 x.a, .int .i64 x.b], .agg #[.int .i64 y.a, .int .i64 y.b]] Tryz.func80 ?_
 show Run _ _ _ _ [(0, .agg #[.int .i64 x.a, .int .i64 x.b]), (1, .agg #[.int .i64 y.a, .int .i64 y.b])] _ _
 refine run_sq (run_pl [nn 0, nn 1, yy 2] ?_)
 refine aT (kq 2 (.box 55 (.tmp 0))) rfl rfl (a_box (cs := [.int .i64 x.a, .int .i64 x.b]) hF 3 rfl rfl) ?_
 rintro _ w1 ⟨Cw1, bw1, rfl, s_1, hx, hF⟩
 refine aT (kq 3 (.box 55 (.tmp 1))) rfl rfl (a_box (cs := [.int .i64 y.a, .int .i64 y.b]) hF 3 rfl rfl) ?_
 rintro _ w2 ⟨Cw2, bw2, rfl, s_2, hy, hF⟩
 refine yAc 4 (.bool false) ?_
 refine Sch.nil ?_
 refine kp (sr 2 (sr 3 (sub_nil _))) ?_
 refine run_sq ?_
 refine run_cut 4 (decide (ltP x y)) (Cw2) ?_ ?_
 ·
  intro hcut
  by_cases hA : x.a < y.a
  ·
   refine run_pl [yy 0, nn 1, yy 2, nn 3, yy 4, yy 5, yy 6, nn 7, yy 8, nn 9, yy 10, yy 11, yy 12, nn 13, yy 14, nn 15, yy 16, yy 17, yy 18, yy 19] ?_
   refine yF 5 55 2 0 0 ?_
   replace hx := hx.t s_2
   refine nO 6 3 5 hx.at_ rfl rfl ?_
   refine yF 7 55 3 0 0 ?_
   refine nO 8 3 7 hy.at_ rfl rfl ?_
   refine yV (kq 9 (.binOp .lss 3 (.tmp 6) (.tmp 8) 3)) (fun _ => val_T (val_lss rfl rfl) hA) ?_
   refine yM 10 9 ?_
   refine pX 11 5 false ?_
   refine pW (kg 12 (.load 3 (.tmp 11)) 5 false) rfl rfl trivial ?_
   refine pX 13 5 false ?_
   refine pW (kg 14 (.load 3 (.tmp 13)) 5 false) rfl rfl trivial ?_
   refine pX 15 5 false ?_
   refine pX 16 5 false ?_
   refine pX 17 11 true ?_
   refine pW (kg 18 (.load 3 (.tmp 17)) 11 true) rfl rfl trivial ?_
   refine pX 19 11 true ?_
   refine pW (kg 20 (.load 3 (.tmp 19)) 11 true) rfl rfl trivial ?_
   refine pX 21 11 true ?_
   refine pX 22 5 false ?_
   refine yOt 23 10 22 ?_
   refine yA 4 23 ?_
   exact Sch.nil (hcut _ _ _ (Stp.refl _ _ _) rfl (by rw [decide_eq_true (show ltP x y from Or.inl hA)]) (sk 20))
  by_cases hB : x.a = y.a
  ·
   refine run_pl [yy 0, nn 1, yy 2, nn 3, yy 4, yy 5, yy 6, nn 7, yy 8, nn 9, yy 10, yy 11, yy 12, nn 13, yy 14, nn 15, yy 16, yy 17, yy 18, yy 19] ?_
   refine yF 5 55 2 0 0 ?_
   replace hx := hx.t s_2
   refine nO 6 3 5 hx.at_ rfl rfl ?_
   refine yF 7 55 3 0 0 ?_
   refine nO 8 3 7 hy.at_ rfl rfl ?_
   refine yV (kq 9 (.binOp .lss 3 (.tmp 6) (.tmp 8) 3)) (fun _ => val_F (val_lss rfl rfl) hA) ?_
   refine yM 10 9 ?_
   refine yFg 11 55 2 0 0 5 false ?_
   refine nS (kg 12 (.load 3 (.tmp 11)) 5 false) rfl rfl trivial (val_loadOwn hx.at_ (by kernel_rfl) rfl rfl) ?_
   refine yFg 13 55 3 0 0 5 false ?_
   refine nS (kg 14 (.load 3 (.tmp 13)) 5 false) rfl rfl trivial (val_loadOwn hy.at_ (by kernel_rfl) rfl rfl) ?_
   refine yV (kg 15 (.binOp .eql 3 (.tmp 12) (.tmp 14) 3) 5 false) (fun _ => val_T (val_eql rfl rfl) hB) ?_
   refine yMg 16 15 5 false ?_
   refine yFg 17 55 2 1 1 11 true ?_
   refine nS (kg 18 (.load 3 (.tmp 17)) 11 true) rfl rfl trivial (val_loadOwn hx.at_ (by kernel_rfl) rfl rfl) ?_
   refine yFg 19 55 3 1 1 11 true ?_
   refine nS (kg 20 (.load 3 (.tmp 19)) 11 true) rfl rfl trivial (val_loadOwn hy.at_ (by kernel_rfl) rfl rfl) ?_
   refine yV (kg 21 (.binOp .lss 3 (.tmp 18) (.tmp 20) 3) 11 true) (fun _ => val_lss rfl rfl) ?_
   refine yV (kg 22 (.pick (.tmp 16) (.tmp 21) (.const (.bool false))) 5 false) (fun _ => val_pick_t rfl rfl) ?_
   refine yOf 23 10 22 ?_
   refine yA 4 23 ?_
   exact Sch.nil (hcut _ _ _ (Stp.refl _ _ _) rfl (by congr 1; apply decide_eq_decide.2; unfold ltP; omega) (sk 20))
  refine run_pl [yy 0, nn 1, yy 2, nn 3, yy 4, yy 5, yy 6, nn 7, yy 8, nn 9, yy 10, yy 11, yy 12, nn 13, yy 14, nn 15, yy 16, yy 17, yy 18, yy 19] ?_
  refine yF 5 55 2 0 0 ?_
  replace hx := hx.t s_2
  refine nO 6 3 5 hx.at_ rfl rfl ?_
  refine yF 7 55 3 0 0 ?_
  refine nO 8 3 7 hy.at_ rfl rfl ?_
  refine yV (kq 9 (.binOp .lss 3 (.tmp 6) (.tmp 8) 3)) (fun _ => val_F (val_lss rfl rfl) hA) ?_
  refine yM 10 9 ?_
  refine yFg 11 55 2 0 0 5 false ?_
  refine nS (kg 12 (.load 3 (.tmp 11)) 5 false) rfl rfl trivial (val_loadOwn hx.at_ (by kernel_rfl) rfl rfl) ?_
  refine yFg 13 55 3 0 0 5 false ?_
  refine nS (kg 14 (.load 3 (.tmp 13)) 5 false) rfl rfl trivial (val_loadOwn hy.at_ (by kernel_rfl) rfl rfl) ?_
  refine yV (kg 15 (.binOp .eql 3 (.tmp 12) (.tmp 14) 3) 5 false) (fun _ => val_F (val_eql rfl rfl) hB) ?_
  refine yMg 16 15 5 false ?_
  refine pX 17 11 true ?_
  refine pW (kg 18 (.load 3 (.tmp 17)) 11 true) rfl rfl trivial ?_
  refine pX 19 11 true ?_
  refine pW (kg 20 (.load 3 (.tmp 19)) 11 true) rfl rfl trivial ?_
  refine pX 21 11 true ?_
  refine yV (kg 22 (.pick (.tmp 16) (.tmp 21) (.const (.bool false))) 5 false) (fun _ => val_pick_f rfl rfl) ?_
  refine yOf 23 10 22 ?_
  refine yA 4 23 ?_
  exact Sch.nil (hcut _ _ _ (Stp.refl _ _ _) rfl (by rw [decide_eq_false (show ¬ ltP x y from by unfold ltP; omega)]) (sk 20))
 intro w3 s_3
 refine rt1 Tryz.func80 Tryz.results80 ?_
 replace hT := ((hT.t s_1).t s_2).t s_3
 exact ⟨rfl, hT.out1 (by decide)⟩
namespace F44
def c0 := bodyOf Tryz.f44
end F44
theorem less30_ok {w₀ : World} {C : Nat → Nat} {x y : Couple} (hF : Lim w₀ C) : Calls Tryz.prog 44 #[.agg #[.int .i64 x.a, .int .i64 x.b], .agg #[.int .i64 y.a, .int .i64 y.b]] w₀ (Ret fun v w' => v = .bool (decide (ltP x y)) ∧ Stp [] w₀ C w' C) := by
 have hF0 := hF
 have hT := Stp.refl [2, 3, 4, 5, 6, 7, 8, 9] w₀ (col1 C)
 replace hF := hF.col1
 refine c_st F44.c0 8 [.agg #[.int .i64 x.a, .int .i64 x.b], .agg #[.int .i64 y.a, .int .i64 y.b]] Tryz.func44 ?_
 show Run _ _ _ _ [(0, .agg #[.int .i64 x.a, .int .i64 x.b]), (1, .agg #[.int .i64 y.a, .int .i64 y.b])] _ _
 refine run_sq (run_pl [nn 0, nn 1, yy 2] ?_)
 refine aT (kq 2 (.box 55 (.tmp 0))) rfl rfl (a_box (cs := [.int .i64 x.a, .int .i64 x.b]) hF 3 rfl rfl) ?_
 rintro _ w1 ⟨Cw1, bw1, rfl, s_1, hx, hF⟩
 refine aT (kq 3 (.box 55 (.tmp 1))) rfl rfl (a_box (cs := [.int .i64 y.a, .int .i64 y.b]) hF 3 rfl rfl) ?_
 rintro _ w2 ⟨Cw2, bw2, rfl, s_2, hy, hF⟩
 refine yAc 4 (.bool false) ?_
 refine Sch.nil (run_sq (run_pl [nn 0, nn 1, nn 2, yy 3] ?_))
 replace hx := hx.t s_2
 refine nS (kq 5 (.load 55 (.tmp 2))) rfl rfl trivial (val_loadOwnAgg (n := 2) (vs := encR x) hx.at_ (by kernel_rfl) (by kernel_rfl) rfl rfl rfl) ?_
 refine nS (kq 6 (.load 55 (.tmp 3))) rfl rfl trivial (val_loadOwnAgg (n := 2) (vs := encR y) hy.at_ (by kernel_rfl) (by kernel_rfl) rfl rfl rfl) ?_
 refine cG 7 80 [5, 6] [55, 55] Tryz.call80 rfl (less27_ok (x := x) (y := y) hF) ?_
 rintro vw3 w3 ⟨rfl, s_3⟩
 refine yA 4 7 ?_
 refine Sch.nil ?_
 refine rt1 Tryz.func44 Tryz.results44 ?_
 replace hT := ((hT.t s_1).t s_2).t s_3
 exact ⟨rfl, hT.out1 (by decide)⟩
namespace F38
def c0 := bodyOf Tryz.f38
def c14 := (cl (cr (cl (cr (cr c0)))))
def c24 := (cl (cl (cl (cr (cl c14)))))
def o6 := rops c24
end F38
theorem sameRefs_ok {w₀ : World} {C : Nat → Nat} {l : List Couple} {va vb : Value} (hF : Lim w₀ C) (ha : RV w₀ (Mc C) l va) (hb : RV w₀ (Mc C) l vb) : Calls Tryz.prog 38 #[va, vb] w₀ (Ret fun v w' => v = .bool true ∧ Stp [] w₀ C w' C) := by
 have hF0 := hF
 have hT := Stp.refl [2, 3, 4, 5, 6, 7, 8, 9] w₀ (col1 C)
 replace hF := hF.col1
 replace ha := ha.c1
 replace hb := hb.c1
 refine c_st F38.c0 26 [va, vb] Tryz.func38 ?_
 show Run _ _ _ _ [(0, va), (1, vb)] _ _
 refine run_sq (run_pl [yy 0] ?_)
 refine yAc 4 (.bool false) ?_
 refine Sch.nil (run_sq (run_sq (run_pl [yy 0, yy 1, yy 2, yy 3, yy 4] ?_)))
 refine yM 6 0 ?_
 refine yS (kq 7 (.call { callee := .builtin .len, args := #[(.tmp 6)], argTypes := #[52] })) rfl rfl (fun w' hS => ha.lenV rfl Tryz.underlying52 w' ) ?_
 refine yM 8 1 ?_
 refine yS (kq 9 (.call { callee := .builtin .len, args := #[(.tmp 8)], argTypes := #[52] })) rfl rfl (fun w' hS => hb.lenV rfl Tryz.underlying52 w' ) ?_
 refine yV (kq 10 (.binOp .neq 3 (.tmp 7) (.tmp 9) 3)) (fun _ => val_F (val_neq rfl rfl) (fun e => e rfl)) ?_
 refine Sch.nil (run_cF 10 (run_sk (run_sq (run_sq (run_pl [yy 0] ?_)))))
 refine yAc 5 (.int .i64 0) ?_
 refine Sch.nil (run_bk 0 ?_)
 refine run_lp (ι := Nat × (Nat → Nat)) (I := fun x w => x.1 ≤ l.length ∧ Lim w x.2 ∧ Stp [2, 3, 4, 5, 6, 7, 8, 9] w₀ (col1 C) w x.2 ∧ RV w (Mc x.2) l va ∧ RV w (Mc x.2) l vb) (e := fun x => [(0, va), (1, vb), (5, .int .i64 x.1)]) (m := fun x => l.length - x.1) (x₀ := (0, col1 C)) (sr 0 (sr 1 (sr 5 (sub_nil _)))) ?_ ?_
 · exact ⟨Nat.zero_le _, hF, hT, ha, hb⟩
 intro ⟨i, C1⟩ w1 hI next1
 obtain ⟨hi, hF, hT, ha, hb⟩ := hI
 try simp only at hi hF hT ha hb
 show Run _ _ _ _ [(0, va), (1, vb), (5, .int .i64 i)] _ _
 have hle := ha.le
 refine run_sq (run_sq (run_pl [yy 0, yy 1, yy 2, yy 3] ?_))
 refine yM 11 5 ?_
 refine yM 12 0 ?_
 refine yS (kq 13 (.call { callee := .builtin .len, args := #[(.tmp 12)], argTypes := #[52] })) rfl rfl (fun w' hS => ha.lenV rfl Tryz.underlying52 w' ) ?_
 refine yL 14 3 11 13 ?_
 refine Sch.nil ?_
 refine run_i 14 rfl (fun h14 => ?_) (fun h14 => ?_)
 ·
  have hil : i < l.length := by omega
  refine run_sk (run_sq (run_bk 1 (run_sq ?_)))
  refine run_draw (id := 6) (ops := F38.o6) [] (C1) [yy 0, yy 1, yy 2, yy 3, yy 4, yy 5, yy 6, yy 7, yy 8] Tryz_mixed (by kernel_rfl) (by kernel_rfl) (by kernel_rfl) ?_
  intro w2 s_1
  refine yM 17 0 ?_
  refine yM 18 5 ?_
  replace ha := ha.t s_1
  refine iR 55 19 52 17 18 ha rfl (h := ?_)
  intro b19 o19 h19
  try simp only [Int.toNat_natCast] at h19
  refine lSA (kq 20 (.load 55 (.tmp 19))) rfl rfl (fun w' hS => h19.sy hS) h19 (by kernel_rfl) (by kernel_rfl) rfl rfl ?_
  intro v20 g20
  refine yM 21 1 ?_
  refine yM 22 5 ?_
  replace hb := hb.t s_1
  refine iR 55 23 52 21 22 hb rfl (h := ?_)
  intro b23 o23 h23
  try simp only [Int.toNat_natCast] at h23
  refine lSA (kq 24 (.load 55 (.tmp 23))) rfl rfl (fun w' hS => h23.sy hS) h23 (by kernel_rfl) (by kernel_rfl) rfl rfl ?_
  intro v24 g24
  obtain rfl := rv_couple.1 g20
  obtain rfl := rv_couple.1 g24
  refine yV (kq 25 (.binOp .neq 55 (.tmp 20) (.tmp 24) 55)) (fun _ => val_F (val_neC (a := _) (b := _) Tryz.underlying55 (by decide) (by decide) (by kernel_rfl) Tryz.underlying3 rfl rfl) (fun e => e rfl)) ?_
  refine Sch.nil (run_cF 25 (run_sk (run_inBlock (run_pl [yy 0, yy 1, yy 2] ?_))))
  refine yM 15 5 ?_
  refine yI 16 3 15 1 ?_
  refine yA 5 16 ?_
  refine Sch.nil ?_
  replace hF := hF.st s_1; replace hT := hT.t s_1
  refine kp (sr 0 (sr 1 (sub_cons 5 rfl (eq_int (by simp)) (sub_nil _)))) (next1 (i + 1, C1) _ ⟨(by first | omega | (simp only; omega)), hF, hT, ha, hb⟩ (by first | omega | (simp only; omega)))
 refine run_ex 0 ?_
 refine run_sq (run_pl [yy 0] ?_)
 refine yAc 4 (.bool true) ?_
 refine Sch.nil ?_
 refine rt1 Tryz.func38 Tryz.results38 ?_
 exact ⟨rfl, hT.out1 (by decide)⟩
end
end Go.Proofs.YtmdhggfehknjjaaGreat
