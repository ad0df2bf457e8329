/- Steps through functions of the program. -/
import Derived.Test.YtionghonhnedgaaGreatJVP
import Derived.Test.YtionghonhnedgaaGreatL2
set_option linter.unusedVariables false
set_option linter.unusedSimpArgs false
set_option maxRecDepth 100000
set_option maxHeartbeats 4000000
namespace Go.Proofs.YtionghonhnedgaaGreat
open Go.K Go.K.Rep

namespace F28
noncomputable def c0 := bodyOf Tryz.f28
noncomputable def c7 := (cl (cl (cr (cl (cr c0)))))
noncomputable def c14 := (cl (cr (cl (cr (cr c0)))))
noncomputable def c24 := (cl (cl (cl (cr (cl c14)))))
noncomputable def o6 := rops c24
noncomputable def c25 := (cr (cl (cl (cr (cl c14)))))
end F28
theorem sameS_ok {w₀ : World} {C : Nat → Nat} {l : List Shw} {va vb : Value} (hF : Lim w₀ C) (ha : RV w₀ (Mc C) l va) (hb : RV w₀ (Mc C) l vb) : Calls Tryz.prog 28 #[va, vb] w₀ (Ret fun v w' => v = .bool true ∧ Stp [] w₀ C w' C) := by
 have hF0 := hF
 have hT := Stp.refl [2, 3, 4, 5, 6, 7, 8, 9] w₀ (col1 C)
 replace hF := hF.col1
 replace ha : RV w₀ (Mc (col1 C)) l va := by rw [Mc_col1]; exact ha
 replace hb : RV w₀ (Mc (col1 C)) l vb := by rw [Mc_col1]; exact hb
 refine calls_start (c := F28.c0) (N := 26) [va, vb] Tryz.func28 (by kernel_rfl) (by kernel_rfl) (by kernel_rfl) ?_
 show Run _ _ _ _ [(0, va), (1, vb)] _ _
 refine run_sq ?_
 refine run_pl [yy 0] ?_
 refine yAc 4 (.bool false) ?_
 refine Sch.nil ?_
 refine run_sq ?_
 refine run_sq ?_
 refine run_pl [yy 0, yy 1, yy 2, yy 3, yy 4] ?_
 refine yM 6 0 ?_
 refine yS (kq 7 (.call { callee := .builtin .len, args := #[(.tmp 6)], argTypes := #[23] })) rfl rfl (fun w' hS => ha.lenV rfl Tryz.underlying23 w' ) ?_
 refine yM 8 1 ?_
 refine yS (kq 9 (.call { callee := .builtin .len, args := #[(.tmp 8)], argTypes := #[23] })) rfl rfl (fun w' hS => hb.lenV rfl Tryz.underlying23 w' ) ?_
 refine yV (kq 10 (.binOp .neq 3 (.tmp 7) (.tmp 9) 3)) (fun _ => val_F (val_neq rfl rfl) (fun e => e rfl)) ?_
 refine Sch.nil ?_
 refine run_cF 10 ?_
 refine run_sk ?_
 refine run_sq ?_
 refine run_sq ?_
 refine run_pl [yy 0] ?_
 refine yAc 5 (.int .i64 0) ?_
 refine Sch.nil ?_
 refine run_bk 0 ?_
 
 refine run_lp (ι := Nat × (Nat → Nat)) (I := fun x w => x.1 ≤ l.length ∧ Lim w x.2 ∧ Stp [2, 3, 4, 5, 6, 7, 8, 9] w₀ (col1 C) w x.2 ∧ RV w (Mc x.2) l va ∧ RV w (Mc x.2) l vb) (e := fun x => [(0, va), (1, vb), (5, .int .i64 x.1)]) (m := fun x => l.length - x.1) (x₀ := (0, col1 C)) (sr 0 (sr 1 (sr 5 (sub_nil _)))) ?_ ?_
 · exact ⟨Nat.zero_le _, hF, hT, ha, hb⟩
 intro ⟨i, C1⟩ w1 hI next
 obtain ⟨hi, hF, hT, ha, hb⟩ := hI
 try simp only at hi hF hT ha hb
 have next1 := next
 clear next
 show Run _ _ _ _ [(0, va), (1, vb), (5, .int .i64 i)] _ _
 have hle := ha.le
 refine run_sq ?_
 refine run_sq ?_
 refine run_pl [yy 0, yy 1, yy 2, yy 3] ?_
 refine yM 11 5 ?_
 refine yM 12 0 ?_
 refine yS (kq 13 (.call { callee := .builtin .len, args := #[(.tmp 12)], argTypes := #[23] })) rfl rfl (fun w' hS => ha.lenV rfl Tryz.underlying23 w' ) ?_
 refine yV (kq 14 (.binOp .lss 3 (.tmp 11) (.tmp 13) 3)) (fun _ => val_lss rfl rfl) ?_
 refine Sch.nil ?_
 refine run_i 14 rfl (fun h14 => ?_) (fun h14 => ?_)
 ·
  have hil : i < l.length := by omega
  refine run_sk ?_
  refine run_sq ?_
  refine run_bk 1 ?_
  refine run_sq ?_
  refine run_draw (id := 6) (ops := F28.o6) [] (C1) [yy 0, yy 1, yy 2, yy 3, yy 4, yy 5, yy 6, yy 7, yy 8] Tryz_mixed (by kernel_rfl) (by kernel_rfl) (by kernel_rfl) ?_
  intro w2 hs
  replace hF := hF.st hs
  replace hT := hT.t hs; replace ha := ha.t hs; replace hb := hb.t hs
  refine yM 17 0 ?_
  refine yM 18 5 ?_
  refine iS (e := 50) (kq 19 (.indexAddr 23 (.tmp 17) (.tmp 18))) rfl rfl ha rfl (by kernel_rfl) rfl (by omega) (by omega) ?_
  intro b19 o19 h19
  try simp only [Int.toNat_natCast] at h19
  refine lSA (kq 20 (.load 50 (.tmp 19))) rfl rfl (fun w' hS => h19.sy hS) h19 (by kernel_rfl) (by kernel_rfl) rfl rfl ?_
  intro v20 g20
  refine yM 21 1 ?_
  refine yM 22 5 ?_
  refine iS (e := 50) (kq 23 (.indexAddr 23 (.tmp 21) (.tmp 22))) rfl rfl hb rfl (by kernel_rfl) rfl (by omega) (by omega) ?_
  intro b23 o23 h23
  try simp only [Int.toNat_natCast] at h23
  refine lSA (kq 24 (.load 50 (.tmp 23))) rfl rfl (fun w' hS => h23.sy hS) h23 (by kernel_rfl) (by kernel_rfl) rfl rfl ?_
  intro v24 g24
  obtain rfl := rv_shw.1 g20
  obtain rfl := rv_shw.1 g24
  refine yV (kq 25 (.binOp .neq 50 (.tmp 20) (.tmp 24) 50)) (fun _ => val_F (val_neShw Tryz.underlying50 (by decide) (by decide) (by decide) (by decide) (by kernel_rfl) (eqOK_couple Tryz.underlying32 (by decide) (by decide) (by kernel_rfl) Tryz.underlying3) Tryz.underlying3 (by kernel_rfl) (by kernel_rfl) (by kernel_rfl) rfl rfl) (fun e => e rfl)) ?_
  refine Sch.nil ?_
  refine run_cF 25 ?_
  refine run_sk ?_
  refine run_inBlock ?_
  refine run_pl [yy 0, yy 1, yy 2] ?_
  refine yM 15 5 ?_
  refine yV (kq 16 (.binOp .add 3 (.tmp 15) (.const (.int .i64 1)) 3)) (fun _ => val_addi rfl rfl (by omega) (by omega)) ?_
  refine yA 5 16 ?_
  refine Sch.nil ?_
  refine kp (sub_cons 0 rfl rfl (sub_cons 1 rfl rfl (sub_cons 5 rfl (eq_int (by simp)) (sub_nil _)))) (next1 (i + 1, C1) _ ⟨(by first | omega | (simp only; omega)), hF, hT, ha, hb⟩ (by first | omega | (simp only; omega)))
 ·
  refine run_ex 0 ?_
  refine run_sq ?_
  refine run_pl [yy 0] ?_
  refine yAc 4 (.bool true) ?_
  refine Sch.nil ?_
  refine run_ret1 (by kernel_rfl) Tryz.func28 Tryz.results28 rfl ?_
  exact ⟨rfl, hT.out1 (by decide)⟩
namespace F42
noncomputable def c0 := bodyOf Tryz.f42
noncomputable def c7 := (cl (cl (cr (cl (cr c0)))))
noncomputable def c14 := (cl (cr (cl (cr (cr c0)))))
noncomputable def c24 := (cl (cl (cl (cr (cl c14)))))
noncomputable def o6 := rops c24
noncomputable def c25 := (cr (cl (cl (cr (cl c14)))))
end F42
theorem sameD_ok {w₀ : World} {C : Nat → Nat} {l : List Dcs} {va vb : Value} (hF : Lim w₀ C) (ha : RV w₀ (Mc C) l va) (hb : RV w₀ (Mc C) l vb) : Calls Tryz.prog 42 #[va, vb] w₀ (Ret fun v w' => v = .bool true ∧ Stp [] w₀ C w' C) := by
 have hF0 := hF
 have hT := Stp.refl [2, 3, 4, 5, 6, 7, 8, 9] w₀ (col1 C)
 replace hF := hF.col1
 replace ha : RV w₀ (Mc (col1 C)) l va := by rw [Mc_col1]; exact ha
 replace hb : RV w₀ (Mc (col1 C)) l vb := by rw [Mc_col1]; exact hb
 refine calls_start (c := F42.c0) (N := 26) [va, vb] Tryz.func42 (by kernel_rfl) (by kernel_rfl) (by kernel_rfl) ?_
 show Run _ _ _ _ [(0, va), (1, vb)] _ _
 refine run_sq ?_
 refine run_pl [yy 0] ?_
 refine yAc 4 (.bool false) ?_
 refine Sch.nil ?_
 refine run_sq ?_
 refine run_sq ?_
 refine run_pl [yy 0, yy 1, yy 2, yy 3, yy 4] ?_
 refine yM 6 0 ?_
 refine yS (kq 7 (.call { callee := .builtin .len, args := #[(.tmp 6)], argTypes := #[24] })) rfl rfl (fun w' hS => ha.lenV rfl Tryz.underlying24 w' ) ?_
 refine yM 8 1 ?_
 refine yS (kq 9 (.call { callee := .builtin .len, args := #[(.tmp 8)], argTypes := #[24] })) rfl rfl (fun w' hS => hb.lenV rfl Tryz.underlying24 w' ) ?_
 refine yV (kq 10 (.binOp .neq 3 (.tmp 7) (.tmp 9) 3)) (fun _ => val_F (val_neq rfl rfl) (fun e => e rfl)) ?_
 refine Sch.nil ?_
 refine run_cF 10 ?_
 refine run_sk ?_
 refine run_sq ?_
 refine run_sq ?_
 refine run_pl [yy 0] ?_
 refine yAc 5 (.int .i64 0) ?_
 refine Sch.nil ?_
 refine run_bk 0 ?_
 
 refine run_lp (ι := Nat × (Nat → Nat)) (I := fun x w => x.1 ≤ l.length ∧ Lim w x.2 ∧ Stp [2, 3, 4, 5, 6, 7, 8, 9] w₀ (col1 C) w x.2 ∧ RV w (Mc x.2) l va ∧ RV w (Mc x.2) l vb) (e := fun x => [(0, va), (1, vb), (5, .int .i64 x.1)]) (m := fun x => l.length - x.1) (x₀ := (0, col1 C)) (sr 0 (sr 1 (sr 5 (sub_nil _)))) ?_ ?_
 · exact ⟨Nat.zero_le _, hF, hT, ha, hb⟩
 intro ⟨i, C1⟩ w1 hI next
 obtain ⟨hi, hF, hT, ha, hb⟩ := hI
 try simp only at hi hF hT ha hb
 have next1 := next
 clear next
 show Run _ _ _ _ [(0, va), (1, vb), (5, .int .i64 i)] _ _
 have hle := ha.le
 refine run_sq ?_
 refine run_sq ?_
 refine run_pl [yy 0, yy 1, yy 2, yy 3] ?_
 refine yM 11 5 ?_
 refine yM 12 0 ?_
 refine yS (kq 13 (.call { callee := .builtin .len, args := #[(.tmp 12)], argTypes := #[24] })) rfl rfl (fun w' hS => ha.lenV rfl Tryz.underlying24 w' ) ?_
 refine yV (kq 14 (.binOp .lss 3 (.tmp 11) (.tmp 13) 3)) (fun _ => val_lss rfl rfl) ?_
 refine Sch.nil ?_
 refine run_i 14 rfl (fun h14 => ?_) (fun h14 => ?_)
 ·
  have hil : i < l.length := by omega
  refine run_sk ?_
  refine run_sq ?_
  refine run_bk 1 ?_
  refine run_sq ?_
  refine run_draw (id := 6) (ops := F42.o6) [] (C1) [yy 0, yy 1, yy 2, yy 3, yy 4, yy 5, yy 6, yy 7, yy 8] Tryz_mixed (by kernel_rfl) (by kernel_rfl) (by kernel_rfl) ?_
  intro w2 hs
  replace hF := hF.st hs
  replace hT := hT.t hs; replace ha := ha.t hs; replace hb := hb.t hs
  refine yM 17 0 ?_
  refine yM 18 5 ?_
  refine iS (e := 75) (kq 19 (.indexAddr 24 (.tmp 17) (.tmp 18))) rfl rfl ha rfl (by kernel_rfl) rfl (by omega) (by omega) ?_
  intro b19 o19 h19
  try simp only [Int.toNat_natCast] at h19
  refine lSA (kq 20 (.load 75 (.tmp 19))) rfl rfl (fun w' hS => h19.sy hS) h19 (by kernel_rfl) (by kernel_rfl) rfl rfl ?_
  intro v20 g20
  refine yM 21 1 ?_
  refine yM 22 5 ?_
  refine iS (e := 75) (kq 23 (.indexAddr 24 (.tmp 21) (.tmp 22))) rfl rfl hb rfl (by kernel_rfl) rfl (by omega) (by omega) ?_
  intro b23 o23 h23
  try simp only [Int.toNat_natCast] at h23
  refine lSA (kq 24 (.load 75 (.tmp 23))) rfl rfl (fun w' hS => h23.sy hS) h23 (by kernel_rfl) (by kernel_rfl) rfl rfl ?_
  intro v24 g24
  obtain rfl := rv_dcs.1 g20
  obtain rfl := rv_dcs.1 g24
  refine yV (kq 25 (.binOp .neq 75 (.tmp 20) (.tmp 24) 75)) (fun _ => val_F (val_neDcs Tryz.underlying75 (by decide) (by decide) (by decide) (by decide) (by decide) (by kernel_rfl) (eqOK_couple Tryz.underlying32 (by decide) (by decide) (by kernel_rfl) Tryz.underlying3) Tryz.underlying3 Tryz.underlying4 (by kernel_rfl) (by kernel_rfl) (by kernel_rfl) rfl rfl) (fun e => e rfl)) ?_
  refine Sch.nil ?_
  refine run_cF 25 ?_
  refine run_sk ?_
  refine run_inBlock ?_
  refine run_pl [yy 0, yy 1, yy 2] ?_
  refine yM 15 5 ?_
  refine yV (kq 16 (.binOp .add 3 (.tmp 15) (.const (.int .i64 1)) 3)) (fun _ => val_addi rfl rfl (by omega) (by omega)) ?_
  refine yA 5 16 ?_
  refine Sch.nil ?_
  refine kp (sub_cons 0 rfl rfl (sub_cons 1 rfl rfl (sub_cons 5 rfl (eq_int (by simp)) (sub_nil _)))) (next1 (i + 1, C1) _ ⟨(by first | omega | (simp only; omega)), hF, hT, ha, hb⟩ (by first | omega | (simp only; omega)))
 ·
  refine run_ex 0 ?_
  refine run_sq ?_
  refine run_pl [yy 0] ?_
  refine yAc 4 (.bool true) ?_
  refine Sch.nil ?_
  refine run_ret1 (by kernel_rfl) Tryz.func42 Tryz.results42 rfl ?_
  exact ⟨rfl, hT.out1 (by decide)⟩
namespace F20
noncomputable def c0 := bodyOf Tryz.f20
end F20
theorem sameR_ok {w₀ : World} {C : Nat → Nat} {bud : Int} {sh : List Shw} {ds : List Dcs} {va vb vc vd : Value} (hF : Lim w₀ C) (ha : RV w₀ (Mc C) sh va) (hb : RV w₀ (Mc C) sh vb) (hc : RV w₀ (Mc C) ds vc) (hd : RV w₀ (Mc C) ds vd) : Calls Tryz.prog 20 #[.agg #[.int .i64 bud, va, vc], .agg #[.int .i64 bud, vb, vd]] w₀ (Ret fun v w' => v = .bool true ∧ Stp [] w₀ C w' C) := by
 have hF0 := hF
 have hT := Stp.refl [2, 3, 4, 5, 6, 7, 8, 9] w₀ (col1 C)
 replace hF := hF.col1
 replace ha : RV w₀ (Mc (col1 C)) sh va := by rw [Mc_col1]; exact ha
 replace hb : RV w₀ (Mc (col1 C)) sh vb := by rw [Mc_col1]; exact hb
 replace hc : RV w₀ (Mc (col1 C)) ds vc := by rw [Mc_col1]; exact hc
 replace hd : RV w₀ (Mc (col1 C)) ds vd := by rw [Mc_col1]; exact hd
 refine calls_start (c := F20.c0) (N := 24) [.agg #[.int .i64 bud, va, vc], .agg #[.int .i64 bud, vb, vd]] Tryz.func20 (by kernel_rfl) (by kernel_rfl) (by kernel_rfl) ?_
 show Run _ _ _ _ [(0, .agg #[.int .i64 bud, va, vc]), (1, .agg #[.int .i64 bud, vb, vd])] _ _
 refine run_sq ?_
 refine run_pl [nn 0, nn 1, yy 2] ?_
 refine aS (kq 2 (.box 26 (.tmp 0))) rfl rfl (a_box (cs := [.int .i64 bud, va, vc]) hF 3 rfl rfl) ?_
 rintro _ w1 ⟨Cw1, bw1, rfl, hs, hx, hF⟩
 refine ⟨trivial, ?_⟩
 replace hT := hT.t hs; replace ha := ha.t hs; replace hb := hb.t hs; replace hc := hc.t hs; replace hd := hd.t hs
 refine aS (kq 3 (.box 26 (.tmp 1))) rfl rfl (a_box (cs := [.int .i64 bud, vb, vd]) hF 4 rfl rfl) ?_
 rintro _ w2 ⟨Cw2, bw2, rfl, hs, hy, hF⟩
 refine ⟨trivial, ?_⟩
 replace hT := hT.t hs; replace ha := ha.t hs; replace hb := hb.t hs; replace hc := hc.t hs; replace hd := hd.t hs; replace hx := hx.t hs
 refine yAc 4 (.bool false) ?_
 refine Sch.nil ?_
 refine run_sq ?_
 refine run_pl [yy 0, nn 1, yy 2, nn 3, yy 4, yy 5, yy 6, nn 7, yy 8, nn 9, nn 10, yy 11, yy 12, yy 13, nn 14, yy 15, nn 16, nn 17, yy 18, yy 19] ?_
 refine yF 5 26 2 0 0 ?_
 refine nS (kq 6 (.load 3 (.tmp 5))) rfl rfl trivial (val_loadOwn hx.at_ (by kernel_rfl) rfl rfl) ?_
 refine yF 7 26 3 0 0 ?_
 refine nS (kq 8 (.load 3 (.tmp 7))) rfl rfl trivial (val_loadOwn hy.at_ (by kernel_rfl) rfl rfl) ?_
 refine yV (kq 9 (.binOp .eql 3 (.tmp 6) (.tmp 8) 3)) (fun _ => val_is (val_eql rfl rfl) (show _ = Value.bool true from congrArg Value.bool (decide_eq_true (rfl)))) ?_
 refine yM 10 9 ?_
 refine yFg 11 26 2 1 1 5 true ?_
 refine nS (kg 12 (.load 23 (.tmp 11)) 5 true) rfl rfl trivial (val_loadOwn hx.at_ (by kernel_rfl) rfl rfl) ?_
 refine yFg 13 26 3 1 1 5 true ?_
 refine nS (kg 14 (.load 23 (.tmp 13)) 5 true) rfl rfl trivial (val_loadOwn hy.at_ (by kernel_rfl) rfl rfl) ?_
 refine cS (kg 15 (.call { callee := .value (.func 28), args := #[(.tmp 12), (.tmp 14)], argTypes := #[23, 23] }) 5 true) rfl rfl (ent Tryz.call28 rfl) (sameS_ok hF ha hb) ?_
 rintro vw3 w3 ⟨rfl, hs⟩
 refine ⟨trivial, ?_⟩
 replace hF := hF.st hs
 replace hT := hT.t hs; replace ha := ha.t hs; replace hb := hb.t hs; replace hc := hc.t hs; replace hd := hd.t hs; replace hx := hx.t hs; replace hy := hy.t hs
 refine yAt 16 10 15 ?_
 refine yM 17 16 ?_
 refine yFg 18 26 2 2 2 12 true ?_
 refine nS (kg 19 (.load 24 (.tmp 18)) 12 true) rfl rfl trivial (val_loadOwn hx.at_ (by kernel_rfl) rfl rfl) ?_
 refine yFg 20 26 3 2 2 12 true ?_
 refine nS (kg 21 (.load 24 (.tmp 20)) 12 true) rfl rfl trivial (val_loadOwn hy.at_ (by kernel_rfl) rfl rfl) ?_
 refine cS (kg 22 (.call { callee := .value (.func 42), args := #[(.tmp 19), (.tmp 21)], argTypes := #[24, 24] }) 12 true) rfl rfl (ent Tryz.call42 rfl) (sameD_ok hF hc hd) ?_
 rintro vw4 w4 ⟨rfl, hs⟩
 refine ⟨trivial, ?_⟩
 replace hF := hF.st hs
 replace hT := hT.t hs; replace ha := ha.t hs; replace hb := hb.t hs; replace hc := hc.t hs; replace hd := hd.t hs; replace hx := hx.t hs; replace hy := hy.t hs
 refine yAt 23 17 22 ?_
 refine yA 4 23 ?_
 refine Sch.nil ?_
 refine run_ret1 (by kernel_rfl) Tryz.func20 Tryz.results20 rfl ?_
 exact ⟨rfl, hT.out1 (by decide)⟩
end Go.Proofs.YtionghonhnedgaaGreat
