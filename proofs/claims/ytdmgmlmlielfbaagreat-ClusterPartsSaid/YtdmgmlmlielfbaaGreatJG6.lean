/- Steps through functions of the program. -/
import Derived.Test.YtdmgmlmlielfbaaGreatJG5
set_option linter.unusedVariables false
set_option linter.unusedSimpArgs false
set_option maxRecDepth 100000
set_option maxHeartbeats 4000000
namespace Go.Proofs.YtdmgmlmlielfbaaGreat
open Go.K Go.K.Rep

namespace F35
noncomputable def c0 := bodyOf Tryz.f35
noncomputable def c7 := (cl (cl (cr (cl (cr c0)))))
noncomputable def c14 := (cl (cr (cl (cr (cr c0)))))
noncomputable def c24 := (cl (cl (cl (cr (cl c14)))))
noncomputable def o6 := rops c24
noncomputable def c25 := (cr (cl (cl (cr (cl c14)))))
end F35
theorem sameRefs_ok {w₀ : World} {C : Nat → Nat} {l : List Couple} {va vb : Value} (hF : Lim w₀ C) (ha : RV w₀ (Mc C) l va) (hb : RV w₀ (Mc C) l vb) : Calls Tryz.prog 35 #[va, vb] w₀ (Ret fun v w' => v = .bool true ∧ Stp [] w₀ C w' C) := by
 have hF0 := hF
 have hT := Stp.refl [2, 3, 4, 5, 6, 7, 8, 9] w₀ (col1 C)
 replace hF := hF.col1
 replace ha : RV w₀ (Mc (col1 C)) l va := by rw [Mc_col1]; exact ha
 replace hb : RV w₀ (Mc (col1 C)) l vb := by rw [Mc_col1]; exact hb
 refine calls_start (c := F35.c0) (N := 26) [va, vb] Tryz.func35 (by kernel_rfl) (by kernel_rfl) (by kernel_rfl) ?_
 show Run _ _ _ _ [(0, va), (1, vb)] _ _
 refine run_sq ?_
 refine run_pl [yy 0] ?_
 refine yAc 4 (.bool false) ?_
 refine Sch.nil ?_
 refine run_sq ?_
 refine run_sq ?_
 refine run_pl [yy 0, yy 1, yy 2, yy 3, yy 4] ?_
 refine yM 6 0 ?_
 refine yS (kq 7 (.call { callee := .builtin .len, args := #[(.tmp 6)], argTypes := #[53] })) rfl rfl (fun w' hS => ha.lenV rfl Tryz.underlying53 w' ) ?_
 refine yM 8 1 ?_
 refine yS (kq 9 (.call { callee := .builtin .len, args := #[(.tmp 8)], argTypes := #[53] })) rfl rfl (fun w' hS => hb.lenV rfl Tryz.underlying53 w' ) ?_
 refine yV (kq 10 (.binOp .neq 3 (.tmp 7) (.tmp 9) 3)) (fun _ => val_F (val_neq rfl rfl) (fun e => e rfl)) ?_
 refine Sch.nil ?_
 refine run_cF 10 ?_
 refine run_sk ?_
 refine run_sq ?_
 refine run_sq ?_
 refine run_pl [yy 0] ?_
 refine yAc 5 (.int .i64 0) ?_
 refine Sch.nil ?_
 refine run_bk 0 ?_
 
 refine run_lp (ι := Nat × (Nat → Nat)) (I := fun x w => x.1 ≤ l.length ∧ Lim w x.2 ∧ Stp [2, 3, 4, 5, 6, 7, 8, 9] w₀ (col1 C) w x.2 ∧ RV w (Mc x.2) l va ∧ RV w (Mc x.2) l vb) (e := fun x => [(0, va), (1, vb), (5, .int .i64 x.1)]) (m := fun x => l.length - x.1) (x₀ := (0, col1 C)) (sr 0 (sr 1 (sr 5 (sub_nil _)))) ?_ ?_
 · exact ⟨Nat.zero_le _, hF, hT, ha, hb⟩
 intro ⟨i, C1⟩ w1 hI next
 obtain ⟨hi, hF, hT, ha, hb⟩ := hI
 try simp only at hi hF hT ha hb
 have next1 := next
 clear next
 show Run _ _ _ _ [(0, va), (1, vb), (5, .int .i64 i)] _ _
 have hle := ha.le
 refine run_sq ?_
 refine run_sq ?_
 refine run_pl [yy 0, yy 1, yy 2, yy 3] ?_
 refine yM 11 5 ?_
 refine yM 12 0 ?_
 refine yS (kq 13 (.call { callee := .builtin .len, args := #[(.tmp 12)], argTypes := #[53] })) rfl rfl (fun w' hS => ha.lenV rfl Tryz.underlying53 w' ) ?_
 refine yV (kq 14 (.binOp .lss 3 (.tmp 11) (.tmp 13) 3)) (fun _ => val_lss rfl rfl) ?_
 refine Sch.nil ?_
 refine run_i 14 rfl (fun h14 => ?_) (fun h14 => ?_)
 ·
  have hil : i < l.length := by omega
  refine run_sk ?_
  refine run_sq ?_
  refine run_bk 1 ?_
  refine run_sq ?_
  refine run_draw (id := 6) (ops := F35.o6) [] (C1) [yy 0, yy 1, yy 2, yy 3, yy 4, yy 5, yy 6, yy 7, yy 8] Tryz_mixed (by kernel_rfl) (by kernel_rfl) (by kernel_rfl) ?_
  intro w2 hs
  replace hF := hF.st hs
  replace hT := hT.t hs; replace ha := ha.t hs; replace hb := hb.t hs
  refine yM 17 0 ?_
  refine yM 18 5 ?_
  refine iS (e := 47) (kq 19 (.indexAddr 53 (.tmp 17) (.tmp 18))) rfl rfl ha rfl (by kernel_rfl) rfl (by omega) (by omega) ?_
  intro b19 o19 h19
  try simp only [Int.toNat_natCast] at h19
  refine lSA (kq 20 (.load 47 (.tmp 19))) rfl rfl (fun w' hS => h19.sy hS) h19 (by kernel_rfl) (by kernel_rfl) rfl rfl ?_
  intro v20 g20
  refine yM 21 1 ?_
  refine yM 22 5 ?_
  refine iS (e := 47) (kq 23 (.indexAddr 53 (.tmp 21) (.tmp 22))) rfl rfl hb rfl (by kernel_rfl) rfl (by omega) (by omega) ?_
  intro b23 o23 h23
  try simp only [Int.toNat_natCast] at h23
  refine lSA (kq 24 (.load 47 (.tmp 23))) rfl rfl (fun w' hS => h23.sy hS) h23 (by kernel_rfl) (by kernel_rfl) rfl rfl ?_
  intro v24 g24
  obtain rfl := rv_couple.1 g20
  obtain rfl := rv_couple.1 g24
  refine yV (kq 25 (.binOp .neq 47 (.tmp 20) (.tmp 24) 47)) (fun _ => val_F (val_neC (a := _) (b := _) Tryz.underlying47 (by decide) (by decide) (by kernel_rfl) Tryz.underlying3 rfl rfl) (fun e => e rfl)) ?_
  refine Sch.nil ?_
  refine run_cF 25 ?_
  refine run_sk ?_
  refine run_inBlock ?_
  refine run_pl [yy 0, yy 1, yy 2] ?_
  refine yM 15 5 ?_
  refine yV (kq 16 (.binOp .add 3 (.tmp 15) (.const (.int .i64 1)) 3)) (fun _ => val_addi rfl rfl (by omega) (by omega)) ?_
  refine yA 5 16 ?_
  refine Sch.nil ?_
  refine kp (sub_cons 0 rfl rfl (sub_cons 1 rfl rfl (sub_cons 5 rfl (eq_int (by simp)) (sub_nil _)))) (next1 (i + 1, C1) _ ⟨(by first | omega | (simp only; omega)), hF, hT, ha, hb⟩ (by first | omega | (simp only; omega)))
 ·
  refine run_ex 0 ?_
  refine run_sq ?_
  refine run_pl [yy 0] ?_
  refine yAc 4 (.bool true) ?_
  refine Sch.nil ?_
  refine run_ret1 (by kernel_rfl) Tryz.func35 Tryz.results35 rfl ?_
  exact ⟨rfl, hT.out1 (by decide)⟩
namespace F20
noncomputable def c0 := bodyOf Tryz.f20
noncomputable def c7 := (cl (cl (cr (cl (cr c0)))))
noncomputable def c14 := (cl (cr (cl (cr (cr c0)))))
noncomputable def c24 := (cl (cl (cl (cr (cl c14)))))
noncomputable def o6 := rops c24
noncomputable def c25 := (cr (cl (cl (cr (cl c14)))))
end F20
theorem sameParts_ok {w₀ : World} {C : Nat → Nat} {l : List (List Couple)} {va vb : Value} (hF : Lim w₀ C) (ha : RV w₀ (Mc C) l va) (hb : RV w₀ (Mc C) l vb) : Calls Tryz.prog 20 #[va, vb] w₀ (Ret fun v w' => v = .bool true ∧ Stp [] w₀ C w' C) := by
 have hF0 := hF
 have hT := Stp.refl [2, 3, 4, 5, 6, 7, 8, 9] w₀ (col1 C)
 replace hF := hF.col1
 replace ha : RV w₀ (Mc (col1 C)) l va := by rw [Mc_col1]; exact ha
 replace hb : RV w₀ (Mc (col1 C)) l vb := by rw [Mc_col1]; exact hb
 refine calls_start (c := F20.c0) (N := 27) [va, vb] Tryz.func20 (by kernel_rfl) (by kernel_rfl) (by kernel_rfl) ?_
 show Run _ _ _ _ [(0, va), (1, vb)] _ _
 refine run_sq ?_
 refine run_pl [yy 0] ?_
 refine yAc 4 (.bool false) ?_
 refine Sch.nil ?_
 refine run_sq ?_
 refine run_sq ?_
 refine run_pl [yy 0, yy 1, yy 2, yy 3, yy 4] ?_
 refine yM 6 0 ?_
 refine yS (kq 7 (.call { callee := .builtin .len, args := #[(.tmp 6)], argTypes := #[25] })) rfl rfl (fun w' hS => ha.lenV rfl Tryz.underlying25 w' ) ?_
 refine yM 8 1 ?_
 refine yS (kq 9 (.call { callee := .builtin .len, args := #[(.tmp 8)], argTypes := #[25] })) rfl rfl (fun w' hS => hb.lenV rfl Tryz.underlying25 w' ) ?_
 refine yV (kq 10 (.binOp .neq 3 (.tmp 7) (.tmp 9) 3)) (fun _ => val_F (val_neq rfl rfl) (fun e => e rfl)) ?_
 refine Sch.nil ?_
 refine run_cF 10 ?_
 refine run_sk ?_
 refine run_sq ?_
 refine run_sq ?_
 refine run_pl [yy 0] ?_
 refine yAc 5 (.int .i64 0) ?_
 refine Sch.nil ?_
 refine run_bk 0 ?_
 
 refine run_lp (ι := Nat × (Nat → Nat)) (I := fun x w => x.1 ≤ l.length ∧ Lim w x.2 ∧ Stp [2, 3, 4, 5, 6, 7, 8, 9] w₀ (col1 C) w x.2 ∧ RV w (Mc x.2) l va ∧ RV w (Mc x.2) l vb) (e := fun x => [(0, va), (1, vb), (5, .int .i64 x.1)]) (m := fun x => l.length - x.1) (x₀ := (0, col1 C)) (sr 0 (sr 1 (sr 5 (sub_nil _)))) ?_ ?_
 · exact ⟨Nat.zero_le _, hF, hT, ha, hb⟩
 intro ⟨i, C1⟩ w1 hI next
 obtain ⟨hi, hF, hT, ha, hb⟩ := hI
 try simp only at hi hF hT ha hb
 have next1 := next
 clear next
 show Run _ _ _ _ [(0, va), (1, vb), (5, .int .i64 i)] _ _
 have hle := ha.le
 refine run_sq ?_
 refine run_sq ?_
 refine run_pl [yy 0, yy 1, yy 2, yy 3] ?_
 refine yM 11 5 ?_
 refine yM 12 0 ?_
 refine yS (kq 13 (.call { callee := .builtin .len, args := #[(.tmp 12)], argTypes := #[25] })) rfl rfl (fun w' hS => ha.lenV rfl Tryz.underlying25 w' ) ?_
 refine yV (kq 14 (.binOp .lss 3 (.tmp 11) (.tmp 13) 3)) (fun _ => val_lss rfl rfl) ?_
 refine Sch.nil ?_
 refine run_i 14 rfl (fun h14 => ?_) (fun h14 => ?_)
 ·
  have hil : i < l.length := by omega
  refine run_sk ?_
  refine run_sq ?_
  refine run_bk 1 ?_
  refine run_sq ?_
  refine run_draw (id := 6) (ops := F20.o6) [] (C1) [yy 0, yy 1, yy 2, yy 3, yy 4, yy 5, yy 6, yy 7, nn 8, yy 9] Tryz_mixed (by kernel_rfl) (by kernel_rfl) (by kernel_rfl) ?_
  intro w2 hs
  replace hF := hF.st hs
  replace hT := hT.t hs; replace ha := ha.t hs; replace hb := hb.t hs
  have hR := Stp.refl [] w2 (C1)
  refine yM 17 0 ?_
  refine yM 18 5 ?_
  refine iS (e := 53) (kq 19 (.indexAddr 25 (.tmp 17) (.tmp 18))) rfl rfl ha rfl (by kernel_rfl) rfl (by omega) (by omega) ?_
  intro b19 o19 h19
  try simp only [Int.toNat_natCast] at h19
  refine lS (kq 20 (.load 53 (.tmp 19))) rfl rfl (fun w' hS => h19.sy hS) h19 (by kernel_rfl) rfl rfl ?_
  intro v20 g20
  refine yM 21 1 ?_
  refine yM 22 5 ?_
  refine iS (e := 53) (kq 23 (.indexAddr 25 (.tmp 21) (.tmp 22))) rfl rfl hb rfl (by kernel_rfl) rfl (by omega) (by omega) ?_
  intro b23 o23 h23
  try simp only [Int.toNat_natCast] at h23
  refine lS (kq 24 (.load 53 (.tmp 23))) rfl rfl (fun w' hS => h23.sy hS) h23 (by kernel_rfl) rfl rfl ?_
  intro v24 g24
  refine cS (kq 25 (.call { callee := .value (.func 35), args := #[(.tmp 20), (.tmp 24)], argTypes := #[53, 53] })) rfl rfl (ent Tryz.call35 rfl) (sameRefs_ok hF g20 g24) ?_
  rintro vw3 w3 ⟨rfl, hs⟩
  refine ⟨(hR.trans hs (by simp)).ext, ?_⟩
  replace hF := hF.st hs
  replace hT := hT.t hs; replace ha := ha.t hs; replace hb := hb.t hs; replace hR := hR.t hs; replace h19 := h19.t hs; replace g20 := g20.t hs; replace h23 := h23.t hs; replace g24 := g24.t hs
  refine yV (kq 26 (.unOp .not 4 (.tmp 25))) (fun _ => val_not rfl) ?_
  refine Sch.nil ?_
  refine run_cF 26 ?_
  refine run_sk ?_
  refine run_inBlock ?_
  refine run_pl [yy 0, yy 1, yy 2] ?_
  refine yM 15 5 ?_
  refine yV (kq 16 (.binOp .add 3 (.tmp 15) (.const (.int .i64 1)) 3)) (fun _ => val_addi rfl rfl (by omega) (by omega)) ?_
  refine yA 5 16 ?_
  refine Sch.nil ?_
  refine kp (sub_cons 0 rfl rfl (sub_cons 1 rfl rfl (sub_cons 5 rfl (eq_int (by simp)) (sub_nil _)))) (next1 (i + 1, C1) _ ⟨(by first | omega | (simp only; omega)), hF, hT, ha, hb⟩ (by first | omega | (simp only; omega)))
 ·
  refine run_ex 0 ?_
  refine run_sq ?_
  refine run_pl [yy 0] ?_
  refine yAc 4 (.bool true) ?_
  refine Sch.nil ?_
  refine run_ret1 (by kernel_rfl) Tryz.func20 Tryz.results20 rfl ?_
  exact ⟨rfl, hT.out1 (by decide)⟩
end Go.Proofs.YtdmgmlmlielfbaaGreat
