/- Steps through functions of the program. -/
import Derived.Test.YtdmgmlmlielfbaaGreatJG6
set_option linter.unusedVariables false
set_option linter.unusedSimpArgs false
set_option maxRecDepth 100000
set_option maxHeartbeats 4000000
namespace Go.Proofs.YtdmgmlmlielfbaaGreat
open Go.K Go.K.Rep

namespace F32
noncomputable def c0 := bodyOf Tryz.f32
noncomputable def c7 := (cl (cl (cr (cl (cr c0)))))
noncomputable def o4 := rops (cl (cl (cl (cr c7))))
noncomputable def c18 := (cl (cr (cl (cl (cr c7)))))
end F32
theorem refIndex_ok {w₀ : World} {C : Nat → Nat} {l : List Couple} {c : Couple} {vl : Value} (hF : Lim w₀ C) (hl : RV w₀ (Mc C) l vl) : Calls Tryz.prog 32 #[vl, .agg #[.int .i64 c.a, .int .i64 c.b]] w₀ (Ret fun v w' => v = .int .i64 (idxOf (fun x => decide (c = x)) l) ∧ Stp [] w₀ C w' C) := by
 have hF0 := hF
 have hT := Stp.refl [2, 3, 4, 5, 6, 7, 8, 9] w₀ (col1 C)
 replace hF := hF.col1
 replace hl : RV w₀ (Mc (col1 C)) l vl := by rw [Mc_col1]; exact hl
 refine calls_start (c := F32.c0) (N := 19) [vl, .agg #[.int .i64 c.a, .int .i64 c.b]] Tryz.func32 (by kernel_rfl) (by kernel_rfl) (by kernel_rfl) ?_
 show Run _ _ _ _ [(0, vl), (1, .agg #[.int .i64 c.a, .int .i64 c.b])] _ _
 refine run_sq ?_
 refine run_pl [nn 0, yy 1] ?_
 refine aS (kq 3 (.box 47 (.tmp 1))) rfl rfl (a_box (cs := encR c) hF 3 rfl rfl) ?_
 rintro _ w1 ⟨Cw1, bw1, rfl, hs, hx, hF⟩
 refine ⟨trivial, ?_⟩
 replace hT := hT.t hs; replace hl := hl.t hs
 refine yAc 4 (.int .i64 0) ?_
 refine Sch.nil ?_
 refine run_sq ?_
 refine run_sq ?_
 refine run_pl [yy 0] ?_
 refine yAc 5 (.int .i64 0) ?_
 refine Sch.nil ?_
 refine run_bk 0 ?_
 
 refine run_lp (ι := Nat × (Nat → Nat)) (I := fun x w => x.1 ≤ l.length ∧ (∀ i, i < x.1 → ∀ (hi : i < l.length), (fun x => decide (c = x)) l[i] = false) ∧ Lim w x.2 ∧ Stp [2, 3, 4, 5, 6, 7, 8, 9] w₀ (col1 C) w x.2 ∧ RV w (Mc x.2) l vl ∧ OwnB w x.2 3 bw1 (.cells (encR c).toArray 47)) (e := fun x => [(0, vl), (3, .pointer (some ⟨bw1, 0, none⟩)), (4, .int .i64 0), (5, .int .i64 x.1)]) (m := fun x => l.length - x.1) (x₀ := (0, Cw1)) (sr 0 (sr 3 (sr 4 (sr 5 (sub_nil _))))) ?_ ?_
 · exact ⟨Nat.zero_le _, fun i hi => by simp at hi, hF, hT, hl, hx⟩
 intro ⟨k, C1⟩ w2 hI next
 obtain ⟨hk, h0, hF, hT, hl, hx⟩ := hI
 try simp only at hk h0 hF hT hl hx
 have next1 := next
 clear next
 show Run _ _ _ _ [(0, vl), (3, .pointer (some ⟨bw1, 0, none⟩)), (4, .int .i64 0), (5, .int .i64 k)] _ _
 have hle := hl.le
 refine run_sq ?_
 refine run_sq ?_
 refine run_pl [yy 0, yy 1, yy 2, yy 3] ?_
 refine yM 6 5 ?_
 refine yM 7 0 ?_
 refine yS (kq 8 (.call { callee := .builtin .len, args := #[(.tmp 7)], argTypes := #[53] })) rfl rfl (fun w' hS => hl.lenV rfl Tryz.underlying53 w' ) ?_
 refine yV (kq 9 (.binOp .lss 3 (.tmp 6) (.tmp 8) 3)) (fun _ => val_lss rfl rfl) ?_
 refine Sch.nil ?_
 refine run_i 9 rfl (fun h9 => ?_) (fun h9 => ?_)
 ·
  have hkl : k < l.length := by omega
  refine run_sk ?_
  refine run_sq ?_
  refine run_bk 1 ?_
  refine run_sq ?_
  refine run_draw (id := 4) (ops := F32.o4) [] (C1) [yy 0, yy 1, yy 2, yy 3, yy 4, yy 5] Tryz_mixed (by kernel_rfl) (by kernel_rfl) (by kernel_rfl) ?_
  intro w3 hs
  replace hF := hF.st hs
  replace hT := hT.t hs; replace hl := hl.t hs; replace hx := hx.t hs
  refine yM 12 0 ?_
  refine yM 13 5 ?_
  refine iS (e := 47) (kq 14 (.indexAddr 53 (.tmp 12) (.tmp 13))) rfl rfl hl rfl (by kernel_rfl) rfl (by omega) (by omega) ?_
  intro b14 o14 h14
  try simp only [Int.toNat_natCast] at h14
  refine lSA (kq 15 (.load 47 (.tmp 14))) rfl rfl (fun w' hS => h14.sy hS) h14 (by kernel_rfl) (by kernel_rfl) rfl rfl ?_
  intro v15 g15
  obtain rfl := rv_couple.1 g15
  refine yS (kq 16 (.load 47 (.tmp 3))) rfl rfl (fun w' hS => val_loadOwnAgg (n := 2) (vs := encR c) (hx.stay hS (by decide)) (by kernel_rfl) (by kernel_rfl) rfl rfl rfl) ?_
  refine yV (kq 17 (.binOp .eql 47 (.tmp 15) (.tmp 16) 47)) (fun _ => val_eqC (a := l[k]) (b := c) Tryz.underlying47 (by decide) (by decide) (by kernel_rfl) Tryz.underlying3 rfl rfl) ?_
  refine Sch.nil ?_
  refine run_i 17 rfl (fun h17 => ?_) (fun h17 => ?_)
  ·
   refine run_sq ?_
   refine run_pl [yy 0, yy 1] ?_
   refine yM 18 5 ?_
   refine yA 4 18 ?_
   refine Sch.nil ?_
   refine run_ret1 (by kernel_rfl) Tryz.func32 Tryz.results32 rfl ?_
   exact ⟨by rw [idxOf_at hkl (fun i hi => h0 i hi (by omega)) (decide_eq_true h17.symm)], hT.out1 (by decide)⟩
  ·
   refine run_sk ?_
   refine run_inBlock ?_
   refine run_pl [yy 0, yy 1, yy 2] ?_
   refine yM 10 5 ?_
   refine yV (kq 11 (.binOp .add 3 (.tmp 10) (.const (.int .i64 1)) 3)) (fun _ => val_addi rfl rfl (by omega) (by omega)) ?_
   refine yA 5 11 ?_
   refine Sch.nil ?_
   refine kp (sub_cons 0 rfl rfl (sub_cons 3 rfl rfl (sub_cons 4 rfl rfl (sub_cons 5 rfl (eq_int (by simp)) (sub_nil _))))) (next1 (k + 1, C1) _ ⟨(by first | omega | (simp only; omega)), (fun i hi hl => by
       simp only at hi
       by_cases e : i = k
       · subst e; exact decide_eq_false (fun e => h17 e.symm)
       · exact h0 i (by omega) hl), hF, hT, hl, hx⟩ (by first | omega | (simp only; omega)))
 ·
  have hkl : k = l.length := by omega
  refine run_ex 0 ?_
  refine run_sq ?_
  refine run_pl [yy 0] ?_
  refine yV (kq 4 (.assign (.const (.int .i64 (-1))))) (fun _ => val_assign rfl) ?_
  refine Sch.nil ?_
  refine run_ret1 (by kernel_rfl) Tryz.func32 Tryz.results32 rfl ?_
  exact ⟨by rw [idxOf_none (fun i hi => h0 i (by omega) hi)], hT.out1 (by decide)⟩
namespace F57
noncomputable def c0 := bodyOf Tryz.f57
noncomputable def c7 := (cl (cl (cr (cl (cr c0)))))
noncomputable def o4 := rops (cl (cl (cl (cr c7))))
noncomputable def c18 := (cl (cr (cl (cl (cr c7)))))
end F57
theorem refFind_ok {w₀ : World} {C : Nat → Nat} {l : List (List Couple)} {c : Couple} {vl : Value} (hF : Lim w₀ C) (hl : RV w₀ (Mc C) l vl) : Calls Tryz.prog 57 #[vl, .agg #[.int .i64 c.a, .int .i64 c.b]] w₀ (Ret fun v w' => v = .int .i64 (findS l c) ∧ Stp [] w₀ C w' C) := by
 have hF0 := hF
 have hT := Stp.refl [2, 3, 4, 5, 6, 7, 8, 9] w₀ (col1 C)
 replace hF := hF.col1
 replace hl : RV w₀ (Mc (col1 C)) l vl := by rw [Mc_col1]; exact hl
 refine calls_start (c := F57.c0) (N := 20) [vl, .agg #[.int .i64 c.a, .int .i64 c.b]] Tryz.func57 (by kernel_rfl) (by kernel_rfl) (by kernel_rfl) ?_
 show Run _ _ _ _ [(0, vl), (1, .agg #[.int .i64 c.a, .int .i64 c.b])] _ _
 refine run_sq ?_
 refine run_pl [nn 0, yy 1] ?_
 refine aS (kq 3 (.box 47 (.tmp 1))) rfl rfl (a_box (cs := encR c) hF 3 rfl rfl) ?_
 rintro _ w1 ⟨Cw1, bw1, rfl, hs, hx, hF⟩
 refine ⟨trivial, ?_⟩
 replace hT := hT.t hs; replace hl := hl.t hs
 refine yAc 4 (.int .i64 0) ?_
 refine Sch.nil ?_
 refine run_sq ?_
 refine run_sq ?_
 refine run_pl [yy 0] ?_
 refine yAc 5 (.int .i64 0) ?_
 refine Sch.nil ?_
 refine run_bk 0 ?_
 
 refine run_lp (ι := Nat × (Nat → Nat)) (I := fun x w => x.1 ≤ l.length ∧ (∀ i, i < x.1 → ∀ (hi : i < l.length), (fun p => p.any fun x => decide (c = x)) l[i] = false) ∧ Lim w x.2 ∧ Stp [2, 3, 4, 5, 6, 7, 8, 9] w₀ (col1 C) w x.2 ∧ RV w (Mc x.2) l vl ∧ OwnB w x.2 3 bw1 (.cells (encR c).toArray 47)) (e := fun x => [(0, vl), (3, .pointer (some ⟨bw1, 0, none⟩)), (4, .int .i64 0), (5, .int .i64 x.1)]) (m := fun x => l.length - x.1) (x₀ := (0, Cw1)) (sr 0 (sr 3 (sr 4 (sr 5 (sub_nil _))))) ?_ ?_
 · exact ⟨Nat.zero_le _, fun i hi => by simp at hi, hF, hT, hl, hx⟩
 intro ⟨k, C1⟩ w2 hI next
 obtain ⟨hk, h0, hF, hT, hl, hx⟩ := hI
 try simp only at hk h0 hF hT hl hx
 have next1 := next
 clear next
 show Run _ _ _ _ [(0, vl), (3, .pointer (some ⟨bw1, 0, none⟩)), (4, .int .i64 0), (5, .int .i64 k)] _ _
 have hle := hl.le
 refine run_sq ?_
 refine run_sq ?_
 refine run_pl [yy 0, yy 1, yy 2, yy 3] ?_
 refine yM 6 5 ?_
 refine yM 7 0 ?_
 refine yS (kq 8 (.call { callee := .builtin .len, args := #[(.tmp 7)], argTypes := #[25] })) rfl rfl (fun w' hS => hl.lenV rfl Tryz.underlying25 w' ) ?_
 refine yV (kq 9 (.binOp .lss 3 (.tmp 6) (.tmp 8) 3)) (fun _ => val_lss rfl rfl) ?_
 refine Sch.nil ?_
 refine run_i 9 rfl (fun h9 => ?_) (fun h9 => ?_)
 ·
  have hkl : k < l.length := by omega
  refine run_sk ?_
  refine run_sq ?_
  refine run_bk 1 ?_
  refine run_sq ?_
  refine run_draw (id := 4) (ops := F57.o4) [] (C1) [yy 0, yy 1, yy 2, yy 3, yy 4, nn 5, yy 6] Tryz_mixed (by kernel_rfl) (by kernel_rfl) (by kernel_rfl) ?_
  intro w3 hs
  replace hF := hF.st hs
  replace hT := hT.t hs; replace hl := hl.t hs; replace hx := hx.t hs
  have hR := Stp.refl [] w3 (C1)
  refine yM 12 0 ?_
  refine yM 13 5 ?_
  refine iS (e := 53) (kq 14 (.indexAddr 25 (.tmp 12) (.tmp 13))) rfl rfl hl rfl (by kernel_rfl) rfl (by omega) (by omega) ?_
  intro b14 o14 h14
  try simp only [Int.toNat_natCast] at h14
  refine lS (kq 15 (.load 53 (.tmp 14))) rfl rfl (fun w' hS => h14.sy hS) h14 (by kernel_rfl) rfl rfl ?_
  intro v15 g15
  refine yS (kq 16 (.load 47 (.tmp 3))) rfl rfl (fun w' hS => val_loadOwnAgg (n := 2) (vs := encR c) (hx.stay hS (by decide)) (by kernel_rfl) (by kernel_rfl) rfl rfl rfl) ?_
  refine cS (kq 17 (.call { callee := .value (.func 32), args := #[(.tmp 15), (.tmp 16)], argTypes := #[53, 47] })) rfl rfl (ent Tryz.call32 rfl) (refIndex_ok (c := c) hF g15) ?_
  rintro vw4 w4 ⟨rfl, hs⟩
  refine ⟨(hR.trans hs (by simp)).ext, ?_⟩
  replace hF := hF.st hs
  replace hT := hT.t hs; replace hl := hl.t hs; replace hx := hx.t hs; replace hR := hR.t hs; replace h14 := h14.t hs; replace g15 := g15.t hs
  refine yV (kq 18 (.binOp .geq 3 (.tmp 17) (.const (.int .i64 0)) 3)) (fun _ => val_geq rfl rfl) ?_
  refine Sch.nil ?_
  refine run_i 18 rfl (fun h18 => ?_) (fun h18 => ?_)
  ·
   refine run_sq ?_
   refine run_pl [yy 0, yy 1] ?_
   refine yM 19 5 ?_
   refine yA 4 19 ?_
   refine Sch.nil ?_
   refine run_ret1 (by kernel_rfl) Tryz.func57 Tryz.results57 rfl ?_
   exact ⟨by unfold findS; rw [idxOf_at hkl (fun i hi => h0 i hi (by omega)) (by show (List.any _ _) = true; rw [← idxOf_ge]; exact decide_eq_true h18)], hT.out1 (by decide)⟩
  ·
   refine run_sk ?_
   refine run_inBlock ?_
   refine run_pl [yy 0, yy 1, yy 2] ?_
   refine yM 10 5 ?_
   refine yV (kq 11 (.binOp .add 3 (.tmp 10) (.const (.int .i64 1)) 3)) (fun _ => val_addi rfl rfl (by omega) (by omega)) ?_
   refine yA 5 11 ?_
   refine Sch.nil ?_
   refine kp (sub_cons 0 rfl rfl (sub_cons 3 rfl rfl (sub_cons 4 rfl rfl (sub_cons 5 rfl (eq_int (by simp)) (sub_nil _))))) (next1 (k + 1, C1) _ ⟨(by first | omega | (simp only; omega)), (fun i hi hl => by
       simp only at hi
       by_cases e : i = k
       · subst e; show (List.any _ _) = false; rw [← idxOf_ge]; exact decide_eq_false h18
       · exact h0 i (by omega) hl), hF, hT, hl, hx⟩ (by first | omega | (simp only; omega)))
 ·
  have hkl : k = l.length := by omega
  refine run_ex 0 ?_
  refine run_sq ?_
  refine run_pl [yy 0] ?_
  refine yV (kq 4 (.assign (.const (.int .i64 (-1))))) (fun _ => val_assign rfl) ?_
  refine Sch.nil ?_
  refine run_ret1 (by kernel_rfl) Tryz.func57 Tryz.results57 rfl ?_
  exact ⟨by unfold findS; rw [idxOf_none (fun i hi => h0 i (by omega) hi)], hT.out1 (by decide)⟩
end Go.Proofs.YtdmgmlmlielfbaaGreat
