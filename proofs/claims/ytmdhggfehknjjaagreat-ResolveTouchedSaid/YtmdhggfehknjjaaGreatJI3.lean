/- Steps through functions of the program. -/
import Derived.Test.YtmdhggfehknjjaaGreatJI2
set_option linter.unusedVariables false
set_option linter.unusedSimpArgs false
set_option maxRecDepth 100000
set_option maxHeartbeats 4000000
namespace Go.Proofs.YtmdhggfehknjjaaGreat
open Go.K Go.K.Rep
noncomputable section
namespace F29
def c0 := bodyOf Tryz.f29
def c7 := (cl (cl (cr (cl (cr c0)))))
def o4 := rops (cl (cl (cl (cr c7))))
end F29
theorem refIndex_ok {w₀ : World} {C : Nat → Nat} {l : List Couple} {c : Couple} {vl : Value} (hF : Lim w₀ C) (hl : RV w₀ (Mc C) l vl) : Calls Tryz.prog 29 #[vl, .agg #[.int .i64 c.a, .int .i64 c.b]] w₀ (Ret fun v w' => v = .int .i64 (idxOf (fun x => decide (c = x)) l) ∧ Stp [] w₀ C w' C) := by
 have hF0 := hF
 have hT := Stp.refl [2, 3, 4, 5, 6, 7, 8, 9] w₀ (col1 C)
 replace hF := hF.col1
 replace hl := hl.c1
 refine c_st F29.c0 19 [vl, .agg #[.int .i64 c.a, .int .i64 c.b]] Tryz.func29 ?_
 show Run _ _ _ _ [(0, vl), (1, .agg #[.int .i64 c.a, .int .i64 c.b])] _ _
 refine run_sq (run_pl [nn 0, yy 1] ?_)
 refine aT (kq 3 (.box 55 (.tmp 1))) rfl rfl (a_box (cs := encR c) hF 3 rfl rfl) ?_
 rintro _ w1 ⟨Cw1, bw1, rfl, s_1, hx, hF⟩
 refine yAc 4 (.int .i64 0) ?_
 refine Sch.nil (run_sq (run_sq (run_pl [yy 0] ?_)))
 refine yAc 5 (.int .i64 0) ?_
 refine Sch.nil (run_bk 0 ?_)
 refine run_lp (ι := Nat × (Nat → Nat)) (I := fun x w => x.1 ≤ l.length ∧ (∀ i, i < x.1 → ∀ (hi : i < l.length), (fun x => decide (c = x)) l[i] = false) ∧ Lim w x.2 ∧ Stp [2, 3, 4, 5, 6, 7, 8, 9] w₀ (col1 C) w x.2 ∧ RV w (Mc x.2) l vl ∧ OwnB w x.2 3 bw1 (.cells (encR c).toArray 55)) (e := fun x => [(0, vl), (3, .pointer (some ⟨bw1, 0, none⟩)), (4, .int .i64 0), (5, .int .i64 x.1)]) (m := fun x => l.length - x.1) (x₀ := (0, Cw1)) (sr 0 (sr 3 (sr 4 (sr 5 (sub_nil _))))) ?_ ?_
 ·
   replace hT := hT.t s_1; replace hl := hl.t s_1
   exact ⟨Nat.zero_le _, fun i hi => by simp at hi, hF, hT, hl, hx⟩
 intro ⟨k, C1⟩ w2 hI next1
 obtain ⟨hk, h0, hF, hT, hl, hx⟩ := hI
 try simp only at hk h0 hF hT hl hx
 show Run _ _ _ _ [(0, vl), (3, .pointer (some ⟨bw1, 0, none⟩)), (4, .int .i64 0), (5, .int .i64 k)] _ _
 have hle := hl.le
 refine run_sq (run_sq (run_pl [yy 0, yy 1, yy 2, yy 3] ?_))
 refine yM 6 5 ?_
 refine yM 7 0 ?_
 refine yS (kq 8 (.call { callee := .builtin .len, args := #[(.tmp 7)], argTypes := #[52] })) rfl rfl (fun w' hS => hl.lenV rfl Tryz.underlying52 w' ) ?_
 refine yL 9 3 6 8 ?_
 refine Sch.nil ?_
 refine run_i 9 rfl (fun h9 => ?_) (fun h9 => ?_)
 ·
  have hkl : k < l.length := by omega
  refine run_sk (run_sq (run_bk 1 (run_sq ?_)))
  refine run_draw (id := 4) (ops := F29.o4) [] (C1) [yy 0, yy 1, yy 2, yy 3, yy 4, yy 5] Tryz_mixed (by kernel_rfl) (by kernel_rfl) (by kernel_rfl) ?_
  intro w3 s_2
  refine yM 12 0 ?_
  refine yM 13 5 ?_
  replace hl := hl.t s_2
  refine iR 55 14 52 12 13 hl rfl (h := ?_)
  intro b14 o14 h14
  try simp only [Int.toNat_natCast] at h14
  refine lSA (kq 15 (.load 55 (.tmp 14))) rfl rfl (fun w' hS => h14.sy hS) h14 (by kernel_rfl) (by kernel_rfl) rfl rfl ?_
  intro v15 g15
  obtain rfl := rv_couple.1 g15
  replace hx := hx.t s_2
  refine yS (kq 16 (.load 55 (.tmp 3))) rfl rfl (fun w' hS => val_loadOwnAgg (n := 2) (vs := encR c) (hx.stay hS (by decide)) (by kernel_rfl) (by kernel_rfl) rfl rfl rfl) ?_
  refine yV (kq 17 (.binOp .eql 55 (.tmp 15) (.tmp 16) 55)) (fun _ => val_eqC (a := l[k]) (b := c) Tryz.underlying55 (by decide) (by decide) (by kernel_rfl) Tryz.underlying3 rfl rfl) ?_
  refine Sch.nil ?_
  refine run_i 17 rfl (fun h17 => ?_) (fun h17 => ?_)
  ·
   refine run_sq (run_pl [yy 0, yy 1] ?_)
   refine yM 18 5 ?_
   refine yA 4 18 ?_
   refine Sch.nil ?_
   refine rt1 Tryz.func29 Tryz.results29 ?_
   replace hT := hT.t s_2
   exact ⟨by rw [idxOf_at hkl (fun i hi => h0 i hi (by omega)) (decide_eq_true h17.symm)], hT.out1 (by decide)⟩
  refine run_sk (run_inBlock (run_pl [yy 0, yy 1, yy 2] ?_))
  refine yM 10 5 ?_
  refine yI 11 3 10 1 ?_
  refine yA 5 11 ?_
  refine Sch.nil ?_
  replace hF := hF.st s_2; replace hT := hT.t s_2
  refine kp (sub_cons 0 rfl rfl (sub_cons 3 rfl rfl (sub_cons 4 rfl rfl (sub_cons 5 rfl (eq_int (by simp)) (sub_nil _))))) (next1 (k + 1, C1) _ ⟨(by first | omega | (simp only; omega)), (fun i hi hl => by
       simp only at hi
       by_cases e : i = k
       · subst e; exact decide_eq_false (fun e => h17 e.symm)
       · exact h0 i (by omega) hl), hF, hT, hl, hx⟩ (by first | omega | (simp only; omega)))
 have hkl : k = l.length := by omega
 refine run_ex 0 ?_
 refine run_sq (run_pl [yy 0] ?_)
 refine yV (kq 4 (.assign (.const (.int .i64 (-1))))) (fun _ => val_assign rfl) ?_
 refine Sch.nil ?_
 refine rt1 Tryz.func29 Tryz.results29 ?_
 exact ⟨by rw [idxOf_none (fun i hi => h0 i (by omega) hi)], hT.out1 (by decide)⟩
namespace F28
def c0 := bodyOf Tryz.f28
def c7 := (cl (cl (cr (cl (cr c0)))))
def o4 := rops (cl (cl (cl (cr c7))))
end F28
theorem refFind_ok {w₀ : World} {C : Nat → Nat} {l : List (List Couple)} {c : Couple} {vl : Value} (hF : Lim w₀ C) (hl : RV w₀ (Mc C) l vl) : Calls Tryz.prog 28 #[vl, .agg #[.int .i64 c.a, .int .i64 c.b]] w₀ (Ret fun v w' => v = .int .i64 (findS l c) ∧ Stp [] w₀ C w' C) := by
 have hF0 := hF
 have hT := Stp.refl [2, 3, 4, 5, 6, 7, 8, 9] w₀ (col1 C)
 replace hF := hF.col1
 replace hl := hl.c1
 refine c_st F28.c0 20 [vl, .agg #[.int .i64 c.a, .int .i64 c.b]] Tryz.func28 ?_
 show Run _ _ _ _ [(0, vl), (1, .agg #[.int .i64 c.a, .int .i64 c.b])] _ _
 refine run_sq (run_pl [nn 0, yy 1] ?_)
 refine aT (kq 3 (.box 55 (.tmp 1))) rfl rfl (a_box (cs := encR c) hF 3 rfl rfl) ?_
 rintro _ w1 ⟨Cw1, bw1, rfl, s_1, hx, hF⟩
 refine yAc 4 (.int .i64 0) ?_
 refine Sch.nil (run_sq (run_sq (run_pl [yy 0] ?_)))
 refine yAc 5 (.int .i64 0) ?_
 refine Sch.nil (run_bk 0 ?_)
 refine run_lp (ι := Nat × (Nat → Nat)) (I := fun x w => x.1 ≤ l.length ∧ (∀ i, i < x.1 → ∀ (hi : i < l.length), (fun p => p.any fun x => decide (c = x)) l[i] = false) ∧ Lim w x.2 ∧ Stp [2, 3, 4, 5, 6, 7, 8, 9] w₀ (col1 C) w x.2 ∧ RV w (Mc x.2) l vl ∧ OwnB w x.2 3 bw1 (.cells (encR c).toArray 55)) (e := fun x => [(0, vl), (3, .pointer (some ⟨bw1, 0, none⟩)), (4, .int .i64 0), (5, .int .i64 x.1)]) (m := fun x => l.length - x.1) (x₀ := (0, Cw1)) (sr 0 (sr 3 (sr 4 (sr 5 (sub_nil _))))) ?_ ?_
 ·
   replace hT := hT.t s_1; replace hl := hl.t s_1
   exact ⟨Nat.zero_le _, fun i hi => by simp at hi, hF, hT, hl, hx⟩
 intro ⟨k, C1⟩ w2 hI next1
 obtain ⟨hk, h0, hF, hT, hl, hx⟩ := hI
 try simp only at hk h0 hF hT hl hx
 show Run _ _ _ _ [(0, vl), (3, .pointer (some ⟨bw1, 0, none⟩)), (4, .int .i64 0), (5, .int .i64 k)] _ _
 have hle := hl.le
 refine run_sq (run_sq (run_pl [yy 0, yy 1, yy 2, yy 3] ?_))
 refine yM 6 5 ?_
 refine yM 7 0 ?_
 refine yS (kq 8 (.call { callee := .builtin .len, args := #[(.tmp 7)], argTypes := #[24] })) rfl rfl (fun w' hS => hl.lenV rfl Tryz.underlying24 w' ) ?_
 refine yL 9 3 6 8 ?_
 refine Sch.nil ?_
 refine run_i 9 rfl (fun h9 => ?_) (fun h9 => ?_)
 ·
  have hkl : k < l.length := by omega
  refine run_sk (run_sq (run_bk 1 (run_sq ?_)))
  refine run_draw (id := 4) (ops := F28.o4) [] (C1) [yy 0, yy 1, yy 2, yy 3, yy 4, nn 5, yy 6] Tryz_mixed (by kernel_rfl) (by kernel_rfl) (by kernel_rfl) ?_
  intro w3 s_2
  have hR := Stp.refl [] w3 (C1)
  refine yM 12 0 ?_
  refine yM 13 5 ?_
  replace hl := hl.t s_2
  refine iR 52 14 24 12 13 hl rfl (h := ?_)
  intro b14 o14 h14
  try simp only [Int.toNat_natCast] at h14
  refine lS (kq 15 (.load 52 (.tmp 14))) rfl rfl (fun w' hS => h14.sy hS) h14 (by kernel_rfl) rfl rfl ?_
  intro v15 g15
  replace hx := hx.t s_2
  refine yS (kq 16 (.load 55 (.tmp 3))) rfl rfl (fun w' hS => val_loadOwnAgg (n := 2) (vs := encR c) (hx.stay hS (by decide)) (by kernel_rfl) (by kernel_rfl) rfl rfl rfl) ?_
  replace hF := hF.st s_2
  refine cF 17 29 [15, 16] [52, 55] Tryz.call29 rfl (refIndex_ok (c := c) hF g15) ?_
  rintro vw4 w4 ⟨rfl, s_3⟩
  refine ⟨(hR.trans s_3 (by simp)).ext, ?_⟩
  refine yV (kq 18 (.binOp .geq 3 (.tmp 17) (.const (.int .i64 0)) 3)) (fun _ => val_geq rfl rfl) ?_
  refine Sch.nil ?_
  refine run_i 18 rfl (fun h18 => ?_) (fun h18 => ?_)
  ·
   refine run_sq (run_pl [yy 0, yy 1] ?_)
   refine yM 19 5 ?_
   refine yA 4 19 ?_
   refine Sch.nil ?_
   refine rt1 Tryz.func28 Tryz.results28 ?_
   replace hT := (hT.t s_2).t s_3
   exact ⟨by unfold findS; rw [idxOf_at hkl (fun i hi => h0 i hi (by omega)) (by show (List.any _ _) = true; rw [← idxOf_ge]; exact decide_eq_true h18)], hT.out1 (by decide)⟩
  refine run_sk (run_inBlock (run_pl [yy 0, yy 1, yy 2] ?_))
  refine yM 10 5 ?_
  refine yI 11 3 10 1 ?_
  refine yA 5 11 ?_
  refine Sch.nil ?_
  replace hT := (hT.t s_2).t s_3; replace hF := hF.st s_3; replace hl := hl.t s_3; replace hx := hx.t s_3
  refine kp (sub_cons 0 rfl rfl (sub_cons 3 rfl rfl (sub_cons 4 rfl rfl (sub_cons 5 rfl (eq_int (by simp)) (sub_nil _))))) (next1 (k + 1, C1) _ ⟨(by first | omega | (simp only; omega)), (fun i hi hl => by
       simp only at hi
       by_cases e : i = k
       · subst e; show (List.any _ _) = false; rw [← idxOf_ge]; exact decide_eq_false h18
       · exact h0 i (by omega) hl), hF, hT, hl, hx⟩ (by first | omega | (simp only; omega)))
 have hkl : k = l.length := by omega
 refine run_ex 0 ?_
 refine run_sq (run_pl [yy 0] ?_)
 refine yV (kq 4 (.assign (.const (.int .i64 (-1))))) (fun _ => val_assign rfl) ?_
 refine Sch.nil ?_
 refine rt1 Tryz.func28 Tryz.results28 ?_
 exact ⟨by unfold findS; rw [idxOf_none (fun i hi => h0 i (by omega) hi)], hT.out1 (by decide)⟩
end
end Go.Proofs.YtmdhggfehknjjaaGreat
