/- Steps through functions of the program. -/
import Derived.Test.YtdmgmlmlielfbaaGreatJC8
import Derived.Test.YtdmgmlmlielfbaaGreatL2
set_option linter.unusedVariables false
set_option linter.unusedSimpArgs false
set_option maxRecDepth 100000
set_option maxHeartbeats 4000000
namespace Go.Proofs.YtdmgmlmlielfbaaGreat
open Go.K Go.K.Rep
noncomputable section
namespace F118
def c0 := bodyOf Tryz.f118
end F118
theorem growS_ok {w₀ : World} {C : Nat → Nat} {k : Nat} (hF : Lim w₀ C) (hk : k ≤ 1000000) (j : Nat) (hj : j ≠ 0) : Calls Tryz.prog 118 #[.slice none 0 0, .int .i64 k] w₀ (Ret fun v w' => ∃ C', Stp [] w₀ C w' C' ∧ Lim w' C' ∧ OwnL w' C' j 47 v ([] : List Couple)) := by
 have hF0 := hF
 have hT := Stp.refl [2, 3, 4, 5, 6, 7, 8, 9] w₀ (col1 C)
 replace hF := hF.col1
 refine c_st F118.c0 27 [.slice none 0 0, .int .i64 k] Tryz.func118 ?_
 show Run _ _ _ _ [(0, .slice none 0 0), (1, .int .i64 k)] _ _
 refine run_sq (run_pl [yy 0] ?_)
 refine yV (kq 4 (.assign (.const (.slice none 0 0)))) (fun _ => val_assign rfl) ?_
 refine Sch.nil (run_sq (run_sq (run_pl [yy 0, yy 1] ?_)))
 refine yM 5 1 ?_
 refine yV (kq 6 (.binOp .lss 3 (.tmp 5) (.const (.int .i64 0)) 3)) (fun _ => val_lss rfl rfl) ?_
 refine Sch.nil ?_
 refine run_i 6 rfl (fun h6 => ?_) (fun h6 => ?_)
 ·
  omega
 refine run_sk (run_sq (run_sq (run_pl [yy 0, yy 1, nn 2, yy 3, yy 4, yy 5, yy 6, yy 7] ?_)))
 refine yM 8 1 ?_
 refine yM 9 0 ?_
 refine nS (kq 10 (.call { callee := .builtin .cap, args := #[(.tmp 9)], argTypes := #[53] })) rfl rfl trivial (val_capX rfl Tryz.underlying53) ?_
 refine yM 11 0 ?_
 refine yV (kq 12 (.call { callee := .builtin .len, args := #[(.tmp 11)], argTypes := #[53] })) (fun _ => val_len_slice rfl Tryz.underlying53) ?_
 refine yV (kq 13 (.binOp .sub 3 (.tmp 10) (.tmp 12) 3)) (fun _ => val_subi rfl rfl (by omega) (by omega)) ?_
 refine yV (kq 14 (.binOp .sub 3 (.tmp 8) (.tmp 13) 3)) (fun _ => val_subi rfl rfl (by omega) (by omega)) ?_
 rw [show (k : Int) - (((0 : Nat) : Int) - ((0 : Nat) : Int)) = (k : Int) from by simp]
 refine yA 1 14 ?_
 refine Sch.nil (run_sq (run_pl [yy 0, yy 1] ?_))
 refine yM 15 1 ?_
 refine yV (kq 16 (.binOp .gtr 3 (.tmp 15) (.const (.int .i64 0)) 3)) (fun _ => val_gtr rfl rfl) ?_
 refine Sch.nil ?_
 refine run_i 16 rfl (fun h16 => ?_) (fun h16 => ?_)
 ·
  have hk0 : 0 < k := by omega
  refine run_pl [yy 0, yy 1, nn 2, yy 3, yy 4, nn 5, yy 6, yy 7, yy 8, yy 9] ?_
  refine yM 17 0 ?_
  refine yM 18 0 ?_
  refine nS (kq 19 (.call { callee := .builtin .cap, args := #[(.tmp 18)], argTypes := #[53] })) rfl rfl trivial (val_capX rfl Tryz.underlying53) ?_
  refine yV (kq 20 (.slice 53 (.tmp 17) none (some (.tmp 19)) none)) (fun _ => val_slNil rfl rfl Tryz.underlying53 (by kernel_rfl)) ?_
  refine yM 21 1 ?_
  refine aT (kq 22 (.call { callee := .builtin .append, args := #[(.tmp 20), (.tmp 21)], argTypes := #[53, 3] })) rfl rfl (a_appendZ0 (α := Couple) (e := 47) (bytes := 16) (n := k) (j := 3) hF (by decide) rfl rfl (by kernel_rfl) (by decide) (by decide) Tryz.underlying3 hk0 (by omega)) ?_
  rintro _ w1 ⟨Cw1, gb, gc, rfl, s_1, hz, hF⟩
  refine yM 23 0 ?_
  refine yV (kq 24 (.call { callee := .builtin .len, args := #[(.tmp 23)], argTypes := #[53] })) (fun _ => val_len_slice rfl Tryz.underlying53) ?_
  refine yV (kq 25 (.slice 53 (.tmp 22) none (some (.tmp 24)) none)) (fun _ => val_sl0 rfl rfl Tryz.underlying53 (by kernel_rfl)) ?_
  refine yA 0 25 ?_
  refine Sch.nil (run_sq (run_pl [yy 0, yy 1] ?_))
  refine yM 26 0 ?_
  refine yA 4 26 ?_
  refine Sch.nil ?_
  refine rt1 Tryz.func118 Tryz.results118 ?_
  replace hT := hT.t s_1
  obtain ⟨Cg, hcg, hFg, hmg, hog⟩ := hz.give hT hF0 (Mc_col1 C) (fun b _ => col1_lt C (by decide) b) (by decide) j hj
  exact ⟨Cg, (hT.out1 (by decide)).give hcg, hFg, hog⟩
 refine run_sk (run_sq (run_pl [yy 0, yy 1] ?_))
 refine yM 26 0 ?_
 refine yA 4 26 ?_
 refine Sch.nil ?_
 refine rt1 Tryz.func118 Tryz.results118 ?_
 exact ⟨C, hT.out1 (by decide), hF0.st (hT.out1 (by decide)), OwnL.nil⟩
namespace F81
def c0 := bodyOf Tryz.f81
end F81
theorem concatS_ok {w₀ : World} {C : Nat → Nat} {ll : List (List Couple)} {vv : Value} (hF : Lim w₀ C) (hl : RV w₀ (Mc C) ll vv) (hlen : ll.flatten.length ≤ 100000) (j : Nat) (hj : j ≠ 0) : Calls Tryz.prog 81 #[vv] w₀ (Ret fun v w' => ∃ C', Stp [] w₀ C w' C' ∧ Lim w' C' ∧ OwnL w' C' j 47 v ll.flatten) := by
 have hF0 := hF
 have hT := Stp.refl [2, 3, 4, 5, 6, 7, 8, 9] w₀ (col1 C)
 replace hF := hF.col1
 replace hl := hl.c1
 refine c_st F81.c0 36 [vv] Tryz.func81 ?_
 show Run _ _ _ _ [(0, vv)] _ _
 refine run_sq (run_pl [yy 0] ?_)
 refine yV (kq 2 (.assign (.const (.slice none 0 0)))) (fun _ => val_assign rfl) ?_
 refine Sch.nil (run_sq (run_pl [yy 0] ?_))
 refine yAc 3 (.int .i64 0) ?_
 refine Sch.nil (run_sq (run_sq (run_pl [yy 0, yy 1, yy 2] ?_)))
 refine yM 9 0 ?_
 refine yS (kq 10 (.call { callee := .builtin .len, args := #[(.tmp 9)], argTypes := #[25] })) rfl rfl (fun w' hS => hl.lenV rfl Tryz.underlying25 w' ) ?_
 refine yC 11 (.int .i64 0) ?_
 refine Sch.nil (run_bk 0 ?_)
 refine run_lp (ι := Nat × (Nat → Nat)) (I := fun x w => x.1 ≤ ll.length ∧ Lim w x.2 ∧ Stp [2, 3, 4, 5, 6, 7, 8, 9] w₀ (col1 C) w x.2 ∧ RV w (Mc x.2) ll vv) (e := fun x => [(0, vv), (3, .int .i64 ((ll.take x.1).flatten.length : Nat)), (9, vv), (10, .int .i64 ll.length), (11, .int .i64 x.1)]) (m := fun x => ll.length - x.1) (x₀ := (0, col1 C)) (sr 0 (sr 3 (sr 9 (sr 10 (sr 11 (sub_nil _)))))) ?_ ?_
 · exact ⟨Nat.zero_le _, hF, hT, hl⟩
 intro ⟨i, C1⟩ w1 hI next1
 obtain ⟨hi, hF, hT, hl⟩ := hI
 try simp only at hi hF hT hl
 show Run _ _ _ _ [(0, vv), (3, .int .i64 ((ll.take i).flatten.length : Nat)), (9, vv), (10, .int .i64 ll.length), (11, .int .i64 i)] _ _
 have hle := hl.le
 have hfl := flat_leA (ll := ll) i
 refine run_sq (run_pl [yy 0] ?_)
 refine yL 12 3 11 10 ?_
 refine Sch.nil (run_sq ?_)
 refine run_i 12 rfl (fun h12 => ?_) (fun h12 => ?_)
 ·
  have hil : i < ll.length := by omega
  have hft := congrArg List.length (flat_takeA hil)
  rw [List.length_append] at hft
  have hfl2 := flat_leA (ll := ll) (i + 1)
  refine run_sk (run_sq (run_bk 1 (run_sq (run_pl [yy 0, nn 1, yy 2] ?_))))
  refine iR 53 13 25 9 11 hl rfl (h := ?_)
  intro b13 o13 h13
  try simp only [Int.toNat_natCast] at h13
  refine lN (kq 14 (.load 53 (.tmp 13))) rfl rfl trivial h13 (by kernel_rfl) rfl rfl ?_
  intro v14 g14
  refine yA 5 14 ?_
  refine Sch.nil (run_sq (run_pl [yy 0, yy 1, yy 2, yy 3, yy 4] ?_))
  refine yM 15 3 ?_
  refine yM 16 5 ?_
  refine yS (kq 17 (.call { callee := .builtin .len, args := #[(.tmp 16)], argTypes := #[53] })) rfl rfl (fun w' hS => g14.lenV rfl Tryz.underlying53 w' ) ?_
  refine yV (kq 18 (.binOp .add 3 (.tmp 15) (.tmp 17) 3)) (fun _ => val_addi rfl rfl (by omega) (by omega)) ?_
  refine yA 3 18 ?_
  refine Sch.nil (run_sq (run_pl [yy 0, yy 1] ?_))
  refine yM 19 3 ?_
  refine yV (kq 20 (.binOp .lss 3 (.tmp 19) (.const (.int .i64 0)) 3)) (fun _ => val_lss rfl rfl) ?_
  refine Sch.nil ?_
  refine run_i 20 rfl (fun h20 => ?_) (fun h20 => ?_)
  ·
   omega
  refine run_sk (run_inBlock (run_pl [yy 0, yy 1] ?_))
  refine yI 22 3 11 1 ?_
  refine yM 11 22 ?_
  refine Sch.nil ?_
  refine kp (sr 0 (sub_cons 3 rfl (eq_int (by simp only; omega)) (sr 9 (sr 10 (sub_cons 11 rfl (eq_int (by simp)) (sub_nil _)))))) (next1 (i + 1, C1) _ ⟨(by first | omega | (simp only; omega)), hF, hT, hl⟩ (by first | omega | (simp only; omega)))
 have hil : i = ll.length := by omega
 refine run_ex 0 ?_
 refine run_sq (run_pl [yy 0, nn 1, yy 2] ?_)
 refine yM 23 3 ?_
 refine cT (kq 24 (.call { callee := .value (.func 118), args := #[(.const (.slice none 0 0)), (.tmp 23)], argTypes := #[53, 3] })) rfl rfl (ent Tryz.call118 rfl) (growS_ok hF (by omega) 3 (by decide)) ?_
 rintro vg w2 ⟨Cb, s_1, hF, ho⟩
 refine yA 6 24 ?_
 refine Sch.nil (run_sq (run_sq (run_pl [yy 0, yy 1, yy 2] ?_)))
 refine yM 25 0 ?_
 replace hl := hl.t s_1
 refine yS (kq 26 (.call { callee := .builtin .len, args := #[(.tmp 25)], argTypes := #[25] })) rfl rfl (fun w' hS => hl.lenV rfl Tryz.underlying25 w' ) ?_
 refine yC 27 (.int .i64 0) ?_
 refine Sch.nil (run_bk 2 ?_)
 refine run_lp (ι := Nat × Value × (Nat → Nat)) (I := fun x w => x.1 ≤ ll.length ∧ Lim w x.2.2 ∧ Stp [2, 3, 4, 5, 6, 7, 8, 9] w₀ (col1 C) w x.2.2 ∧ RV w (Mc x.2.2) ll vv ∧ OwnL w x.2.2 3 47 x.2.1 ((ll.take x.1).flatten)) (e := fun x => [(6, x.2.1), (25, vv), (26, .int .i64 ll.length), (27, .int .i64 x.1)]) (m := fun x => ll.length - x.1) (x₀ := (0, vg, Cb)) (sr 6 (sr 25 (sr 26 (sr 27 (sub_nil _))))) ?_ ?_
 ·
   replace hT := hT.t s_1
   exact ⟨Nat.zero_le _, hF, hT, hl, ho⟩
 intro ⟨k, vo, C2⟩ w3 hI next2
 obtain ⟨hk, hF, hT, hl, ho⟩ := hI
 try simp only at hk hF hT hl ho
 show Run _ _ _ _ [(6, vo), (25, vv), (26, .int .i64 ll.length), (27, .int .i64 k)] _ _
 have hle := hl.le
 have hfl := flat_leA (ll := ll) k
 refine run_sq (run_pl [yy 0] ?_)
 refine yL 28 3 27 26 ?_
 refine Sch.nil (run_sq ?_)
 refine run_i 28 rfl (fun h28 => ?_) (fun h28 => ?_)
 ·
  have hkl : k < ll.length := by omega
  have hft := flat_takeA hkl
  have hft2 := congrArg List.length hft
  rw [List.length_append] at hft2
  have hfl2 := flat_leA (ll := ll) (k + 1)
  refine run_sk (run_sq (run_bk 3 (run_sq (run_pl [yy 0, nn 1, yy 2] ?_))))
  refine iR 53 29 25 25 27 hl rfl (h := ?_)
  intro b29 o29 h29
  try simp only [Int.toNat_natCast] at h29
  refine lN (kq 30 (.load 53 (.tmp 29))) rfl rfl trivial h29 (by kernel_rfl) rfl rfl ?_
  intro v30 g30
  refine yA 8 30 ?_
  refine Sch.nil (run_pl [yy 0, yy 1, nn 2, yy 3] ?_)
  refine yM 31 6 ?_
  refine yM 32 8 ?_
  refine aT (kq 33 (.call { callee := .builtin .append, args := #[(.tmp 31), (.tmp 32)], argTypes := #[53, 53] })) rfl rfl (a_append (e := 47) (bytes := 16) hF (by decide) rfl rfl (by kernel_rfl) (by decide) ho g30 (by omega) (by omega)) ?_
  rintro v33 w4 ⟨Cw4, s_2, ho, hF⟩
  refine yA 6 33 ?_
  refine Sch.nil (run_inBlock (run_pl [yy 0, yy 1] ?_))
  refine yI 34 3 27 1 ?_
  refine yM 27 34 ?_
  refine Sch.nil ?_
  replace hT := hT.t s_2; replace hl := hl.t s_2
  refine kp (sr 6 (sr 25 (sr 26 (sub_cons 27 rfl (eq_int (by simp)) (sub_nil _))))) (next2 (k + 1, v33, Cw4) _ ⟨(by first | omega | (simp only; omega)), hF, hT, hl, (by simp only; rw [hft]; exact ho)⟩ (by first | omega | (simp only; omega)))
 have hkl : k = ll.length := by omega
 rw [hkl, List.take_length] at ho
 refine run_ex 2 ?_
 refine run_sq (run_pl [yy 0, yy 1] ?_)
 refine yM 35 6 ?_
 refine yA 2 35 ?_
 refine Sch.nil ?_
 refine rt1 Tryz.func81 Tryz.results81 ?_
 obtain ⟨Cg, hcg, hFg, hmg, hog⟩ := ho.give hT hF0 (Mc_col1 C) (fun b _ => col1_lt C (by decide) b) (by decide) j hj
 exact ⟨Cg, (hT.out1 (by decide)).give hcg, hFg, hog⟩
theorem concatR_ok {w₀ : World} {C : Nat → Nat} {ll : List (List Couple)} {vv : Value} (hF : Lim w₀ C) (hl : RV w₀ (Mc C) ll vv) (hlen : ll.flatten.length ≤ 100000) : Calls Tryz.prog 81 #[vv] w₀ (Ret fun v w' => Stp [] w₀ C w' C ∧ RV w' (Mc C) ll.flatten v) := by
 have hF0 := hF
 have hT := Stp.refl [2, 3, 4, 5, 6, 7, 8, 9] w₀ (col1 C)
 replace hF := hF.col1
 replace hl := hl.c1
 refine c_st F81.c0 36 [vv] Tryz.func81 ?_
 show Run _ _ _ _ [(0, vv)] _ _
 refine run_sq (run_pl [yy 0] ?_)
 refine yV (kq 2 (.assign (.const (.slice none 0 0)))) (fun _ => val_assign rfl) ?_
 refine Sch.nil (run_sq (run_pl [yy 0] ?_))
 refine yAc 3 (.int .i64 0) ?_
 refine Sch.nil (run_sq (run_sq (run_pl [yy 0, yy 1, yy 2] ?_)))
 refine yM 9 0 ?_
 refine yS (kq 10 (.call { callee := .builtin .len, args := #[(.tmp 9)], argTypes := #[25] })) rfl rfl (fun w' hS => hl.lenV rfl Tryz.underlying25 w' ) ?_
 refine yC 11 (.int .i64 0) ?_
 refine Sch.nil (run_bk 0 ?_)
 refine run_lp (ι := Nat × (Nat → Nat)) (I := fun x w => x.1 ≤ ll.length ∧ Lim w x.2 ∧ Stp [2, 3, 4, 5, 6, 7, 8, 9] w₀ (col1 C) w x.2 ∧ RV w (Mc x.2) ll vv) (e := fun x => [(0, vv), (3, .int .i64 ((ll.take x.1).flatten.length : Nat)), (9, vv), (10, .int .i64 ll.length), (11, .int .i64 x.1)]) (m := fun x => ll.length - x.1) (x₀ := (0, col1 C)) (sr 0 (sr 3 (sr 9 (sr 10 (sr 11 (sub_nil _)))))) ?_ ?_
 · exact ⟨Nat.zero_le _, hF, hT, hl⟩
 intro ⟨i, C1⟩ w1 hI next1
 obtain ⟨hi, hF, hT, hl⟩ := hI
 try simp only at hi hF hT hl
 show Run _ _ _ _ [(0, vv), (3, .int .i64 ((ll.take i).flatten.length : Nat)), (9, vv), (10, .int .i64 ll.length), (11, .int .i64 i)] _ _
 have hle := hl.le
 have hfl := flat_leA (ll := ll) i
 refine run_sq (run_pl [yy 0] ?_)
 refine yL 12 3 11 10 ?_
 refine Sch.nil (run_sq ?_)
 refine run_i 12 rfl (fun h12 => ?_) (fun h12 => ?_)
 ·
  have hil : i < ll.length := by omega
  have hft := congrArg List.length (flat_takeA hil)
  rw [List.length_append] at hft
  have hfl2 := flat_leA (ll := ll) (i + 1)
  refine run_sk (run_sq (run_bk 1 (run_sq (run_pl [yy 0, nn 1, yy 2] ?_))))
  refine iR 53 13 25 9 11 hl rfl (h := ?_)
  intro b13 o13 h13
  try simp only [Int.toNat_natCast] at h13
  refine lN (kq 14 (.load 53 (.tmp 13))) rfl rfl trivial h13 (by kernel_rfl) rfl rfl ?_
  intro v14 g14
  refine yA 5 14 ?_
  refine Sch.nil (run_sq (run_pl [yy 0, yy 1, yy 2, yy 3, yy 4] ?_))
  refine yM 15 3 ?_
  refine yM 16 5 ?_
  refine yS (kq 17 (.call { callee := .builtin .len, args := #[(.tmp 16)], argTypes := #[53] })) rfl rfl (fun w' hS => g14.lenV rfl Tryz.underlying53 w' ) ?_
  refine yV (kq 18 (.binOp .add 3 (.tmp 15) (.tmp 17) 3)) (fun _ => val_addi rfl rfl (by omega) (by omega)) ?_
  refine yA 3 18 ?_
  refine Sch.nil (run_sq (run_pl [yy 0, yy 1] ?_))
  refine yM 19 3 ?_
  refine yV (kq 20 (.binOp .lss 3 (.tmp 19) (.const (.int .i64 0)) 3)) (fun _ => val_lss rfl rfl) ?_
  refine Sch.nil ?_
  refine run_i 20 rfl (fun h20 => ?_) (fun h20 => ?_)
  ·
   omega
  refine run_sk (run_inBlock (run_pl [yy 0, yy 1] ?_))
  refine yI 22 3 11 1 ?_
  refine yM 11 22 ?_
  refine Sch.nil ?_
  refine kp (sr 0 (sub_cons 3 rfl (eq_int (by simp only; omega)) (sr 9 (sr 10 (sub_cons 11 rfl (eq_int (by simp)) (sub_nil _)))))) (next1 (i + 1, C1) _ ⟨(by first | omega | (simp only; omega)), hF, hT, hl⟩ (by first | omega | (simp only; omega)))
 have hil : i = ll.length := by omega
 refine run_ex 0 ?_
 refine run_sq (run_pl [yy 0, nn 1, yy 2] ?_)
 refine yM 23 3 ?_
 refine cT (kq 24 (.call { callee := .value (.func 118), args := #[(.const (.slice none 0 0)), (.tmp 23)], argTypes := #[53, 3] })) rfl rfl (ent Tryz.call118 rfl) (growS_ok hF (by omega) 3 (by decide)) ?_
 rintro vg w2 ⟨Cb, s_1, hF, ho⟩
 refine yA 6 24 ?_
 refine Sch.nil (run_sq (run_sq (run_pl [yy 0, yy 1, yy 2] ?_)))
 refine yM 25 0 ?_
 replace hl := hl.t s_1
 refine yS (kq 26 (.call { callee := .builtin .len, args := #[(.tmp 25)], argTypes := #[25] })) rfl rfl (fun w' hS => hl.lenV rfl Tryz.underlying25 w' ) ?_
 refine yC 27 (.int .i64 0) ?_
 refine Sch.nil (run_bk 2 ?_)
 refine run_lp (ι := Nat × Value × (Nat → Nat)) (I := fun x w => x.1 ≤ ll.length ∧ Lim w x.2.2 ∧ Stp [2, 3, 4, 5, 6, 7, 8, 9] w₀ (col1 C) w x.2.2 ∧ RV w (Mc x.2.2) ll vv ∧ OwnL w x.2.2 3 47 x.2.1 ((ll.take x.1).flatten)) (e := fun x => [(6, x.2.1), (25, vv), (26, .int .i64 ll.length), (27, .int .i64 x.1)]) (m := fun x => ll.length - x.1) (x₀ := (0, vg, Cb)) (sr 6 (sr 25 (sr 26 (sr 27 (sub_nil _))))) ?_ ?_
 ·
   replace hT := hT.t s_1
   exact ⟨Nat.zero_le _, hF, hT, hl, ho⟩
 intro ⟨k, vo, C2⟩ w3 hI next2
 obtain ⟨hk, hF, hT, hl, ho⟩ := hI
 try simp only at hk hF hT hl ho
 show Run _ _ _ _ [(6, vo), (25, vv), (26, .int .i64 ll.length), (27, .int .i64 k)] _ _
 have hle := hl.le
 have hfl := flat_leA (ll := ll) k
 refine run_sq (run_pl [yy 0] ?_)
 refine yL 28 3 27 26 ?_
 refine Sch.nil (run_sq ?_)
 refine run_i 28 rfl (fun h28 => ?_) (fun h28 => ?_)
 ·
  have hkl : k < ll.length := by omega
  have hft := flat_takeA hkl
  have hft2 := congrArg List.length hft
  rw [List.length_append] at hft2
  have hfl2 := flat_leA (ll := ll) (k + 1)
  refine run_sk (run_sq (run_bk 3 (run_sq (run_pl [yy 0, nn 1, yy 2] ?_))))
  refine iR 53 29 25 25 27 hl rfl (h := ?_)
  intro b29 o29 h29
  try simp only [Int.toNat_natCast] at h29
  refine lN (kq 30 (.load 53 (.tmp 29))) rfl rfl trivial h29 (by kernel_rfl) rfl rfl ?_
  intro v30 g30
  refine yA 8 30 ?_
  refine Sch.nil (run_pl [yy 0, yy 1, nn 2, yy 3] ?_)
  refine yM 31 6 ?_
  refine yM 32 8 ?_
  refine aT (kq 33 (.call { callee := .builtin .append, args := #[(.tmp 31), (.tmp 32)], argTypes := #[53, 53] })) rfl rfl (a_append (e := 47) (bytes := 16) hF (by decide) rfl rfl (by kernel_rfl) (by decide) ho g30 (by omega) (by omega)) ?_
  rintro v33 w4 ⟨Cw4, s_2, ho, hF⟩
  refine yA 6 33 ?_
  refine Sch.nil (run_inBlock (run_pl [yy 0, yy 1] ?_))
  refine yI 34 3 27 1 ?_
  refine yM 27 34 ?_
  refine Sch.nil ?_
  replace hT := hT.t s_2; replace hl := hl.t s_2
  refine kp (sr 6 (sr 25 (sr 26 (sub_cons 27 rfl (eq_int (by simp)) (sub_nil _))))) (next2 (k + 1, v33, Cw4) _ ⟨(by first | omega | (simp only; omega)), hF, hT, hl, (by simp only; rw [hft]; exact ho)⟩ (by first | omega | (simp only; omega)))
 have hkl : k = ll.length := by omega
 rw [hkl, List.take_length] at ho
 refine run_ex 2 ?_
 refine run_sq (run_pl [yy 0, yy 1] ?_)
 refine yM 35 6 ?_
 refine yA 2 35 ?_
 refine Sch.nil ?_
 refine rt1 Tryz.func81 Tryz.results81 ?_
 exact ⟨hT.out1 (by decide), ho.out hT hF0 (Mc_col1 C) (fun b _ => col1_lt C (by decide) b) (by omega)⟩
end
end Go.Proofs.YtdmgmlmlielfbaaGreat
