/- Steps through functions of the program. -/
import Derived.Test.YtmdhggfehknjjaaGreatJI1
import Derived.Test.YtmdhggfehknjjaaGreatL2
set_option linter.unusedVariables false
set_option linter.unusedSimpArgs false
set_option maxRecDepth 100000
set_option maxHeartbeats 4000000
namespace Go.Proofs.YtmdhggfehknjjaaGreat
open Go.K Go.K.Rep
noncomputable section
namespace F56
def c0 := bodyOf Tryz.f56
def c7 := (cl (cl (cl (cr (cr c0)))))
def o2 := rops (cl (cl c7))
def c17 := (cl (cl (cr (cr (cr c0)))))
def o4 := rops c17
def c24 := (cl (cr (cr (cr (cr c0)))))
def o6 := rops c24
end F56
theorem put_ok {w₀ : World} {C : Nat → Nat} {l : List Couple} {c : Couple} {vl : Value} (hF : Lim w₀ C) (hl : RV w₀ (Mc C) l vl) (hlen : l.length ≤ 1000000) : Calls Tryz.prog 56 #[vl, .agg #[.int .i64 c.a, .int .i64 c.b]] w₀ (Ret fun v w' => Stp [] w₀ C w' C ∧ RV w' (Mc C) (insC l c) v) := by
 have hF0 := hF
 have hT := Stp.refl [2, 3, 4, 5, 6, 7, 8, 9] w₀ (col1 C)
 replace hF := hF.col1
 replace hl := hl.c1
 refine c_st F56.c0 46 [vl, .agg #[.int .i64 c.a, .int .i64 c.b]] Tryz.func56 ?_
 show Run _ _ _ _ [(0, vl), (1, .agg #[.int .i64 c.a, .int .i64 c.b])] _ _
 refine run_sq (run_pl [nn 0, yy 1] ?_)
 refine aT (kq 3 (.box 55 (.tmp 1))) rfl rfl (a_box (cs := encR c) hF 3 rfl rfl) ?_
 rintro _ w1 ⟨Cw1, bw1, rfl, s_1, hx, hF⟩
 refine yV (kq 4 (.assign (.const (.slice none 0 0)))) (fun _ => val_assign rfl) ?_
 refine Sch.nil (run_sq (run_pl [yy 0] ?_))
 refine yAc 5 (.int .i64 0) ?_
 refine Sch.nil (run_sq (run_bk 0 ?_))
 refine run_lp (ι := Nat × (Nat → Nat)) (I := fun x w => x.1 ≤ l.length ∧ (∀ i, i < x.1 → ∀ (hi : i < l.length), ltB l[i] c = true) ∧ Lim w x.2 ∧ Stp [2, 3, 4, 5, 6, 7, 8, 9] w₀ (col1 C) w x.2 ∧ RV w (Mc x.2) l vl ∧ OwnB w x.2 3 bw1 (.cells (encR c).toArray 55)) (e := fun x => [(0, vl), (3, .pointer (some ⟨bw1, 0, none⟩)), (4, .slice none 0 0), (5, .int .i64 x.1)]) (m := fun x => l.length - x.1) (x₀ := (0, Cw1)) (sr 0 (sr 3 (sr 4 (sr 5 (sub_nil _))))) ?_ ?_
 ·
   replace hT := hT.t s_1; replace hl := hl.t s_1
   exact ⟨Nat.zero_le _, fun i hi => by simp at hi, hF, hT, hl, hx⟩
 intro ⟨k, C1⟩ w2 hI next1
 obtain ⟨hk, h0, hF, hT, hl, hx⟩ := hI
 try simp only at hk h0 hF hT hl hx
 show Run _ _ _ _ [(0, vl), (3, .pointer (some ⟨bw1, 0, none⟩)), (4, .slice none 0 0), (5, .int .i64 k)] _ _
 refine run_sq (run_sq ?_)
 refine run_cut 18 ((if h : k < l.length then ltB l[k] c else false)) (C1) ?_ ?_
 ·
  intro hcut
  by_cases hA : (k : Int) < l.length
  ·
   refine run_draw (id := 2) (ops := F56.o2) [] (C1) [yy 0, yy 1, yy 2, yy 3, yy 4, yy 5, yy 6, yy 7, yy 8, yy 9, nn 10, yy 11] Tryz_mixed (by kernel_rfl) (by kernel_rfl) (by kernel_rfl) ?_
   intro w3 s_2
   have hcs := s_2
   have hR := Stp.refl [] w3 (C1)
   refine yM 7 5 ?_
   refine yM 8 0 ?_
   replace hl := hl.t s_2
   refine yS (kq 9 (.call { callee := .builtin .len, args := #[(.tmp 8)], argTypes := #[52] })) rfl rfl (fun w' hS => hl.lenV rfl Tryz.underlying52 w' ) ?_
   refine yV (kq 10 (.binOp .lss 3 (.tmp 7) (.tmp 9) 3)) (fun _ => val_T (val_lss rfl rfl) hA) ?_
   refine yM 11 10 ?_
   refine yMg 12 0 4 true ?_
   refine yMg 13 5 4 true ?_
   refine iS (e := 55) (kg 14 (.indexAddr 52 (.tmp 12) (.tmp 13)) 4 true) rfl rfl hl rfl (by kernel_rfl) rfl (by omega) (by omega) ?_
   intro b14 o14 h14
   try simp only [Int.toNat_natCast] at h14
   refine lSA (kg 15 (.load 55 (.tmp 14)) 4 true) rfl rfl (fun w' hS => h14.sy hS) h14 (by kernel_rfl) (by kernel_rfl) rfl rfl ?_
   intro v15 g15
   obtain rfl := rv_couple.1 g15
   replace hx := hx.t s_2
   refine yS (kg 16 (.load 55 (.tmp 3)) 4 true) rfl rfl (fun w' hS => val_loadOwnAgg (n := 2) (vs := encR c) (hx.stay hS (by decide)) (by kernel_rfl) (by kernel_rfl) rfl rfl rfl) ?_
   replace hF := hF.st s_2
   refine cS (kg 17 (.call { callee := .value (.func 44), args := #[(.tmp 15), (.tmp 16)], argTypes := #[55, 55] }) 4 true) rfl rfl (ent Tryz.call44 rfl) (less30_ok (x := l[k]) (y := c) hF) ?_
   rintro vw4 w4 ⟨rfl, s_3⟩
   refine ⟨(hR.trans s_3 (by simp)).ext, ?_⟩
   refine yAt 18 11 17 ?_
   replace hcs := hcs.t s_3
   exact Sch.nil (hcut _ _ _ hcs rfl (by rw [dif_pos (by omega), ltB_ltP]) (sk 12))
  refine run_draw (id := 2) (ops := F56.o2) [] (C1) [yy 0, yy 1, yy 2, yy 3, yy 4, yy 5, yy 6, yy 7, yy 8, yy 9, nn 10, yy 11] Tryz_mixed (by kernel_rfl) (by kernel_rfl) (by kernel_rfl) ?_
  intro w5 s_4
  have hcs := s_4
  have hR := Stp.refl [] w5 (C1)
  refine yM 7 5 ?_
  refine yM 8 0 ?_
  replace hl := hl.t s_4
  refine yS (kq 9 (.call { callee := .builtin .len, args := #[(.tmp 8)], argTypes := #[52] })) rfl rfl (fun w' hS => hl.lenV rfl Tryz.underlying52 w' ) ?_
  refine yV (kq 10 (.binOp .lss 3 (.tmp 7) (.tmp 9) 3)) (fun _ => val_F (val_lss rfl rfl) hA) ?_
  refine yM 11 10 ?_
  refine pX 12 4 true ?_
  refine pX 13 4 true ?_
  refine pX 14 4 true ?_
  refine pX 15 4 true ?_
  refine pX 16 4 true ?_
  refine pW (kg 17 (.call { callee := .value (.func 44), args := #[(.tmp 15), (.tmp 16)], argTypes := #[55, 55] }) 4 true) rfl rfl hR.ext ?_
  refine yAf 18 11 17 ?_
  exact Sch.nil (hcut _ _ _ hcs rfl (by rw [dif_neg (by omega)]) (sk 12))
 intro w6 s_5
 refine run_c 18 rfl (fun h18 => ?_) (fun h18 => ?_)
 ·
  have hkl : k < l.length := by
    apply Classical.byContradiction; intro e; rw [dif_neg e] at h18; cases h18
  rw [dif_pos hkl] at h18
  refine run_sk (run_bk 1 (run_pl [yy 0, yy 1, yy 2] ?_))
  refine yM 19 5 ?_
  refine yI 20 3 19 1 ?_
  refine yA 5 20 ?_
  refine Sch.nil (run_inBlock ?_)
  replace hF := hF.st s_5; replace hT := hT.t s_5; replace hl := hl.t s_5; replace hx := hx.t s_5
  refine kp (sub_cons 0 rfl rfl (sub_cons 3 rfl rfl (sub_cons 4 rfl rfl (sub_cons 5 rfl (eq_int (by simp)) (sub_nil _))))) (next1 (k + 1, C1) _ ⟨(by first | omega | (simp only; omega)), (fun i hi hl => by
      simp only at hi
      by_cases e : i = k
      · subst e; exact h18
      · exact h0 i (by omega) hl), hF, hT, hl, hx⟩ (by first | omega | (simp only; omega)))
 have hins := insC_at (c := c) hk (fun i hi h => h0 i hi h) (fun h => by rw [dif_pos h] at h18; exact h18)
 refine run_ex 0 ?_
 refine run_sq (run_sq ?_)
 refine run_cut 32 ((if h : k < l.length then decide (l[k] = c) else false)) (C1) ?_ ?_
 ·
  intro hcut
  by_cases hA : (k : Int) < l.length
  ·
   refine run_draw (id := 4) (ops := F56.o4) [] (C1) [yy 0, yy 1, yy 2, yy 3, yy 4, yy 5, yy 6, yy 7, yy 8, yy 9, yy 10, yy 11] Tryz_mixed (by kernel_rfl) (by kernel_rfl) (by kernel_rfl) ?_
   intro w7 s_6
   have hcs := s_6
   refine yM 21 5 ?_
   refine yM 22 0 ?_
   replace hl := (hl.t s_5).t s_6
   refine yS (kq 23 (.call { callee := .builtin .len, args := #[(.tmp 22)], argTypes := #[52] })) rfl rfl (fun w' hS => hl.lenV rfl Tryz.underlying52 w' ) ?_
   refine yV (kq 24 (.binOp .lss 3 (.tmp 21) (.tmp 23) 3)) (fun _ => val_T (val_lss rfl rfl) hA) ?_
   refine yM 25 24 ?_
   refine yMg 26 0 4 true ?_
   refine yMg 27 5 4 true ?_
   refine iS (e := 55) (kg 28 (.indexAddr 52 (.tmp 26) (.tmp 27)) 4 true) rfl rfl hl rfl (by kernel_rfl) rfl (by omega) (by omega) ?_
   intro b28 o28 h28
   try simp only [Int.toNat_natCast] at h28
   refine lSA (kg 29 (.load 55 (.tmp 28)) 4 true) rfl rfl (fun w' hS => h28.sy hS) h28 (by kernel_rfl) (by kernel_rfl) rfl rfl ?_
   intro v29 g29
   obtain rfl := rv_couple.1 g29
   replace hx := (hx.t s_5).t s_6
   refine yS (kg 30 (.load 55 (.tmp 3)) 4 true) rfl rfl (fun w' hS => val_loadOwnAgg (n := 2) (vs := encR c) (hx.stay hS (by decide)) (by kernel_rfl) (by kernel_rfl) rfl rfl rfl) ?_
   refine yV (kg 31 (.binOp .eql 55 (.tmp 29) (.tmp 30) 55) 4 true) (fun _ => val_eqC (a := l[k]) (b := c) Tryz.underlying55 (by decide) (by decide) (by kernel_rfl) Tryz.underlying3 rfl rfl) ?_
   refine yAt 32 25 31 ?_
   exact Sch.nil (hcut _ _ _ hcs rfl (by rw [dif_pos (by omega)]) (sk 12))
  refine run_draw (id := 4) (ops := F56.o4) [] (C1) [yy 0, yy 1, yy 2, yy 3, yy 4, yy 5, yy 6, yy 7, yy 8, yy 9, yy 10, yy 11] Tryz_mixed (by kernel_rfl) (by kernel_rfl) (by kernel_rfl) ?_
  intro w8 s_7
  have hcs := s_7
  refine yM 21 5 ?_
  refine yM 22 0 ?_
  replace hl := (hl.t s_5).t s_7
  refine yS (kq 23 (.call { callee := .builtin .len, args := #[(.tmp 22)], argTypes := #[52] })) rfl rfl (fun w' hS => hl.lenV rfl Tryz.underlying52 w' ) ?_
  refine yV (kq 24 (.binOp .lss 3 (.tmp 21) (.tmp 23) 3)) (fun _ => val_F (val_lss rfl rfl) hA) ?_
  refine yM 25 24 ?_
  refine pX 26 4 true ?_
  refine pX 27 4 true ?_
  refine pX 28 4 true ?_
  refine pX 29 4 true ?_
  refine pX 30 4 true ?_
  refine pX 31 4 true ?_
  refine yAf 32 25 31 ?_
  exact Sch.nil (hcut _ _ _ hcs rfl (by rw [dif_neg (by omega)]) (sk 12))
 intro w9 s_8
 refine run_c 32 rfl (fun h32 => ?_) (fun h32 => ?_)
 ·
  have hkl : k < l.length := by
    apply Classical.byContradiction; intro e; rw [dif_neg e] at h32; cases h32
  rw [dif_pos hkl] at h32
  rw [dif_pos hkl, if_pos (of_decide_eq_true h32)] at hins
  refine run_sq (run_pl [yy 0, yy 1] ?_)
  refine yM 33 0 ?_
  refine yA 4 33 ?_
  refine Sch.nil ?_
  refine rt1 Tryz.func56 Tryz.results56 ?_
  replace hT := (hT.t s_5).t s_8; replace hl := (hl.t s_5).t s_8
  exact ⟨hT.out1 (by decide), by rw [hins]; exact hl.out hT hF0 (Mc_col1 C)⟩
 have hin2 : insC l c = l.take k ++ c :: l.drop k := by
   rw [hins]
   by_cases hkl : k < l.length
   · rw [dif_pos hkl] at h32 ⊢; rw [if_neg (of_decide_eq_false h32)]
   rw [dif_neg hkl, List.take_of_length_le (by omega), List.drop_of_length_le (by omega)]
 refine run_sk (run_sq ?_)
 refine run_draw2 (id := 6) (ops := F56.o6) [5] (C1) [0, 1, 2, 4] 3 [nn 5, nn 6, yy 7] 5 [nn 3, nn 6, yy 7] Tryz_mixed (by kernel_rfl) (by kernel_rfl) (by kernel_rfl) ?_ ?_
 ·
  intro w10 s_9
  show Sch _ _ _ _ _ _ _ [yy 0, yy 1, yy 2, yy 4, nn 3, nn 5, nn 6, yy 7] _ _
  have hR := Stp.refl [5] w10 (C1)
  refine yM 34 0 ?_
  refine yM 35 5 ?_
  replace hl := ((hl.t s_5).t s_8).t s_9
  refine sTR (e' := 55) (kq 36 (.slice 52 (.tmp 34) none (some (.tmp 35)) none)) rfl rfl hl rfl (by kernel_rfl) rfl (by omega) (by omega) ?_
  intro v36 h36
  try simp only [Int.toNat_natCast] at h36
  replace hx := ((hx.t s_5).t s_8).t s_9
  refine yS (kq 38 (.load 55 (.tmp 3))) rfl rfl (fun w' hS => val_loadOwnAgg (n := 2) (vs := encR c) (hx.stay hS (by decide)) (by kernel_rfl) (by kernel_rfl) rfl rfl rfl) ?_
  replace hF := ((hF.st s_5).st s_8).st s_9
  refine aS (kq 37 (.call { callee := .builtin .append, args := #[(.const (.slice none 0 0)), (.tmp 36)], argTypes := #[52, 52] })) rfl rfl (a_append (e := 55) (bytes := 16) hF (by decide) rfl rfl (by kernel_rfl) (by decide) (OwnL.nil (α := Couple) (j := 5)) h36 (by simp only [List.length_append, List.length_take, List.length_nil, List.length_drop, List.length_cons]; omega) (by simp only [List.length_append, List.length_take, List.length_nil, List.length_drop, List.length_cons]; omega)) ?_
  rintro v37 w11 ⟨Cw11, s_10, hn, hF⟩
  refine ⟨(hR.trans s_10 (by simp)).ext, ?_⟩
  refine aS (kq 39 (.buildSlice 52 1 #[(0, (.tmp 38))])) rfl rfl (a_buildSlice (ys := ([c] : List Couple)) (e := 55) (bytes := 16) hF (by kernel_rfl) rfl (by decide) (by decide) ⟨rfl, ⟨_, rfl, rv_couple.2 rfl⟩, trivial⟩) ?_
  rintro v39 w12 ⟨s_11, g39, hF⟩
  replace hR := hR.t s_10
  refine ⟨(hR.trans s_11 (by simp)).ext, ?_⟩
  replace hn := hn.t s_11
  refine aS (kq 40 (.call { callee := .builtin .append, args := #[(.tmp 37), (.tmp 39)], argTypes := #[52, 52] })) rfl rfl (a_append (e := 55) (bytes := 16) hF (by decide) rfl rfl (by kernel_rfl) (by decide) hn g39 (by simp only [List.length_append, List.length_take, List.length_nil, List.length_drop, List.length_cons]; omega) (by simp only [List.length_append, List.length_take, List.length_nil, List.length_drop, List.length_cons]; omega)) ?_
  rintro v40 w13 ⟨Cw13, s_12, hn, hF⟩
  replace hR := hR.t s_11
  refine ⟨(hR.trans s_12 (by simp)).ext, ?_⟩
  refine yA 6 40 ?_
  refine Sch.nil (run_sq (run_pl [yy 0, yy 1, yy 2, yy 3, nn 4, yy 5] ?_))
  refine yM 41 6 ?_
  refine yM 42 0 ?_
  refine yM 43 5 ?_
  replace hl := ((hl.t s_10).t s_11).t s_12
  refine sFR (e' := 55) (kq 44 (.slice 52 (.tmp 42) (some (.tmp 43)) none none)) rfl rfl hl rfl (by kernel_rfl) rfl (by omega) (by omega) ?_
  intro v44 h44
  try simp only [Int.toNat_natCast] at h44
  refine aT (kq 45 (.call { callee := .builtin .append, args := #[(.tmp 41), (.tmp 44)], argTypes := #[52, 52] })) rfl rfl (a_append (e := 55) (bytes := 16) hF (by decide) rfl rfl (by kernel_rfl) (by decide) hn h44 (by simp only [List.length_append, List.length_take, List.length_nil, List.length_drop, List.length_cons]; omega) (by simp only [List.length_append, List.length_take, List.length_nil, List.length_drop, List.length_cons]; omega)) ?_
  rintro v45 w14 ⟨Cw14, s_13, hn, hF⟩
  refine yA 4 45 ?_
  refine Sch.nil ?_
  refine rt1 Tryz.func56 Tryz.results56 ?_
  have e : ([] ++ List.take k l ++ [c]) ++ List.drop k l = insC l c := by rw [hin2]; simp
  rw [e] at hn
  replace hT := ((((((hT.t s_5).t s_8).t s_9).t s_10).t s_11).t s_12).t s_13
  exact ⟨hT.out1 (by decide), hn.out hT hF0 (Mc_col1 C) (fun b _ => col1_lt C (by decide) b) (by have := insC_len c l; omega)⟩
 intro w15 s_14
 show Sch _ _ _ _ _ _ _ [yy 0, yy 1, yy 2, yy 4, nn 5, nn 3, nn 6, yy 7] _ _
 have hR := Stp.refl [5] w15 (C1)
 refine yM 34 0 ?_
 refine yM 35 5 ?_
 replace hl := ((hl.t s_5).t s_8).t s_14
 refine sTR (e' := 55) (kq 36 (.slice 52 (.tmp 34) none (some (.tmp 35)) none)) rfl rfl hl rfl (by kernel_rfl) rfl (by omega) (by omega) ?_
 intro v36 h36
 try simp only [Int.toNat_natCast] at h36
 replace hx := ((hx.t s_5).t s_8).t s_14
 refine yS (kq 38 (.load 55 (.tmp 3))) rfl rfl (fun w' hS => val_loadOwnAgg (n := 2) (vs := encR c) (hx.stay hS (by decide)) (by kernel_rfl) (by kernel_rfl) rfl rfl rfl) ?_
 replace hF := ((hF.st s_5).st s_8).st s_14
 refine aS (kq 39 (.buildSlice 52 1 #[(0, (.tmp 38))])) rfl rfl (a_buildSlice (ys := ([c] : List Couple)) (e := 55) (bytes := 16) hF (by kernel_rfl) rfl (by decide) (by decide) ⟨rfl, ⟨_, rfl, rv_couple.2 rfl⟩, trivial⟩) ?_
 rintro v39 w16 ⟨s_15, g39, hF⟩
 refine ⟨(hR.trans s_15 (by simp)).ext, ?_⟩
 replace h36 := h36.t s_15
 refine aS (kq 37 (.call { callee := .builtin .append, args := #[(.const (.slice none 0 0)), (.tmp 36)], argTypes := #[52, 52] })) rfl rfl (a_append (e := 55) (bytes := 16) hF (by decide) rfl rfl (by kernel_rfl) (by decide) (OwnL.nil (α := Couple) (j := 5)) h36 (by simp only [List.length_append, List.length_take, List.length_nil, List.length_drop, List.length_cons]; omega) (by simp only [List.length_append, List.length_take, List.length_nil, List.length_drop, List.length_cons]; omega)) ?_
 rintro v37 w17 ⟨Cw17, s_16, hn, hF⟩
 replace hR := hR.t s_15
 refine ⟨(hR.trans s_16 (by simp)).ext, ?_⟩
 replace g39 := g39.t s_16
 refine aS (kq 40 (.call { callee := .builtin .append, args := #[(.tmp 37), (.tmp 39)], argTypes := #[52, 52] })) rfl rfl (a_append (e := 55) (bytes := 16) hF (by decide) rfl rfl (by kernel_rfl) (by decide) hn g39 (by simp only [List.length_append, List.length_take, List.length_nil, List.length_drop, List.length_cons]; omega) (by simp only [List.length_append, List.length_take, List.length_nil, List.length_drop, List.length_cons]; omega)) ?_
 rintro v40 w18 ⟨Cw18, s_17, hn, hF⟩
 replace hR := hR.t s_16
 refine ⟨(hR.trans s_17 (by simp)).ext, ?_⟩
 refine yA 6 40 ?_
 refine Sch.nil (run_sq (run_pl [yy 0, yy 1, yy 2, yy 3, nn 4, yy 5] ?_))
 refine yM 41 6 ?_
 refine yM 42 0 ?_
 refine yM 43 5 ?_
 replace hl := ((hl.t s_15).t s_16).t s_17
 refine sFR (e' := 55) (kq 44 (.slice 52 (.tmp 42) (some (.tmp 43)) none none)) rfl rfl hl rfl (by kernel_rfl) rfl (by omega) (by omega) ?_
 intro v44 h44
 try simp only [Int.toNat_natCast] at h44
 refine aT (kq 45 (.call { callee := .builtin .append, args := #[(.tmp 41), (.tmp 44)], argTypes := #[52, 52] })) rfl rfl (a_append (e := 55) (bytes := 16) hF (by decide) rfl rfl (by kernel_rfl) (by decide) hn h44 (by simp only [List.length_append, List.length_take, List.length_nil, List.length_drop, List.length_cons]; omega) (by simp only [List.length_append, List.length_take, List.length_nil, List.length_drop, List.length_cons]; omega)) ?_
 rintro v45 w19 ⟨Cw19, s_18, hn, hF⟩
 refine yA 4 45 ?_
 refine Sch.nil ?_
 refine rt1 Tryz.func56 Tryz.results56 ?_
 have e : ([] ++ List.take k l ++ [c]) ++ List.drop k l = insC l c := by rw [hin2]; simp
 rw [e] at hn
 replace hT := ((((((hT.t s_5).t s_8).t s_14).t s_15).t s_16).t s_17).t s_18
 exact ⟨hT.out1 (by decide), hn.out hT hF0 (Mc_col1 C) (fun b _ => col1_lt C (by decide) b) (by have := insC_len c l; omega)⟩
namespace F25
def c0 := bodyOf Tryz.f25
def c8 := (cl (cr (cl (cr (cr c0)))))
def o5 := rops (cl (cl (cr (cl c8))))
end F25
theorem refRefs_ok {w₀ : World} {C : Nat → Nat} {l : List Bond} {vl : Value} (hF : Lim w₀ C) (hl : RV w₀ (Mc C) l vl) (hlen : l.length ≤ 100000) : Calls Tryz.prog 25 #[vl] w₀ (Ret fun v w' => Stp [] w₀ C w' C ∧ RV w' (Mc C) (refsS l) v) := by
 have hF0 := hF
 have hT := Stp.refl [2, 3, 4, 5, 6, 7, 8, 9] w₀ (col1 C)
 replace hF := hF.col1
 replace hl := hl.c1
 refine c_st F25.c0 25 [vl] Tryz.func25 ?_
 show Run _ _ _ _ [(0, vl)] _ _
 refine run_sq (run_pl [yy 0] ?_)
 refine yV (kq 2 (.assign (.const (.slice none 0 0)))) (fun _ => val_assign rfl) ?_
 refine Sch.nil (run_sq (run_pl [yy 0] ?_))
 refine yV (kq 3 (.assign (.const (.slice none 0 0)))) (fun _ => val_assign rfl) ?_
 refine Sch.nil (run_sq (run_sq (run_pl [yy 0] ?_)))
 refine yAc 4 (.int .i64 0) ?_
 refine Sch.nil (run_bk 0 ?_)
 refine run_lp (ι := Nat × Value × (Nat → Nat)) (I := fun x w => x.1 ≤ l.length ∧ Lim w x.2.2 ∧ Stp [2, 3, 4, 5, 6, 7, 8, 9] w₀ (col1 C) w x.2.2 ∧ RV w (Mc x.2.2) l vl ∧ RV w (Mc x.2.2) (refA (endsS (l.take x.1))) x.2.1) (e := fun x => [(0, vl), (3, x.2.1), (4, .int .i64 x.1)]) (m := fun x => l.length - x.1) (x₀ := (0, .slice none 0 0, col1 C)) (sr 0 (sr 3 (sr 4 (sub_nil _)))) ?_ ?_
 · exact ⟨Nat.zero_le _, hF, hT, hl, rv_nil⟩
 intro ⟨i, vo, C1⟩ w1 hI next1
 obtain ⟨hi, hF, hT, hl, ho⟩ := hI
 try simp only at hi hF hT hl ho
 show Run _ _ _ _ [(0, vl), (3, vo), (4, .int .i64 i)] _ _
 have hrl := refA_len (endsS (l.take i))
 rw [endsS_len, List.length_take] at hrl
 refine run_sq (run_sq (run_pl [yy 0, yy 1, yy 2, yy 3] ?_))
 refine yM 5 4 ?_
 refine yM 6 0 ?_
 refine yS (kq 7 (.call { callee := .builtin .len, args := #[(.tmp 6)], argTypes := #[23] })) rfl rfl (fun w' hS => hl.lenV rfl Tryz.underlying23 w' ) ?_
 refine yL 8 3 5 7 ?_
 refine Sch.nil ?_
 refine run_i 8 rfl (fun h8 => ?_) (fun h8 => ?_)
 ·
  have hil : i < l.length := by omega
  obtain ⟨os, hos⟩ : ∃ os, os = refA (endsS (l.take i)) := ⟨_, rfl⟩
  rw [← hos] at ho hrl
  have hil2 := insC_len l[i].A os
  refine run_sk (run_sq (run_bk 1 ?_))
  refine run_draw (id := 5) (ops := F25.o5) [] (C1) [yy 0, yy 1, yy 2, yy 3, yy 4, yy 5, yy 7, yy 8, yy 9, yy 10, yy 11, nn 6, nn 12, yy 13] Tryz_mixed (by kernel_rfl) (by kernel_rfl) (by kernel_rfl) ?_
  intro w2 s_1
  have hR := Stp.refl [] w2 (C1)
  refine yM 11 3 ?_
  refine yM 12 0 ?_
  refine yM 13 4 ?_
  replace hl := hl.t s_1
  refine iR 58 14 23 12 13 hl rfl (h := ?_)
  intro b14 o14 h14
  try simp only [Int.toNat_natCast] at h14
  have h15 := RA.bA h14
  refine yF 15 58 14 0 0 ?_
  refine lSA (kq 16 (.load 55 (.tmp 15))) rfl rfl (fun w' hS => h15.sy hS) h15 (by kernel_rfl) (by kernel_rfl) rfl rfl ?_
  intro v16 g16
  obtain rfl := rv_couple.1 g16
  refine yM 18 0 ?_
  refine yM 19 4 ?_
  refine iR 58 20 23 18 19 hl rfl (h := ?_)
  intro b20 o20 h20
  try simp only [Int.toNat_natCast] at h20
  have h21 := RA.bB h20
  refine yF 21 58 20 1 2 ?_
  refine lSA (kq 22 (.load 55 (.tmp 21))) rfl rfl (fun w' hS => h21.sy hS) h21 (by kernel_rfl) (by kernel_rfl) rfl rfl ?_
  intro v22 g22
  obtain rfl := rv_couple.1 g22
  replace hF := hF.st s_1; replace ho := ho.t s_1
  refine cF 17 56 [11, 16] [52, 55] Tryz.call56 rfl (put_ok (c := l[i].A) hF ho (by omega)) ?_
  rintro vq1 w3 ⟨s_2, hq1⟩
  refine ⟨(hR.trans s_2 (by simp)).ext, ?_⟩
  replace hF := hF.st s_2
  refine cF 23 56 [17, 22] [52, 55] Tryz.call56 rfl (put_ok (c := l[i].B) hF hq1 (by omega)) ?_
  rintro vq2 w4 ⟨s_3, hq2⟩
  replace hR := hR.t s_2
  refine ⟨(hR.trans s_3 (by simp)).ext, ?_⟩
  refine yA 3 23 ?_
  refine Sch.nil (run_inBlock (run_pl [yy 0, yy 1, yy 2] ?_))
  refine yM 9 4 ?_
  refine yI 10 3 9 1 ?_
  refine yA 4 10 ?_
  refine Sch.nil ?_
  replace hT := ((hT.t s_1).t s_2).t s_3; replace hl := (hl.t s_2).t s_3; replace hF := hF.st s_3
  refine kp (sr 0 (sr 3 (sub_cons 4 rfl (eq_int (by simp)) (sub_nil _)))) (next1 (i + 1, vq2, C1) _ ⟨(by first | omega | (simp only; omega)), hF, hT, hl, (by simp only; rw [refA_take2 hil, ← hos]; exact hq2)⟩ (by first | omega | (simp only; omega)))
 have hil : i = l.length := by omega
 subst hil
 rw [List.take_length, refA_ends] at ho
 refine run_ex 0 ?_
 refine run_sq (run_pl [yy 0, yy 1] ?_)
 refine yM 24 3 ?_
 refine yA 2 24 ?_
 refine Sch.nil ?_
 refine rt1 Tryz.func25 Tryz.results25 ?_
 exact ⟨hT.out1 (by decide), ho.out hT hF0 (Mc_col1 C)⟩
end
end Go.Proofs.YtmdhggfehknjjaaGreat
