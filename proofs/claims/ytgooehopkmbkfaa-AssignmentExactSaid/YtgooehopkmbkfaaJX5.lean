/- Steps through functions of the program. -/
import Derived.Test.YtgooehopkmbkfaaJX4
set_option linter.unusedVariables false
set_option linter.unusedSimpArgs false
set_option maxRecDepth 100000
set_option maxHeartbeats 4000000
namespace Go.Proofs.Ytgooehopkmbkfaa
open Go.K Go.K.Rep

theorem side_no {n : Int} : sideB n = false ↔ n < 0 ∨ 64 < n := by
  cases h : sideB n with
  | false => simp only [true_iff]; apply Classical.byContradiction; intro hn; have := sideB_iff.2 (show 0 ≤ n ∧ n ≤ 64 by omega); rw [h] at this; cases this
  | true => have := sideB_iff.1 h; simp only [Bool.true_eq_false, false_iff]; omega
theorem side_or {n m : Int} : (sideB n = false ∨ sideB m = false) ↔ (n < 0 ∨ 64 < n ∨ m < 0 ∨ 64 < m) := by rw [side_no, side_no]; omega
namespace F18
noncomputable def c0 := bodyOf Try.f18
noncomputable def c7 := (cl (cl (cr (cl (cr c0)))))
noncomputable def c14 := (cl (cr (cl (cr (cr c0)))))
noncomputable def c20 := (cl (cl (cr (cr (cr c0)))))
noncomputable def c21 := (cr (cl (cr (cr (cr c0)))))
noncomputable def c31 := (cl (cl (cr (cl (cl c21)))))
noncomputable def c38 := (cl (cl (cr (cl (cr c31)))))
noncomputable def c45 := (cl (cr (cl (cr (cr c31)))))
noncomputable def o13 := rops (cl (cr (cr (cr c31))))
noncomputable def c52 := (cl (cr (cr (cr (cr c31)))))
noncomputable def c58 := (cl (cr (cr (cr (cr c0)))))
end F18
/-- The reference's 'Check'. -/
theorem rcheck_ok {w₀ : World} {C : Nat → Nat} {n m : Int} {l : List K.Edge} {vl : Value} (hF : Lim w₀ C) (hl : RV w₀ (Mc C) l vl) : Calls Try.prog 18 #[.int .i64 n, .int .i64 m, vl] w₀ (Ret fun v w' => v = .int .i64 (chkE n m l) ∧ Stp [] w₀ C w' C) := by
 have hF0 := hF
 have hT := Stp.refl [2, 3, 4, 5, 6, 7, 8, 9] w₀ (col1 C)
 replace hF := hF.col1
 replace hl : RV w₀ (Mc (col1 C)) l vl := by rw [Mc_col1]; exact hl
 have hll := hl.le
 refine calls_start (c := F18.c0) (N := 100) [.int .i64 n, .int .i64 m, vl] Try.func18 (by kernel_rfl) (by kernel_rfl) (by kernel_rfl) ?_
 show Run _ _ _ _ [(0, .int .i64 n), (1, .int .i64 m), (2, vl)] _ _
 refine run_sq ?_
 refine run_pl [yy 0] ?_
 refine yAc 6 (.int .i64 0) ?_
 refine Sch.nil ?_
 refine run_sq ?_
 refine run_sq ?_
 refine run_cut 22 (decide (sideB n = false ∨ sideB m = false)) (col1 C) ?_ ?_
 ·
  intro hcut
  by_cases hA : n < 0
  ·
   refine run_pl [yy 0, yy 1, yy 2, yy 3, yy 4, yy 5, yy 6, yy 7, yy 8, yy 9, yy 10, yy 11, yy 12, yy 13] ?_
   refine yM 9 0 ?_
   refine yV (kq 10 (.binOp .lss 3 (.tmp 9) (.const (.int .i64 0)) 3)) (fun _ => val_T (val_lss rfl rfl) hA) ?_
   refine yM 11 10 ?_
   refine pX 12 2 false ?_
   refine pX 13 2 false ?_
   refine yOt 14 11 13 ?_
   refine yM 15 14 ?_
   refine pX 16 6 false ?_
   refine pX 17 6 false ?_
   refine yOt 18 15 17 ?_
   refine yM 19 18 ?_
   refine pX 20 10 false ?_
   refine pX 21 10 false ?_
   refine yOt 22 19 21 ?_
   exact Sch.nil (hcut _ _ _ (Stp.refl _ _ _) rfl (eq_bool (decide_eq_true (side_or.2 (by omega))).symm) (sk 14))
  ·
   by_cases hB : 64 < n
   ·
    refine run_pl [yy 0, yy 1, yy 2, yy 3, yy 4, yy 5, yy 6, yy 7, yy 8, yy 9, yy 10, yy 11, yy 12, yy 13] ?_
    refine yM 9 0 ?_
    refine yV (kq 10 (.binOp .lss 3 (.tmp 9) (.const (.int .i64 0)) 3)) (fun _ => val_F (val_lss rfl rfl) hA) ?_
    refine yM 11 10 ?_
    refine yMg 12 0 2 false ?_
    refine yV (kg 13 (.binOp .gtr 3 (.tmp 12) (.const (.int .i64 64)) 3) 2 false) (fun _ => val_T (val_gtr rfl rfl) hB) ?_
    refine yOf 14 11 13 ?_
    refine yM 15 14 ?_
    refine pX 16 6 false ?_
    refine pX 17 6 false ?_
    refine yOt 18 15 17 ?_
    refine yM 19 18 ?_
    refine pX 20 10 false ?_
    refine pX 21 10 false ?_
    refine yOt 22 19 21 ?_
    exact Sch.nil (hcut _ _ _ (Stp.refl _ _ _) rfl (eq_bool (decide_eq_true (side_or.2 (by omega))).symm) (sk 14))
   ·
    by_cases hC : m < 0
    ·
     refine run_pl [yy 0, yy 1, yy 2, yy 3, yy 4, yy 5, yy 6, yy 7, yy 8, yy 9, yy 10, yy 11, yy 12, yy 13] ?_
     refine yM 9 0 ?_
     refine yV (kq 10 (.binOp .lss 3 (.tmp 9) (.const (.int .i64 0)) 3)) (fun _ => val_F (val_lss rfl rfl) hA) ?_
     refine yM 11 10 ?_
     refine yMg 12 0 2 false ?_
     refine yV (kg 13 (.binOp .gtr 3 (.tmp 12) (.const (.int .i64 64)) 3) 2 false) (fun _ => val_F (val_gtr rfl rfl) hB) ?_
     refine yOf 14 11 13 ?_
     refine yM 15 14 ?_
     refine yMg 16 1 6 false ?_
     refine yV (kg 17 (.binOp .lss 3 (.tmp 16) (.const (.int .i64 0)) 3) 6 false) (fun _ => val_T (val_lss rfl rfl) hC) ?_
     refine yOf 18 15 17 ?_
     refine yM 19 18 ?_
     refine pX 20 10 false ?_
     refine pX 21 10 false ?_
     refine yOt 22 19 21 ?_
     exact Sch.nil (hcut _ _ _ (Stp.refl _ _ _) rfl (eq_bool (decide_eq_true (side_or.2 (by omega))).symm) (sk 14))
    ·
     refine run_pl [yy 0, yy 1, yy 2, yy 3, yy 4, yy 5, yy 6, yy 7, yy 8, yy 9, yy 10, yy 11, yy 12, yy 13] ?_
     refine yM 9 0 ?_
     refine yV (kq 10 (.binOp .lss 3 (.tmp 9) (.const (.int .i64 0)) 3)) (fun _ => val_F (val_lss rfl rfl) hA) ?_
     refine yM 11 10 ?_
     refine yMg 12 0 2 false ?_
     refine yV (kg 13 (.binOp .gtr 3 (.tmp 12) (.const (.int .i64 64)) 3) 2 false) (fun _ => val_F (val_gtr rfl rfl) hB) ?_
     refine yOf 14 11 13 ?_
     refine yM 15 14 ?_
     refine yMg 16 1 6 false ?_
     refine yV (kg 17 (.binOp .lss 3 (.tmp 16) (.const (.int .i64 0)) 3) 6 false) (fun _ => val_F (val_lss rfl rfl) hC) ?_
     refine yOf 18 15 17 ?_
     refine yM 19 18 ?_
     refine yMg 20 1 10 false ?_
     refine yV (kg 21 (.binOp .gtr 3 (.tmp 20) (.const (.int .i64 64)) 3) 10 false) (fun _ => val_gtr rfl rfl) ?_
     refine yOf 22 19 21 ?_
     exact Sch.nil (hcut _ _ _ (Stp.refl _ _ _) rfl (eq_bool (decide_eq_decide.2 (by rw [side_or]; omega))) (sk 14))
 intro w1 hs
 replace hF := hF.st hs
 replace hT := hT.t hs; replace hl := hl.t hs
 refine run_i 22 rfl (fun h22 => ?_) (fun h22 => ?_)
 ·
  refine run_sq ?_
  refine run_pl [yy 0] ?_
  refine yAc 6 (.int .i64 2) ?_
  refine Sch.nil ?_
  refine run_ret1 (by kernel_rfl) Try.func18 Try.results18 rfl ?_
  exact ⟨by rw [chkE_side h22], hT.out1 (by decide)⟩
 ·
  refine run_sk ?_
  refine run_sq ?_
  refine run_sq ?_
  refine run_pl [yy 0, yy 1, yy 2] ?_
  refine yM 23 2 ?_
  refine yS (kq 24 (.call { callee := .builtin .len, args := #[(.tmp 23)], argTypes := #[23] })) rfl rfl (fun w' hS => hl.lenV rfl Try.underlying23 w' ) ?_
  refine yV (kq 25 (.binOp .gtr 3 (.tmp 24) (.const (.int .i64 4096)) 3)) (fun _ => val_gtr rfl rfl) ?_
  refine Sch.nil ?_
  refine run_i 25 rfl (fun h25 => ?_) (fun h25 => ?_)
  ·
   refine run_sq ?_
   refine run_pl [yy 0] ?_
   refine yAc 6 (.int .i64 1) ?_
   refine Sch.nil ?_
   refine run_ret1 (by kernel_rfl) Try.func18 Try.results18 rfl ?_
   exact ⟨by rw [chkE_lim h22 (by omega)], hT.out1 (by decide)⟩
  ·
   have hlim : l.length ≤ 4096 := by omega
   refine run_sk ?_
   refine run_sq ?_
   refine run_sq ?_
   refine run_pl [yy 0] ?_
   refine yAc 7 (.int .i64 0) ?_
   refine Sch.nil ?_
   refine run_bk 0 ?_
   
   refine run_lp (ι := Nat × (Nat → Nat)) (I := fun x w => x.1 ≤ l.length ∧ (∀ q, q < x.1 → errE n m l q = 0) ∧ Lim w x.2 ∧ Stp [2, 3, 4, 5, 6, 7, 8, 9] w₀ (col1 C) w x.2 ∧ RV w (Mc x.2) l vl) (e := fun x => [(0, .int .i64 n), (1, .int .i64 m), (2, vl), (7, .int .i64 x.1)]) (m := fun x => l.length - x.1) (x₀ := (0, col1 C)) (sr 0 (sr 1 (sr 2 (sr 7 (sub_nil _))))) ?_ ?_
   · exact ⟨Nat.zero_le _, (fun q hq => by simp only at hq; omega), hF, hT, hl⟩
   intro ⟨i, C1⟩ w2 hI next
   obtain ⟨hi, h0, hF, hT, hl⟩ := hI
   try simp only at hi h0 hF hT hl
   have next1 := next
   clear next
   show Run _ _ _ _ [(0, .int .i64 n), (1, .int .i64 m), (2, vl), (7, .int .i64 i)] _ _
   refine run_sq ?_
   refine run_sq ?_
   refine run_pl [yy 0, yy 1, yy 2, yy 3] ?_
   refine yM 26 7 ?_
   refine yM 27 2 ?_
   refine yS (kq 28 (.call { callee := .builtin .len, args := #[(.tmp 27)], argTypes := #[23] })) rfl rfl (fun w' hS => hl.lenV rfl Try.underlying23 w' ) ?_
   refine yV (kq 29 (.binOp .lss 3 (.tmp 26) (.tmp 28) 3)) (fun _ => val_lss rfl rfl) ?_
   refine Sch.nil ?_
   refine run_i 29 rfl (fun h29 => ?_) (fun h29 => ?_)
   ·
    have hil : i < l.length := by omega
    have hev := errE_val (n := n) (m := m) hil
    refine run_sk ?_
    refine run_sq ?_
    refine run_bk 1 ?_
    refine run_sq ?_
    refine run_pl [yy 0, yy 1, yy 2, nn 3, nn 4, nn 5] ?_
    refine yM 32 2 ?_
    refine yM 33 7 ?_
    refine iS (e := 46) (kq 34 (.indexAddr 23 (.tmp 32) (.tmp 33))) rfl rfl hl rfl (by kernel_rfl) rfl (by omega) (by omega) ?_
    intro b34 o34 h34
    try simp only [Int.toNat_natCast] at h34
    refine lNA (kq 35 (.load 46 (.tmp 34))) rfl rfl trivial h34 (by kernel_rfl) (by kernel_rfl) rfl rfl ?_
    intro v35 g35
    obtain rfl := rv_edge.1 g35
    refine aS (kq 8 (.alloc 46)) rfl rfl (a_alloc (cs := [.int .i64 0, .int .i64 0, .int .i64 0]) hF 3 (by kernel_rfl)) ?_
    rintro _ w3 ⟨Cw3, bw3, rfl, hs, hx, hF⟩
    refine ⟨trivial, ?_⟩
    replace hT := hT.t hs; replace hl := hl.t hs; replace h34 := h34.t hs
    refine aN (k0 (.store 46 (.tmp 8) (.tmp 35))) rfl (a_storeAll (vs := [.int .i64 l[i].a, .int .i64 l[i].b, .int .i64 l[i].w]) (n := 3) rfl rfl (by kernel_rfl) rfl rfl (by intro u hu; simp only [List.mem_cons, List.not_mem_nil, or_false] at hu; rcases hu with rfl | rfl | rfl <;> rfl) hx rfl) ?_
    rintro _ w4 ⟨rfl, hs, hx⟩
    refine ⟨trivial, ?_⟩
    replace hF := hF.st hs
    replace hT := hT.t hs; replace hl := hl.t hs; replace h34 := h34.t hs
    refine Sch.nil ?_
    refine run_sq ?_
    refine run_sq ?_
    refine run_cut 55 (decide (l[i].a < 0 ∨ n ≤ l[i].a ∨ l[i].b < 0 ∨ m ≤ l[i].b)) (Cw3) ?_ ?_
    ·
     intro hcut
     by_cases hA : l[i].a < 0
     ·
      refine run_pl [yy 0, nn 1, yy 2, yy 3, yy 4, nn 5, yy 6, yy 7, yy 8, yy 9, yy 10, nn 11, yy 12, yy 13, yy 14, yy 15, nn 16, yy 17, yy 18, yy 19] ?_
      refine yF 36 46 8 0 0 ?_
      refine nS (kq 37 (.load 3 (.tmp 36))) rfl rfl trivial (val_loadOwn hx.at_ (by kernel_rfl) rfl rfl) ?_
      refine yV (kq 38 (.binOp .lss 3 (.tmp 37) (.const (.int .i64 0)) 3)) (fun _ => val_T (val_lss rfl rfl) hA) ?_
      refine yM 39 38 ?_
      refine pX 40 3 false ?_
      refine pW (kg 41 (.load 3 (.tmp 40)) 3 false) rfl rfl trivial ?_
      refine pX 42 3 false ?_
      refine pX 43 3 false ?_
      refine yOt 44 39 43 ?_
      refine yM 45 44 ?_
      refine pX 46 9 false ?_
      refine pW (kg 47 (.load 3 (.tmp 46)) 9 false) rfl rfl trivial ?_
      refine pX 48 9 false ?_
      refine yOt 49 45 48 ?_
      refine yM 50 49 ?_
      refine pX 51 14 false ?_
      refine pW (kg 52 (.load 3 (.tmp 51)) 14 false) rfl rfl trivial ?_
      refine pX 53 14 false ?_
      refine pX 54 14 false ?_
      refine yOt 55 50 54 ?_
      exact Sch.nil (hcut _ _ _ (Stp.refl _ _ _) rfl (eq_bool (decide_eq_true (by omega)).symm) (sk 20))
     ·
      by_cases hB : n ≤ l[i].a
      ·
       refine run_pl [yy 0, nn 1, yy 2, yy 3, yy 4, nn 5, yy 6, yy 7, yy 8, yy 9, yy 10, nn 11, yy 12, yy 13, yy 14, yy 15, nn 16, yy 17, yy 18, yy 19] ?_
       refine yF 36 46 8 0 0 ?_
       refine nS (kq 37 (.load 3 (.tmp 36))) rfl rfl trivial (val_loadOwn hx.at_ (by kernel_rfl) rfl rfl) ?_
       refine yV (kq 38 (.binOp .lss 3 (.tmp 37) (.const (.int .i64 0)) 3)) (fun _ => val_F (val_lss rfl rfl) hA) ?_
       refine yM 39 38 ?_
       refine yFg 40 46 8 0 0 3 false ?_
       refine nS (kg 41 (.load 3 (.tmp 40)) 3 false) rfl rfl trivial (val_loadOwn hx.at_ (by kernel_rfl) rfl rfl) ?_
       refine yMg 42 0 3 false ?_
       refine yV (kg 43 (.binOp .geq 3 (.tmp 41) (.tmp 42) 3) 3 false) (fun _ => val_T (val_geq rfl rfl) hB) ?_
       refine yOf 44 39 43 ?_
       refine yM 45 44 ?_
       refine pX 46 9 false ?_
       refine pW (kg 47 (.load 3 (.tmp 46)) 9 false) rfl rfl trivial ?_
       refine pX 48 9 false ?_
       refine yOt 49 45 48 ?_
       refine yM 50 49 ?_
       refine pX 51 14 false ?_
       refine pW (kg 52 (.load 3 (.tmp 51)) 14 false) rfl rfl trivial ?_
       refine pX 53 14 false ?_
       refine pX 54 14 false ?_
       refine yOt 55 50 54 ?_
       exact Sch.nil (hcut _ _ _ (Stp.refl _ _ _) rfl (eq_bool (decide_eq_true (by omega)).symm) (sk 20))
      ·
       by_cases hC : l[i].b < 0
       ·
        refine run_pl [yy 0, nn 1, yy 2, yy 3, yy 4, nn 5, yy 6, yy 7, yy 8, yy 9, yy 10, nn 11, yy 12, yy 13, yy 14, yy 15, nn 16, yy 17, yy 18, yy 19] ?_
        refine yF 36 46 8 0 0 ?_
        refine nS (kq 37 (.load 3 (.tmp 36))) rfl rfl trivial (val_loadOwn hx.at_ (by kernel_rfl) rfl rfl) ?_
        refine yV (kq 38 (.binOp .lss 3 (.tmp 37) (.const (.int .i64 0)) 3)) (fun _ => val_F (val_lss rfl rfl) hA) ?_
        refine yM 39 38 ?_
        refine yFg 40 46 8 0 0 3 false ?_
        refine nS (kg 41 (.load 3 (.tmp 40)) 3 false) rfl rfl trivial (val_loadOwn hx.at_ (by kernel_rfl) rfl rfl) ?_
        refine yMg 42 0 3 false ?_
        refine yV (kg 43 (.binOp .geq 3 (.tmp 41) (.tmp 42) 3) 3 false) (fun _ => val_F (val_geq rfl rfl) hB) ?_
        refine yOf 44 39 43 ?_
        refine yM 45 44 ?_
        refine yFg 46 46 8 1 1 9 false ?_
        refine nS (kg 47 (.load 3 (.tmp 46)) 9 false) rfl rfl trivial (val_loadOwn hx.at_ (by kernel_rfl) rfl rfl) ?_
        refine yV (kg 48 (.binOp .lss 3 (.tmp 47) (.const (.int .i64 0)) 3) 9 false) (fun _ => val_T (val_lss rfl rfl) hC) ?_
        refine yOf 49 45 48 ?_
        refine yM 50 49 ?_
        refine pX 51 14 false ?_
        refine pW (kg 52 (.load 3 (.tmp 51)) 14 false) rfl rfl trivial ?_
        refine pX 53 14 false ?_
        refine pX 54 14 false ?_
        refine yOt 55 50 54 ?_
        exact Sch.nil (hcut _ _ _ (Stp.refl _ _ _) rfl (eq_bool (decide_eq_true (by omega)).symm) (sk 20))
       ·
        refine run_pl [yy 0, nn 1, yy 2, yy 3, yy 4, nn 5, yy 6, yy 7, yy 8, yy 9, yy 10, nn 11, yy 12, yy 13, yy 14, yy 15, nn 16, yy 17, yy 18, yy 19] ?_
        refine yF 36 46 8 0 0 ?_
        refine nS (kq 37 (.load 3 (.tmp 36))) rfl rfl trivial (val_loadOwn hx.at_ (by kernel_rfl) rfl rfl) ?_
        refine yV (kq 38 (.binOp .lss 3 (.tmp 37) (.const (.int .i64 0)) 3)) (fun _ => val_F (val_lss rfl rfl) hA) ?_
        refine yM 39 38 ?_
        refine yFg 40 46 8 0 0 3 false ?_
        refine nS (kg 41 (.load 3 (.tmp 40)) 3 false) rfl rfl trivial (val_loadOwn hx.at_ (by kernel_rfl) rfl rfl) ?_
        refine yMg 42 0 3 false ?_
        refine yV (kg 43 (.binOp .geq 3 (.tmp 41) (.tmp 42) 3) 3 false) (fun _ => val_F (val_geq rfl rfl) hB) ?_
        refine yOf 44 39 43 ?_
        refine yM 45 44 ?_
        refine yFg 46 46 8 1 1 9 false ?_
        refine nS (kg 47 (.load 3 (.tmp 46)) 9 false) rfl rfl trivial (val_loadOwn hx.at_ (by kernel_rfl) rfl rfl) ?_
        refine yV (kg 48 (.binOp .lss 3 (.tmp 47) (.const (.int .i64 0)) 3) 9 false) (fun _ => val_F (val_lss rfl rfl) hC) ?_
        refine yOf 49 45 48 ?_
        refine yM 50 49 ?_
        refine yFg 51 46 8 1 1 14 false ?_
        refine nS (kg 52 (.load 3 (.tmp 51)) 14 false) rfl rfl trivial (val_loadOwn hx.at_ (by kernel_rfl) rfl rfl) ?_
        refine yMg 53 1 14 false ?_
        refine yV (kg 54 (.binOp .geq 3 (.tmp 52) (.tmp 53) 3) 14 false) (fun _ => val_geq rfl rfl) ?_
        refine yOf 55 50 54 ?_
        exact Sch.nil (hcut _ _ _ (Stp.refl _ _ _) rfl (eq_bool (decide_eq_decide.2 (by omega))) (sk 20))
    intro w5 hs
    replace hF := hF.st hs
    replace hT := hT.t hs; replace hl := hl.t hs; replace h34 := h34.t hs; replace hx := hx.t hs
    refine run_i 55 rfl (fun h55 => ?_) (fun h55 => ?_)
    ·
     rw [if_pos h55] at hev
     refine run_sq ?_
     refine run_pl [yy 0] ?_
     refine yAc 6 (.int .i64 43) ?_
     refine Sch.nil ?_
     refine run_ret1 (by kernel_rfl) Try.func18 Try.results18 rfl ?_
     exact ⟨by rw [chkE_at h22 hlim hil h0 (by rw [hev]; decide), hev], hT.out1 (by decide)⟩
    ·
     rw [if_neg h55] at hev
     refine run_sk ?_
     refine run_sq ?_
     refine run_sq ?_
     refine run_cut 63 (decide (l[i].w < -65536 ∨ 65536 < l[i].w)) (Cw3) ?_ ?_
     ·
      intro hcut
      by_cases hA : l[i].w < -65536
      ·
       refine run_pl [yy 0, nn 1, yy 2, yy 3, yy 4, nn 5, yy 6, yy 7] ?_
       refine yF 56 46 8 2 2 ?_
       refine nS (kq 57 (.load 3 (.tmp 56))) rfl rfl trivial (val_loadOwn hx.at_ (by kernel_rfl) rfl rfl) ?_
       refine yV (kq 58 (.binOp .lss 3 (.tmp 57) (.const (.int .i64 (-65536))) 3)) (fun _ => val_T (val_lss rfl rfl) hA) ?_
       refine yM 59 58 ?_
       refine pX 60 3 false ?_
       refine pW (kg 61 (.load 3 (.tmp 60)) 3 false) rfl rfl trivial ?_
       refine pX 62 3 false ?_
       refine yOt 63 59 62 ?_
       exact Sch.nil (hcut _ _ _ (Stp.refl _ _ _) rfl (eq_bool (decide_eq_true (by omega)).symm) (sk 8))
      ·
       refine run_pl [yy 0, nn 1, yy 2, yy 3, yy 4, nn 5, yy 6, yy 7] ?_
       refine yF 56 46 8 2 2 ?_
       refine nS (kq 57 (.load 3 (.tmp 56))) rfl rfl trivial (val_loadOwn hx.at_ (by kernel_rfl) rfl rfl) ?_
       refine yV (kq 58 (.binOp .lss 3 (.tmp 57) (.const (.int .i64 (-65536))) 3)) (fun _ => val_F (val_lss rfl rfl) hA) ?_
       refine yM 59 58 ?_
       refine yFg 60 46 8 2 2 3 false ?_
       refine nS (kg 61 (.load 3 (.tmp 60)) 3 false) rfl rfl trivial (val_loadOwn hx.at_ (by kernel_rfl) rfl rfl) ?_
       refine yV (kg 62 (.binOp .gtr 3 (.tmp 61) (.const (.int .i64 65536)) 3) 3 false) (fun _ => val_gtr rfl rfl) ?_
       refine yOf 63 59 62 ?_
       exact Sch.nil (hcut _ _ _ (Stp.refl _ _ _) rfl (eq_bool (decide_eq_decide.2 (by omega))) (sk 8))
     intro w6 hs
     replace hF := hF.st hs
     replace hT := hT.t hs; replace hl := hl.t hs; replace h34 := h34.t hs; replace hx := hx.t hs
     refine run_i 63 rfl (fun h63 => ?_) (fun h63 => ?_)
     ·
      rw [if_pos h63] at hev
      refine run_sq ?_
      refine run_pl [yy 0] ?_
      refine yAc 6 (.int .i64 40) ?_
      refine Sch.nil ?_
      refine run_ret1 (by kernel_rfl) Try.func18 Try.results18 rfl ?_
      exact ⟨by rw [chkE_at h22 hlim hil h0 (by rw [hev]; decide), hev], hT.out1 (by decide)⟩
     ·
      rw [if_neg h63] at hev
      refine run_sk ?_
      refine run_sq ?_
      refine run_cut 99 (decide (0 < i ∧ ¬ ltP (l[i - 1]'(by omega)).k l[i].k)) (Cw3) ?_ ?_
      ·
       intro hcut
       by_cases hA : (0 : Int) < i
       ·
        by_cases hB : (l[i - 1]'(by omega)).a < l[i].a
        ·
         refine run_draw (id := 13) (ops := F18.o13) [] (Cw3) [yy 0, yy 1, yy 2, yy 3, yy 4, yy 5, yy 6, yy 7, yy 8, yy 9, yy 10, yy 11, yy 12, yy 13, yy 14, yy 15, yy 16, yy 17, yy 18, yy 19, yy 20, yy 21, yy 22, yy 23, yy 24, yy 25, yy 26, yy 27, yy 28, yy 29, yy 30, yy 31, yy 32, yy 33, yy 34, yy 35] Try_mixed (by kernel_rfl) (by kernel_rfl) (by kernel_rfl) ?_
         intro w7 hs
         replace hF := hF.st hs
         replace hT := hT.t hs; replace hl := hl.t hs; replace h34 := h34.t hs; replace hx := hx.t hs
         have hcs := hs
         refine yM 64 7 ?_
         refine yV (kq 65 (.binOp .gtr 3 (.tmp 64) (.const (.int .i64 0)) 3)) (fun _ => val_T (val_gtr rfl rfl) hA) ?_
         refine yM 66 65 ?_
         refine yMg 67 2 2 true ?_
         refine yMg 68 7 2 true ?_
         refine yV (kg 69 (.binOp .sub 3 (.tmp 68) (.const (.int .i64 1)) 3) 2 true) (fun _ => val_subi rfl rfl (by omega) (by omega)) ?_
         refine iS (e := 46) (kg 70 (.indexAddr 23 (.tmp 67) (.tmp 69)) 2 true) rfl rfl hl rfl (by kernel_rfl) rfl (by omega) (by omega) ?_
         intro b70 o70 h70
         try simp only [Int.toNat_natCast] at h70
         simp only [show ((i : Int) - 1).toNat = i - 1 from by omega] at h70
         have h71 := RA.ea h70
         refine yFg 71 46 70 0 0 2 true ?_
         refine lS (kg 72 (.load 3 (.tmp 71)) 2 true) rfl rfl (fun w' hS => h71.sy hS) h71 (by kernel_rfl) rfl rfl ?_
         intro v72 g72
         first | (obtain rfl := rv_nat.1 g72) | (obtain rfl := rv_int.1 g72)
         refine yFg 73 46 8 0 0 2 true ?_
         refine yS (kg 74 (.load 3 (.tmp 73)) 2 true) rfl rfl (fun w' hS => val_loadOwn (hx.sy hS) (by kernel_rfl) rfl rfl) ?_
         refine yV (kg 75 (.binOp .lss 3 (.tmp 72) (.tmp 74) 3) 2 true) (fun _ => val_T (val_lss rfl rfl) hB) ?_
         refine yMg 76 75 2 true ?_
         refine pX 77 12 false ?_
         refine pX 78 12 false ?_
         refine pX 79 12 false ?_
         refine pX 80 12 false ?_
         refine pX 81 12 false ?_
         refine pX 82 12 false ?_
         refine pX 83 12 false ?_
         refine pX 84 12 false ?_
         refine pX 85 12 false ?_
         refine pX 86 12 false ?_
         refine pX 87 22 true ?_
         refine pX 88 22 true ?_
         refine pX 89 22 true ?_
         refine pX 90 22 true ?_
         refine pX 91 22 true ?_
         refine pX 92 22 true ?_
         refine pX 93 22 true ?_
         refine pX 94 22 true ?_
         refine pX 95 22 true ?_
         refine pX 96 12 false ?_
         refine yV (kg 97 (.pick (.tmp 76) (.const (.bool true)) (.tmp 96)) 2 true) (fun _ => val_pick_t rfl rfl) ?_
         refine yV (kg 98 (.unOp .not 4 (.tmp 97)) 2 true) (fun _ => val_not rfl) ?_
         refine yAt 99 66 98 ?_
         exact Sch.nil (hcut _ _ _ hcs rfl (eq_bool (decide_eq_false (fun e => e.2 (Or.inl hB))).symm) (sk 36))
        ·
         by_cases hC : (l[i - 1]'(by omega)).a = l[i].a
         ·
          refine run_draw (id := 13) (ops := F18.o13) [] (Cw3) [yy 0, yy 1, yy 2, yy 3, yy 4, yy 5, yy 6, yy 7, yy 8, yy 9, yy 10, yy 11, yy 12, yy 13, yy 14, yy 15, yy 16, yy 17, yy 18, yy 19, yy 20, yy 21, yy 22, yy 23, yy 24, yy 25, yy 26, yy 27, yy 28, yy 29, yy 30, yy 31, yy 32, yy 33, yy 34, yy 35] Try_mixed (by kernel_rfl) (by kernel_rfl) (by kernel_rfl) ?_
          intro w8 hs
          replace hF := hF.st hs
          replace hT := hT.t hs; replace hl := hl.t hs; replace h34 := h34.t hs; replace hx := hx.t hs
          have hcs := hs
          refine yM 64 7 ?_
          refine yV (kq 65 (.binOp .gtr 3 (.tmp 64) (.const (.int .i64 0)) 3)) (fun _ => val_T (val_gtr rfl rfl) hA) ?_
          refine yM 66 65 ?_
          refine yMg 67 2 2 true ?_
          refine yMg 68 7 2 true ?_
          refine yV (kg 69 (.binOp .sub 3 (.tmp 68) (.const (.int .i64 1)) 3) 2 true) (fun _ => val_subi rfl rfl (by omega) (by omega)) ?_
          refine iS (e := 46) (kg 70 (.indexAddr 23 (.tmp 67) (.tmp 69)) 2 true) rfl rfl hl rfl (by kernel_rfl) rfl (by omega) (by omega) ?_
          intro b70 o70 h70
          try simp only [Int.toNat_natCast] at h70
          simp only [show ((i : Int) - 1).toNat = i - 1 from by omega] at h70
          have h71 := RA.ea h70
          refine yFg 71 46 70 0 0 2 true ?_
          refine lS (kg 72 (.load 3 (.tmp 71)) 2 true) rfl rfl (fun w' hS => h71.sy hS) h71 (by kernel_rfl) rfl rfl ?_
          intro v72 g72
          first | (obtain rfl := rv_nat.1 g72) | (obtain rfl := rv_int.1 g72)
          refine yFg 73 46 8 0 0 2 true ?_
          refine yS (kg 74 (.load 3 (.tmp 73)) 2 true) rfl rfl (fun w' hS => val_loadOwn (hx.sy hS) (by kernel_rfl) rfl rfl) ?_
          refine yV (kg 75 (.binOp .lss 3 (.tmp 72) (.tmp 74) 3) 2 true) (fun _ => val_F (val_lss rfl rfl) hB) ?_
          refine yMg 76 75 2 true ?_
          refine yMg 77 2 12 false ?_
          refine yMg 78 7 12 false ?_
          refine yV (kg 79 (.binOp .sub 3 (.tmp 78) (.const (.int .i64 1)) 3) 12 false) (fun _ => val_subi rfl rfl (by omega) (by omega)) ?_
          refine iS (e := 46) (kg 80 (.indexAddr 23 (.tmp 77) (.tmp 79)) 12 false) rfl rfl hl rfl (by kernel_rfl) rfl (by omega) (by omega) ?_
          intro b80 o80 h80
          try simp only [Int.toNat_natCast] at h80
          simp only [show ((i : Int) - 1).toNat = i - 1 from by omega] at h80
          have h81 := RA.ea h80
          refine yFg 81 46 80 0 0 12 false ?_
          refine lS (kg 82 (.load 3 (.tmp 81)) 12 false) rfl rfl (fun w' hS => h81.sy hS) h81 (by kernel_rfl) rfl rfl ?_
          intro v82 g82
          first | (obtain rfl := rv_nat.1 g82) | (obtain rfl := rv_int.1 g82)
          refine yFg 83 46 8 0 0 12 false ?_
          refine yS (kg 84 (.load 3 (.tmp 83)) 12 false) rfl rfl (fun w' hS => val_loadOwn (hx.sy hS) (by kernel_rfl) rfl rfl) ?_
          refine yV (kg 85 (.binOp .eql 3 (.tmp 82) (.tmp 84) 3) 12 false) (fun _ => val_T (val_eql rfl rfl) hC) ?_
          refine yMg 86 85 12 false ?_
          refine yMg 87 2 22 true ?_
          refine yMg 88 7 22 true ?_
          refine yV (kg 89 (.binOp .sub 3 (.tmp 88) (.const (.int .i64 1)) 3) 22 true) (fun _ => val_subi rfl rfl (by omega) (by omega)) ?_
          refine iS (e := 46) (kg 90 (.indexAddr 23 (.tmp 87) (.tmp 89)) 22 true) rfl rfl hl rfl (by kernel_rfl) rfl (by omega) (by omega) ?_
          intro b90 o90 h90
          try simp only [Int.toNat_natCast] at h90
          simp only [show ((i : Int) - 1).toNat = i - 1 from by omega] at h90
          have h91 := RA.eb h90
          refine yFg 91 46 90 1 1 22 true ?_
          refine lS (kg 92 (.load 3 (.tmp 91)) 22 true) rfl rfl (fun w' hS => h91.sy hS) h91 (by kernel_rfl) rfl rfl ?_
          intro v92 g92
          first | (obtain rfl := rv_nat.1 g92) | (obtain rfl := rv_int.1 g92)
          refine yFg 93 46 8 1 1 22 true ?_
          refine yS (kg 94 (.load 3 (.tmp 93)) 22 true) rfl rfl (fun w' hS => val_loadOwn (hx.sy hS) (by kernel_rfl) rfl rfl) ?_
          refine yV (kg 95 (.binOp .lss 3 (.tmp 92) (.tmp 94) 3) 22 true) (fun _ => val_lss rfl rfl) ?_
          refine yV (kg 96 (.pick (.tmp 86) (.tmp 95) (.const (.bool false))) 12 false) (fun _ => val_pick_t rfl rfl) ?_
          refine yV (kg 97 (.pick (.tmp 76) (.const (.bool true)) (.tmp 96)) 2 true) (fun _ => val_pick_f rfl rfl) ?_
          refine yV (kg 98 (.unOp .not 4 (.tmp 97)) 2 true) (fun _ => val_notd rfl) ?_
          refine yAt 99 66 98 ?_
          exact Sch.nil (hcut _ _ _ hcs rfl (eq_bool (decide_eq_decide.2 ⟨fun e => ⟨by omega, fun q => q.elim (fun q => hB q) (fun q => e q.2)⟩, fun e q => e.2 (Or.inr ⟨hC, q⟩)⟩)) (sk 36))
         ·
          refine run_draw (id := 13) (ops := F18.o13) [] (Cw3) [yy 0, yy 1, yy 2, yy 3, yy 4, yy 5, yy 6, yy 7, yy 8, yy 9, yy 10, yy 11, yy 12, yy 13, yy 14, yy 15, yy 16, yy 17, yy 18, yy 19, yy 20, yy 21, yy 22, yy 23, yy 24, yy 25, yy 26, yy 27, yy 28, yy 29, yy 30, yy 31, yy 32, yy 33, yy 34, yy 35] Try_mixed (by kernel_rfl) (by kernel_rfl) (by kernel_rfl) ?_
          intro w9 hs
          replace hF := hF.st hs
          replace hT := hT.t hs; replace hl := hl.t hs; replace h34 := h34.t hs; replace hx := hx.t hs
          have hcs := hs
          refine yM 64 7 ?_
          refine yV (kq 65 (.binOp .gtr 3 (.tmp 64) (.const (.int .i64 0)) 3)) (fun _ => val_T (val_gtr rfl rfl) hA) ?_
          refine yM 66 65 ?_
          refine yMg 67 2 2 true ?_
          refine yMg 68 7 2 true ?_
          refine yV (kg 69 (.binOp .sub 3 (.tmp 68) (.const (.int .i64 1)) 3) 2 true) (fun _ => val_subi rfl rfl (by omega) (by omega)) ?_
          refine iS (e := 46) (kg 70 (.indexAddr 23 (.tmp 67) (.tmp 69)) 2 true) rfl rfl hl rfl (by kernel_rfl) rfl (by omega) (by omega) ?_
          intro b70 o70 h70
          try simp only [Int.toNat_natCast] at h70
          simp only [show ((i : Int) - 1).toNat = i - 1 from by omega] at h70
          have h71 := RA.ea h70
          refine yFg 71 46 70 0 0 2 true ?_
          refine lS (kg 72 (.load 3 (.tmp 71)) 2 true) rfl rfl (fun w' hS => h71.sy hS) h71 (by kernel_rfl) rfl rfl ?_
          intro v72 g72
          first | (obtain rfl := rv_nat.1 g72) | (obtain rfl := rv_int.1 g72)
          refine yFg 73 46 8 0 0 2 true ?_
          refine yS (kg 74 (.load 3 (.tmp 73)) 2 true) rfl rfl (fun w' hS => val_loadOwn (hx.sy hS) (by kernel_rfl) rfl rfl) ?_
          refine yV (kg 75 (.binOp .lss 3 (.tmp 72) (.tmp 74) 3) 2 true) (fun _ => val_F (val_lss rfl rfl) hB) ?_
          refine yMg 76 75 2 true ?_
          refine yMg 77 2 12 false ?_
          refine yMg 78 7 12 false ?_
          refine yV (kg 79 (.binOp .sub 3 (.tmp 78) (.const (.int .i64 1)) 3) 12 false) (fun _ => val_subi rfl rfl (by omega) (by omega)) ?_
          refine iS (e := 46) (kg 80 (.indexAddr 23 (.tmp 77) (.tmp 79)) 12 false) rfl rfl hl rfl (by kernel_rfl) rfl (by omega) (by omega) ?_
          intro b80 o80 h80
          try simp only [Int.toNat_natCast] at h80
          simp only [show ((i : Int) - 1).toNat = i - 1 from by omega] at h80
          have h81 := RA.ea h80
          refine yFg 81 46 80 0 0 12 false ?_
          refine lS (kg 82 (.load 3 (.tmp 81)) 12 false) rfl rfl (fun w' hS => h81.sy hS) h81 (by kernel_rfl) rfl rfl ?_
          intro v82 g82
          first | (obtain rfl := rv_nat.1 g82) | (obtain rfl := rv_int.1 g82)
          refine yFg 83 46 8 0 0 12 false ?_
          refine yS (kg 84 (.load 3 (.tmp 83)) 12 false) rfl rfl (fun w' hS => val_loadOwn (hx.sy hS) (by kernel_rfl) rfl rfl) ?_
          refine yV (kg 85 (.binOp .eql 3 (.tmp 82) (.tmp 84) 3) 12 false) (fun _ => val_F (val_eql rfl rfl) hC) ?_
          refine yMg 86 85 12 false ?_
          refine pX 87 22 true ?_
          refine pX 88 22 true ?_
          refine pX 89 22 true ?_
          refine pX 90 22 true ?_
          refine pX 91 22 true ?_
          refine pX 92 22 true ?_
          refine pX 93 22 true ?_
          refine pX 94 22 true ?_
          refine pX 95 22 true ?_
          refine yV (kg 96 (.pick (.tmp 86) (.tmp 95) (.const (.bool false))) 12 false) (fun _ => val_pick_f rfl rfl) ?_
          refine yV (kg 97 (.pick (.tmp 76) (.const (.bool true)) (.tmp 96)) 2 true) (fun _ => val_pick_f rfl rfl) ?_
          refine yV (kg 98 (.unOp .not 4 (.tmp 97)) 2 true) (fun _ => val_not rfl) ?_
          refine yAt 99 66 98 ?_
          exact Sch.nil (hcut _ _ _ hcs rfl (eq_bool (decide_eq_true ⟨by omega, fun q => q.elim (fun q => hB q) (fun q => hC q.1)⟩).symm) (sk 36))
       ·
        refine run_draw (id := 13) (ops := F18.o13) [] (Cw3) [yy 0, yy 1, yy 2, yy 3, yy 4, yy 5, yy 6, yy 7, yy 8, yy 9, yy 10, yy 11, yy 12, yy 13, yy 14, yy 15, yy 16, yy 17, yy 18, yy 19, yy 20, yy 21, yy 22, yy 23, yy 24, yy 25, yy 26, yy 27, yy 28, yy 29, yy 30, yy 31, yy 32, yy 33, yy 34, yy 35] Try_mixed (by kernel_rfl) (by kernel_rfl) (by kernel_rfl) ?_
        intro w10 hs
        replace hF := hF.st hs
        replace hT := hT.t hs; replace hl := hl.t hs; replace h34 := h34.t hs; replace hx := hx.t hs
        have hcs := hs
        refine yM 64 7 ?_
        refine yV (kq 65 (.binOp .gtr 3 (.tmp 64) (.const (.int .i64 0)) 3)) (fun _ => val_F (val_gtr rfl rfl) hA) ?_
        refine yM 66 65 ?_
        refine pX 67 2 true ?_
        refine pX 68 2 true ?_
        refine pX 69 2 true ?_
        refine pX 70 2 true ?_
        refine pX 71 2 true ?_
        refine pX 72 2 true ?_
        refine pX 73 2 true ?_
        refine pX 74 2 true ?_
        refine pX 75 2 true ?_
        refine pX 76 2 true ?_
        refine pX 77 12 false ?_
        refine pX 78 12 false ?_
        refine pX 79 12 false ?_
        refine pX 80 12 false ?_
        refine pX 81 12 false ?_
        refine pX 82 12 false ?_
        refine pX 83 12 false ?_
        refine pX 84 12 false ?_
        refine pX 85 12 false ?_
        refine pX 86 12 false ?_
        refine pX 87 22 true ?_
        refine pX 88 22 true ?_
        refine pX 89 22 true ?_
        refine pX 90 22 true ?_
        refine pX 91 22 true ?_
        refine pX 92 22 true ?_
        refine pX 93 22 true ?_
        refine pX 94 22 true ?_
        refine pX 95 22 true ?_
        refine pX 96 12 false ?_
        refine pX 97 2 true ?_
        refine pX 98 2 true ?_
        refine yAf 99 66 98 ?_
        exact Sch.nil (hcut _ _ _ hcs rfl (eq_bool (decide_eq_false (fun e => hA (by omega))).symm) (sk 36))
      intro w11 hs
      replace hF := hF.st hs
      replace hT := hT.t hs; replace hl := hl.t hs; replace h34 := h34.t hs; replace hx := hx.t hs
      refine run_i 99 rfl (fun h99 => ?_) (fun h99 => ?_)
      ·
       rw [if_pos h99] at hev
       refine run_sq ?_
       refine run_pl [yy 0] ?_
       refine yAc 6 (.int .i64 12) ?_
       refine Sch.nil ?_
       refine run_ret1 (by kernel_rfl) Try.func18 Try.results18 rfl ?_
       exact ⟨by rw [chkE_at h22 hlim hil h0 (by rw [hev]; decide), hev], hT.out1 (by decide)⟩
      ·
       rw [if_neg h99] at hev
       refine run_sk ?_
       refine run_inBlock ?_
       refine run_pl [yy 0, yy 1, yy 2] ?_
       refine yM 30 7 ?_
       refine yV (kq 31 (.binOp .add 3 (.tmp 30) (.const (.int .i64 1)) 3)) (fun _ => val_addi rfl rfl (by omega) (by omega)) ?_
       refine yA 7 31 ?_
       refine Sch.nil ?_
       refine kp (sub_cons 0 rfl rfl (sub_cons 1 rfl rfl (sub_cons 2 rfl rfl (sub_cons 7 rfl (eq_int (by simp)) (sub_nil _))))) (next1 (i + 1, Cw3) _ ⟨(by first | omega | (simp only; omega)), (fun q hq => by
           try simp only at hq
           by_cases e : q = i
           · subst e; exact hev
           · exact h0 q (by omega)), hF, hT, hl⟩ (by first | omega | (simp only; omega)))
   ·
    have hil : i = l.length := by omega
    refine run_ex 0 ?_
    refine run_sq ?_
    refine run_pl [yy 0] ?_
    refine yAc 6 (.int .i64 0) ?_
    refine Sch.nil ?_
    refine run_ret1 (by kernel_rfl) Try.func18 Try.results18 rfl ?_
    exact ⟨by rw [chkE_ok h22 hlim (fun q hq => h0 q (by omega))], hT.out1 (by decide)⟩
end Go.Proofs.Ytgooehopkmbkfaa
