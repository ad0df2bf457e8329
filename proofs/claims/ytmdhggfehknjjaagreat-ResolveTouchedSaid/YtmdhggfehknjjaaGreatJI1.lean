/- Steps through functions of the program. -/
import Derived.Test.YtmdhggfehknjjaaGreatJHC
set_option linter.unusedVariables false
set_option linter.unusedSimpArgs false
set_option maxRecDepth 100000
set_option maxHeartbeats 4000000
namespace Go.Proofs.YtmdhggfehknjjaaGreat
open Go.K Go.K.Rep
noncomputable section
namespace F58
def c0 := bodyOf Tryz.f58
def c14 := (cl (cr (cl (cr (cr c0)))))
def c25 := (cr (cl (cl (cr (cl c14)))))
def o11 := rops (cl (cr (cr c25)))
end F58
theorem refCheck_ok {w₀ : World} {C : Nat → Nat} {l : List Bond} {vl : Value} (hF : Lim w₀ C) (hl : RV w₀ (Mc C) l vl) : Calls Tryz.prog 58 #[vl] w₀ (Ret fun v w' => v = .int .i64 (checkS l) ∧ Stp [] w₀ C w' C) := by
 have hF0 := hF
 have hT := Stp.refl [2, 3, 4, 5, 6, 7, 8, 9] w₀ (col1 C)
 replace hF := hF.col1
 replace hl := hl.c1
 refine c_st F58.c0 81 [vl] Tryz.func58 ?_
 show Run _ _ _ _ [(0, vl)] _ _
 refine run_sq (run_pl [yy 0] ?_)
 refine yAc 2 (.int .i64 0) ?_
 refine Sch.nil (run_sq (run_sq (run_pl [yy 0, yy 1, yy 2] ?_)))
 refine yM 5 0 ?_
 refine yS (kq 6 (.call { callee := .builtin .len, args := #[(.tmp 5)], argTypes := #[23] })) rfl rfl (fun w' hS => hl.lenV rfl Tryz.underlying23 w' ) ?_
 refine yV (kq 7 (.binOp .gtr 3 (.tmp 6) (.const (.int .i64 4096)) 3)) (fun _ => val_gtr rfl rfl) ?_
 refine Sch.nil ?_
 refine run_i 7 rfl (fun h7 => ?_) (fun h7 => ?_)
 ·
  refine run_sq (run_pl [yy 0] ?_)
  refine yAc 2 (.int .i64 1) ?_
  refine Sch.nil ?_
  refine rt1 Tryz.func58 Tryz.results58 ?_
  exact ⟨by rw [checkS_lim (by omega)], hT.out1 (by decide)⟩
 have hlim : l.length ≤ 4096 := by omega
 refine run_sk (run_sq (run_sq (run_pl [yy 0] ?_)))
 refine yAc 3 (.int .i64 0) ?_
 refine Sch.nil (run_bk 0 ?_)
 refine run_lp (ι := Nat × (Nat → Nat)) (I := fun x w => x.1 ≤ l.length ∧ (∀ k, k < x.1 → errAt l k = 0) ∧ Lim w x.2 ∧ Stp [2, 3, 4, 5, 6, 7, 8, 9] w₀ (col1 C) w x.2 ∧ RV w (Mc x.2) l vl) (e := fun x => [(0, vl), (3, .int .i64 x.1)]) (m := fun x => l.length - x.1) (x₀ := (0, col1 C)) (sr 0 (sr 3 (sub_nil _))) ?_ ?_
 · exact ⟨Nat.zero_le _, fun k hk => by simp at hk, hF, hT, hl⟩
 intro ⟨i, C1⟩ w1 hI next1
 obtain ⟨hi, h0, hF, hT, hl⟩ := hI
 try simp only at hi h0 hF hT hl
 show Run _ _ _ _ [(0, vl), (3, .int .i64 i)] _ _
 refine run_sq (run_sq (run_pl [yy 0, yy 1, yy 2, yy 3] ?_))
 refine yM 8 3 ?_
 refine yM 9 0 ?_
 refine yS (kq 10 (.call { callee := .builtin .len, args := #[(.tmp 9)], argTypes := #[23] })) rfl rfl (fun w' hS => hl.lenV rfl Tryz.underlying23 w' ) ?_
 refine yL 11 3 8 10 ?_
 refine Sch.nil ?_
 refine run_i 11 rfl (fun h11 => ?_) (fun h11 => ?_)
 ·
  have hil : i < l.length := by omega
  have hE := errAt_val hil
  refine run_sk (run_sq (run_bk 1 (run_sq (run_pl [yy 0, yy 1, yy 2, nn 3, nn 4, nn 5] ?_))))
  refine yM 14 0 ?_
  refine yM 15 3 ?_
  refine iR 58 16 23 14 15 hl rfl (h := ?_)
  intro b16 o16 h16
  try simp only [Int.toNat_natCast] at h16
  refine lNA (kq 17 (.load 58 (.tmp 16))) rfl rfl trivial h16 (by kernel_rfl) (by kernel_rfl) rfl rfl ?_
  intro v17 g17
  obtain rfl := rv_bond.1 g17
  refine aT (kq 4 (.alloc 58)) rfl rfl (a_alloc (cs := [.int .i64 0, .int .i64 0, .int .i64 0, .int .i64 0, .int .i64 0]) hF 4 (by kernel_rfl)) ?_
  rintro _ w2 ⟨Cw2, bw2, rfl, s_1, hx, hF⟩
  refine aU (k0 (.store 58 (.tmp 4) (.tmp 17))) rfl (a_storeAll (vs := encB (l[i]'hil)) (n := 5) rfl rfl (by kernel_rfl) rfl rfl (by intro u hu; simp only [encB, List.mem_cons, List.not_mem_nil, or_false] at hu; rcases hu with rfl | rfl | rfl | rfl | rfl <;> rfl) hx rfl) ?_
  rintro _ w3 ⟨rfl, s_2, hx⟩
  refine Sch.nil (run_sq (run_sq ?_))
  refine run_cut 36 (!cplOK (l[i]'hil).A (l[i]'hil).B) (Cw2) ?_ ?_
  ·
   intro hcut
   by_cases hA : refOK (l[i]'hil).A = true
   ·
    by_cases hB : refOK (l[i]'hil).B = true
    ·
     by_cases hC : (l[i]'hil).B.a ≤ (l[i]'hil).A.a
     ·
      refine run_pl [yy 0, nn 1, nn 2, yy 3, yy 4, yy 5, nn 6, nn 7, yy 8, yy 9, yy 10, yy 11, yy 12, nn 13, yy 14, yy 15, nn 16, yy 17, yy 18] ?_
      replace hF := hF.st s_2
      have hcs := Stp.reflF hF
      refine yF 18 58 4 0 0 ?_
      refine nS (kq 19 (.load 55 (.tmp 18))) rfl rfl trivial (val_loadOwnAgg (n := 2) (vs := encR (l[i]'hil).A) hx.at_ (by kernel_rfl) (by kernel_rfl) rfl rfl rfl) ?_
      refine cG 20 100 [19] [55] Tryz.call100 rfl (ref27_ok (x := (l[i]'hil).A) hF) ?_
      rintro vw4 w4 ⟨rfl, s_3⟩
      rw [hA]
      refine yV (kq 21 (.unOp .not 4 (.tmp 20))) (fun _ => val_not rfl) ?_
      refine yM 22 21 ?_
      refine yFg 23 58 4 1 2 4 false ?_
      replace hx := hx.t s_3
      refine nS (kg 24 (.load 55 (.tmp 23)) 4 false) rfl rfl trivial (val_loadOwnAgg (n := 2) (vs := encR (l[i]'hil).B) hx.at_ (by kernel_rfl) (by kernel_rfl) rfl rfl rfl) ?_
      replace hF := hF.st s_3
      refine cT (kg 25 (.call { callee := .value (.func 100), args := #[(.tmp 24)], argTypes := #[55] }) 4 false) rfl rfl (ent Tryz.call100 rfl) (ref27_ok (x := (l[i]'hil).B) hF) ?_
      rintro vw5 w5 ⟨rfl, s_4⟩
      rw [hB]
      refine yV (kg 26 (.unOp .not 4 (.tmp 25)) 4 false) (fun _ => val_not rfl) ?_
      refine yOf 27 22 26 ?_
      refine yM 28 27 ?_
      refine yFg 29 58 4 0 0 10 false ?_
      refine yFg 30 55 29 0 0 10 false ?_
      replace hx := hx.t s_4
      refine nS (kg 31 (.load 3 (.tmp 30)) 10 false) rfl rfl trivial (val_loadOwn hx.at_ (by kernel_rfl) rfl rfl) ?_
      refine yFg 32 58 4 1 2 10 false ?_
      refine yFg 33 55 32 0 0 10 false ?_
      refine nS (kg 34 (.load 3 (.tmp 33)) 10 false) rfl rfl trivial (val_loadOwn hx.at_ (by kernel_rfl) rfl rfl) ?_
      refine yV (kg 35 (.binOp .geq 3 (.tmp 31) (.tmp 34) 3) 10 false) (fun _ => val_T (val_geq rfl rfl) hC) ?_
      refine yOf 36 28 35 ?_
      replace hcs := (hcs.t s_3).t s_4
      exact Sch.nil (hcut _ _ _ hcs rfl (by unfold cplOK; rw [hA, hB, decide_eq_false (by omega)]; rfl) (sk 19))
     refine run_pl [yy 0, nn 1, nn 2, yy 3, yy 4, yy 5, nn 6, nn 7, yy 8, yy 9, yy 10, yy 11, yy 12, nn 13, yy 14, yy 15, nn 16, yy 17, yy 18] ?_
     replace hF := hF.st s_2
     have hcs := Stp.reflF hF
     refine yF 18 58 4 0 0 ?_
     refine nS (kq 19 (.load 55 (.tmp 18))) rfl rfl trivial (val_loadOwnAgg (n := 2) (vs := encR (l[i]'hil).A) hx.at_ (by kernel_rfl) (by kernel_rfl) rfl rfl rfl) ?_
     refine cG 20 100 [19] [55] Tryz.call100 rfl (ref27_ok (x := (l[i]'hil).A) hF) ?_
     rintro vw6 w6 ⟨rfl, s_5⟩
     rw [hA]
     refine yV (kq 21 (.unOp .not 4 (.tmp 20))) (fun _ => val_not rfl) ?_
     refine yM 22 21 ?_
     refine yFg 23 58 4 1 2 4 false ?_
     replace hx := hx.t s_5
     refine nS (kg 24 (.load 55 (.tmp 23)) 4 false) rfl rfl trivial (val_loadOwnAgg (n := 2) (vs := encR (l[i]'hil).B) hx.at_ (by kernel_rfl) (by kernel_rfl) rfl rfl rfl) ?_
     replace hF := hF.st s_5
     refine cT (kg 25 (.call { callee := .value (.func 100), args := #[(.tmp 24)], argTypes := #[55] }) 4 false) rfl rfl (ent Tryz.call100 rfl) (ref27_ok (x := (l[i]'hil).B) hF) ?_
     rintro vw7 w7 ⟨rfl, s_6⟩
     rw [hB]
     refine yV (kg 26 (.unOp .not 4 (.tmp 25)) 4 false) (fun _ => val_not rfl) ?_
     refine yOf 27 22 26 ?_
     refine yM 28 27 ?_
     refine yFg 29 58 4 0 0 10 false ?_
     refine yFg 30 55 29 0 0 10 false ?_
     replace hx := hx.t s_6
     refine nS (kg 31 (.load 3 (.tmp 30)) 10 false) rfl rfl trivial (val_loadOwn hx.at_ (by kernel_rfl) rfl rfl) ?_
     refine yFg 32 58 4 1 2 10 false ?_
     refine yFg 33 55 32 0 0 10 false ?_
     refine nS (kg 34 (.load 3 (.tmp 33)) 10 false) rfl rfl trivial (val_loadOwn hx.at_ (by kernel_rfl) rfl rfl) ?_
     refine yV (kg 35 (.binOp .geq 3 (.tmp 31) (.tmp 34) 3) 10 false) (fun _ => val_F (val_geq rfl rfl) hC) ?_
     refine yOf 36 28 35 ?_
     replace hcs := (hcs.t s_5).t s_6
     exact Sch.nil (hcut _ _ _ hcs rfl (by unfold cplOK; rw [hA, hB, decide_eq_true (by omega)]; rfl) (sk 19))
    refine run_pl [yy 0, nn 1, nn 2, yy 3, yy 4, yy 5, nn 6, nn 7, yy 8, yy 9, yy 10, yy 11, yy 12, nn 13, yy 14, yy 15, nn 16, yy 17, yy 18] ?_
    replace hF := hF.st s_2
    have hcs := Stp.reflF hF
    refine yF 18 58 4 0 0 ?_
    refine nS (kq 19 (.load 55 (.tmp 18))) rfl rfl trivial (val_loadOwnAgg (n := 2) (vs := encR (l[i]'hil).A) hx.at_ (by kernel_rfl) (by kernel_rfl) rfl rfl rfl) ?_
    refine cG 20 100 [19] [55] Tryz.call100 rfl (ref27_ok (x := (l[i]'hil).A) hF) ?_
    rintro vw8 w8 ⟨rfl, s_7⟩
    rw [hA]
    refine yV (kq 21 (.unOp .not 4 (.tmp 20))) (fun _ => val_not rfl) ?_
    refine yM 22 21 ?_
    refine yFg 23 58 4 1 2 4 false ?_
    replace hx := hx.t s_7
    refine nS (kg 24 (.load 55 (.tmp 23)) 4 false) rfl rfl trivial (val_loadOwnAgg (n := 2) (vs := encR (l[i]'hil).B) hx.at_ (by kernel_rfl) (by kernel_rfl) rfl rfl rfl) ?_
    replace hF := hF.st s_7
    refine cT (kg 25 (.call { callee := .value (.func 100), args := #[(.tmp 24)], argTypes := #[55] }) 4 false) rfl rfl (ent Tryz.call100 rfl) (ref27_ok (x := (l[i]'hil).B) hF) ?_
    rintro vw9 w9 ⟨rfl, s_8⟩
    rw [Bool.eq_false_iff.2 hB]
    refine yV (kg 26 (.unOp .not 4 (.tmp 25)) 4 false) (fun _ => val_not rfl) ?_
    refine yOf 27 22 26 ?_
    refine yM 28 27 ?_
    refine pX 29 10 false ?_
    refine pX 30 10 false ?_
    refine pW (kg 31 (.load 3 (.tmp 30)) 10 false) rfl rfl trivial ?_
    refine pX 32 10 false ?_
    refine pX 33 10 false ?_
    refine pW (kg 34 (.load 3 (.tmp 33)) 10 false) rfl rfl trivial ?_
    refine pX 35 10 false ?_
    refine yOt 36 28 35 ?_
    replace hcs := (hcs.t s_7).t s_8
    exact Sch.nil (hcut _ _ _ hcs rfl (by unfold cplOK; rw [hA, Bool.eq_false_iff.2 hB]; rfl) (sk 19))
   refine run_pl [yy 0, nn 1, nn 2, yy 3, yy 4, yy 5, nn 6, nn 7, yy 8, yy 9, yy 10, yy 11, yy 12, nn 13, yy 14, yy 15, nn 16, yy 17, yy 18] ?_
   replace hF := hF.st s_2
   have hcs := Stp.reflF hF
   refine yF 18 58 4 0 0 ?_
   refine nS (kq 19 (.load 55 (.tmp 18))) rfl rfl trivial (val_loadOwnAgg (n := 2) (vs := encR (l[i]'hil).A) hx.at_ (by kernel_rfl) (by kernel_rfl) rfl rfl rfl) ?_
   refine cG 20 100 [19] [55] Tryz.call100 rfl (ref27_ok (x := (l[i]'hil).A) hF) ?_
   rintro vw10 w10 ⟨rfl, s_9⟩
   rw [Bool.eq_false_iff.2 hA]
   refine yV (kq 21 (.unOp .not 4 (.tmp 20))) (fun _ => val_not rfl) ?_
   refine yM 22 21 ?_
   refine pX 23 4 false ?_
   refine pW (kg 24 (.load 55 (.tmp 23)) 4 false) rfl rfl trivial ?_
   refine pW (kg 25 (.call { callee := .value (.func 100), args := #[(.tmp 24)], argTypes := #[55] }) 4 false) rfl rfl trivial ?_
   refine pX 26 4 false ?_
   refine yOt 27 22 26 ?_
   refine yM 28 27 ?_
   refine pX 29 10 false ?_
   refine pX 30 10 false ?_
   refine pW (kg 31 (.load 3 (.tmp 30)) 10 false) rfl rfl trivial ?_
   refine pX 32 10 false ?_
   refine pX 33 10 false ?_
   refine pW (kg 34 (.load 3 (.tmp 33)) 10 false) rfl rfl trivial ?_
   refine pX 35 10 false ?_
   refine yOt 36 28 35 ?_
   replace hcs := hcs.t s_9
   exact Sch.nil (hcut _ _ _ hcs rfl (by unfold cplOK; rw [Bool.eq_false_iff.2 hA]; rfl) (sk 19))
  intro w11 s_10
  refine run_c 36 rfl (fun h36 => ?_) (fun h36 => ?_)
  ·
   refine run_sq (run_pl [yy 0] ?_)
   refine yAc 2 (.int .i64 41) ?_
   refine Sch.nil ?_
   refine rt1 Tryz.func58 Tryz.results58 ?_
   rw [if_pos (by simpa using h36)] at hE
   replace hT := ((hT.t s_1).t s_2).t s_10
   exact ⟨by rw [checkS_at hlim hil h0 (by rw [hE]; decide), hE], hT.out1 (by decide)⟩
  refine run_sk (run_sq (run_sq ?_))
  refine run_cut 44 (decide ((l[i]'hil).w < 1 ∨ 1048576 < (l[i]'hil).w)) (Cw2) ?_ ?_
  ·
   intro hcut
   by_cases hA : (l[i]'hil).w < 1
   ·
    refine run_pl [yy 0, nn 1, yy 2, yy 3, yy 4, nn 5, yy 6, yy 7] ?_
    refine yF 37 58 4 2 4 ?_
    replace hx := hx.t s_10
    refine nO 38 3 37 hx.at_ rfl rfl ?_
    refine yV (kq 39 (.binOp .lss 3 (.tmp 38) (.const (.int .i64 1)) 3)) (fun _ => val_T (val_lss rfl rfl) hA) ?_
    refine yM 40 39 ?_
    refine pX 41 3 false ?_
    refine pW (kg 42 (.load 3 (.tmp 41)) 3 false) rfl rfl trivial ?_
    refine pX 43 3 false ?_
    refine yOt 44 40 43 ?_
    exact Sch.nil (hcut _ _ _ (Stp.refl _ _ _) rfl (by rw [decide_eq_true (Or.inl hA)]) (sk 8))
   refine run_pl [yy 0, nn 1, yy 2, yy 3, yy 4, nn 5, yy 6, yy 7] ?_
   refine yF 37 58 4 2 4 ?_
   replace hx := hx.t s_10
   refine nO 38 3 37 hx.at_ rfl rfl ?_
   refine yV (kq 39 (.binOp .lss 3 (.tmp 38) (.const (.int .i64 1)) 3)) (fun _ => val_F (val_lss rfl rfl) hA) ?_
   refine yM 40 39 ?_
   refine yFg 41 58 4 2 4 3 false ?_
   refine nS (kg 42 (.load 3 (.tmp 41)) 3 false) rfl rfl trivial (val_loadOwn hx.at_ (by kernel_rfl) rfl rfl) ?_
   refine yV (kg 43 (.binOp .gtr 3 (.tmp 42) (.const (.int .i64 1048576)) 3) 3 false) (fun _ => val_gtr rfl rfl) ?_
   refine yOf 44 40 43 ?_
   exact Sch.nil (hcut _ _ _ (Stp.refl _ _ _) rfl (by congr 1; apply decide_eq_decide.2; omega) (sk 8))
  intro w12 s_11
  refine run_i 44 rfl (fun h44 => ?_) (fun h44 => ?_)
  ·
   refine run_sq (run_pl [yy 0] ?_)
   refine yAc 2 (.int .i64 40) ?_
   refine Sch.nil ?_
   refine rt1 Tryz.func58 Tryz.results58 ?_
   rw [if_neg (by simpa using h36), if_pos h44] at hE
   replace hT := (((hT.t s_1).t s_2).t s_10).t s_11
   exact ⟨by rw [checkS_at hlim hil h0 (by rw [hE]; decide), hE], hT.out1 (by decide)⟩
  refine run_sk (run_sq ?_)
  refine run_cut 80 (decide (0 < i ∧ ¬ lt2 (l[i-1]'(by omega)) (l[i]'hil))) (Cw2) ?_ ?_
  ·
   intro hcut
   by_cases hA : (0 : Int) < i
   ·
    by_cases hB : ltP (l[((i : Int) - 1).toNat]'(by omega)).A (l[i]'hil).A
    ·
     refine run_draw (id := 11) (ops := F58.o11) [] (Cw2) [yy 0, yy 1, yy 2, yy 3, yy 4, yy 5, yy 6, yy 7, yy 8, yy 9, yy 10, nn 11, yy 12, yy 13, yy 14, yy 15, yy 16, yy 17, yy 18, yy 19, yy 20, yy 21, yy 22, yy 23, yy 24, yy 25, yy 26, yy 27, yy 28, yy 29, yy 30, nn 31, yy 32, yy 33, yy 34, yy 35] Tryz_mixed (by kernel_rfl) (by kernel_rfl) (by kernel_rfl) ?_
     intro w13 s_12
     have hcs := s_12
     have hR := Stp.refl [] w13 (Cw2)
     replace hx := ((hx.t s_10).t s_11).t s_12
     have hx0 := hx
     replace hl := ((((hl.t s_1).t s_2).t s_10).t s_11).t s_12
     have hl_b := hl
     refine yM 45 3 ?_
     refine yV (kq 46 (.binOp .gtr 3 (.tmp 45) (.const (.int .i64 0)) 3)) (fun _ => val_T (val_gtr rfl rfl) hA) ?_
     refine yM 47 46 ?_
     refine yMg 48 0 2 true ?_
     refine yMg 49 3 2 true ?_
     refine yV (kg 50 (.binOp .sub 3 (.tmp 49) (.const (.int .i64 1)) 3) 2 true) (fun _ => val_subi rfl rfl (by omega) (by omega)) ?_
     refine iS (e := 58) (kg 51 (.indexAddr 23 (.tmp 48) (.tmp 50)) 2 true) rfl rfl hl_b rfl (by kernel_rfl) rfl (by omega) (by omega) ?_
     intro b51 o51 h51
     try simp only [Int.toNat_natCast] at h51
     have h52 := RA.bA h51
     refine yFg 52 58 51 0 0 2 true ?_
     refine lSA (kg 53 (.load 55 (.tmp 52)) 2 true) rfl rfl (fun w' hS => h52.sy hS) h52 (by kernel_rfl) (by kernel_rfl) rfl rfl ?_
     intro v53 g53
     have gb53 := g53
     replace g53 := g53.st hR (by first | decide | (simp <;> omega))
     obtain rfl := rv_couple.1 g53
     refine yFg 54 58 4 0 0 2 true ?_
     refine yS (kg 55 (.load 55 (.tmp 54)) 2 true) rfl rfl (fun w' hS => val_loadOwnAgg (n := 2) (vs := encR (l[i]'hil).A) (hx0.stay hS (by decide)) (by kernel_rfl) (by kernel_rfl) rfl rfl rfl) ?_
     replace hF := (((hF.st s_2).st s_10).st s_11).st s_12
     refine cS (kg 56 (.call { callee := .value (.func 44), args := #[(.tmp 53), (.tmp 55)], argTypes := #[55, 55] }) 2 true) rfl rfl (ent Tryz.call44 rfl) (less30_ok (x := (l[((i : Int) - 1).toNat]'(by omega)).A) (y := (l[i]'hil).A) hF) ?_
     rintro vw14 w14 ⟨rfl, s_13⟩
     rw [decide_eq_true hB]
     refine ⟨(hR.trans s_13 (by simp)).ext, ?_⟩
     refine yMg 57 56 2 true ?_
     refine pX 58 12 false ?_
     refine pX 59 12 false ?_
     refine pX 60 12 false ?_
     refine pX 61 12 false ?_
     refine pX 62 12 false ?_
     refine pX 63 12 false ?_
     refine pX 64 12 false ?_
     refine pX 65 12 false ?_
     refine pX 66 12 false ?_
     refine pX 67 12 false ?_
     refine pX 68 22 true ?_
     refine pX 69 22 true ?_
     refine pX 70 22 true ?_
     refine pX 71 22 true ?_
     refine pX 72 22 true ?_
     refine pX 73 22 true ?_
     refine pX 74 22 true ?_
     refine pX 75 22 true ?_
     replace hR := hR.t s_13
     refine pW (kg 76 (.call { callee := .value (.func 44), args := #[(.tmp 73), (.tmp 75)], argTypes := #[55, 55] }) 22 true) rfl rfl hR.ext ?_
     refine pX 77 12 false ?_
     refine yV (kg 78 (.pick (.tmp 57) (.const (.bool true)) (.tmp 77)) 2 true) (fun _ => val_pick_t rfl rfl) ?_
     refine yV (kg 79 (.unOp .not 4 (.tmp 78)) 2 true) (fun _ => val_not rfl) ?_
     refine yAt 80 47 79 ?_
     replace hcs := hcs.t s_13
     exact Sch.nil (hcut _ _ _ hcs rfl (by
  have e1 : ((i : Int) - 1).toNat = i - 1 := by omega
  simp only [e1] at hB
  rw [decide_eq_false (fun e => e.2 (Or.inl hB))]; rfl) (sk 36))
    by_cases hC : (l[((i : Int) - 1).toNat]'(by omega)).A = (l[i]'hil).A
    ·
     refine run_draw (id := 11) (ops := F58.o11) [] (Cw2) [yy 0, yy 1, yy 2, yy 3, yy 4, yy 5, yy 6, yy 7, yy 8, yy 9, yy 10, nn 11, yy 12, yy 13, yy 14, yy 15, yy 16, yy 17, yy 18, yy 19, yy 20, yy 21, yy 22, yy 23, yy 24, yy 25, yy 26, yy 27, yy 28, yy 29, yy 30, nn 31, yy 32, yy 33, yy 34, yy 35] Tryz_mixed (by kernel_rfl) (by kernel_rfl) (by kernel_rfl) ?_
     intro w15 s_14
     have hcs := s_14
     have hR := Stp.refl [] w15 (Cw2)
     replace hx := ((hx.t s_10).t s_11).t s_14
     have hx0 := hx
     replace hl := ((((hl.t s_1).t s_2).t s_10).t s_11).t s_14
     have hl_b := hl
     refine yM 45 3 ?_
     refine yV (kq 46 (.binOp .gtr 3 (.tmp 45) (.const (.int .i64 0)) 3)) (fun _ => val_T (val_gtr rfl rfl) hA) ?_
     refine yM 47 46 ?_
     refine yMg 48 0 2 true ?_
     refine yMg 49 3 2 true ?_
     refine yV (kg 50 (.binOp .sub 3 (.tmp 49) (.const (.int .i64 1)) 3) 2 true) (fun _ => val_subi rfl rfl (by omega) (by omega)) ?_
     refine iS (e := 58) (kg 51 (.indexAddr 23 (.tmp 48) (.tmp 50)) 2 true) rfl rfl hl_b rfl (by kernel_rfl) rfl (by omega) (by omega) ?_
     intro b51 o51 h51
     try simp only [Int.toNat_natCast] at h51
     have h52 := RA.bA h51
     refine yFg 52 58 51 0 0 2 true ?_
     refine lSA (kg 53 (.load 55 (.tmp 52)) 2 true) rfl rfl (fun w' hS => h52.sy hS) h52 (by kernel_rfl) (by kernel_rfl) rfl rfl ?_
     intro v53 g53
     have gb53 := g53
     replace g53 := g53.st hR (by first | decide | (simp <;> omega))
     obtain rfl := rv_couple.1 g53
     refine yFg 54 58 4 0 0 2 true ?_
     refine yS (kg 55 (.load 55 (.tmp 54)) 2 true) rfl rfl (fun w' hS => val_loadOwnAgg (n := 2) (vs := encR (l[i]'hil).A) (hx0.stay hS (by decide)) (by kernel_rfl) (by kernel_rfl) rfl rfl rfl) ?_
     replace hF := (((hF.st s_2).st s_10).st s_11).st s_14
     refine cS (kg 56 (.call { callee := .value (.func 44), args := #[(.tmp 53), (.tmp 55)], argTypes := #[55, 55] }) 2 true) rfl rfl (ent Tryz.call44 rfl) (less30_ok (x := (l[((i : Int) - 1).toNat]'(by omega)).A) (y := (l[i]'hil).A) hF) ?_
     rintro vw16 w16 ⟨rfl, s_15⟩
     rw [decide_eq_false hB]
     refine ⟨(hR.trans s_15 (by simp)).ext, ?_⟩
     refine yMg 57 56 2 true ?_
     refine yMg 58 0 12 false ?_
     refine yMg 59 3 12 false ?_
     refine yV (kg 60 (.binOp .sub 3 (.tmp 59) (.const (.int .i64 1)) 3) 12 false) (fun _ => val_subi rfl rfl (by omega) (by omega)) ?_
     refine iS (e := 58) (kg 61 (.indexAddr 23 (.tmp 58) (.tmp 60)) 12 false) rfl rfl hl_b rfl (by kernel_rfl) rfl (by omega) (by omega) ?_
     intro b61 o61 h61
     try simp only [Int.toNat_natCast] at h61
     have h62 := RA.bA h61
     refine yFg 62 58 61 0 0 12 false ?_
     refine lSA (kg 63 (.load 55 (.tmp 62)) 12 false) rfl rfl (fun w' hS => h62.sy hS) h62 (by kernel_rfl) (by kernel_rfl) rfl rfl ?_
     intro v63 g63
     have gb63 := g63
     replace hR := hR.t s_15
     replace g63 := g63.st hR (by first | decide | (simp <;> omega))
     obtain rfl := rv_couple.1 g63
     refine yFg 64 58 4 0 0 12 false ?_
     refine yS (kg 65 (.load 55 (.tmp 64)) 12 false) rfl rfl (fun w' hS => val_loadOwnAgg (n := 2) (vs := encR (l[i]'hil).A) (hx0.stay hS (by decide)) (by kernel_rfl) (by kernel_rfl) rfl rfl rfl) ?_
     refine yV (kg 66 (.binOp .eql 55 (.tmp 63) (.tmp 65) 55) 12 false) (fun _ => val_T (val_eqC (a := (l[((i : Int) - 1).toNat]'(by omega)).A) (b := ((l[i]'hil).A)) Tryz.underlying55 (by decide) (by decide) (by kernel_rfl) Tryz.underlying3 rfl rfl) hC) ?_
     refine yMg 67 66 12 false ?_
     refine yMg 68 0 22 true ?_
     refine yMg 69 3 22 true ?_
     refine yV (kg 70 (.binOp .sub 3 (.tmp 69) (.const (.int .i64 1)) 3) 22 true) (fun _ => val_subi rfl rfl (by omega) (by omega)) ?_
     refine iS (e := 58) (kg 71 (.indexAddr 23 (.tmp 68) (.tmp 70)) 22 true) rfl rfl hl_b rfl (by kernel_rfl) rfl (by omega) (by omega) ?_
     intro b71 o71 h71
     try simp only [Int.toNat_natCast] at h71
     have h72 := RA.bB h71
     refine yFg 72 58 71 1 2 22 true ?_
     refine lSA (kg 73 (.load 55 (.tmp 72)) 22 true) rfl rfl (fun w' hS => h72.sy hS) h72 (by kernel_rfl) (by kernel_rfl) rfl rfl ?_
     intro v73 g73
     have gb73 := g73
     replace g73 := g73.st hR (by first | decide | (simp <;> omega))
     obtain rfl := rv_couple.1 g73
     refine yFg 74 58 4 1 2 22 true ?_
     refine yS (kg 75 (.load 55 (.tmp 74)) 22 true) rfl rfl (fun w' hS => val_loadOwnAgg (n := 2) (vs := encR (l[i]'hil).B) (hx0.stay hS (by decide)) (by kernel_rfl) (by kernel_rfl) rfl rfl rfl) ?_
     replace hF := hF.st s_15
     refine cS (kg 76 (.call { callee := .value (.func 44), args := #[(.tmp 73), (.tmp 75)], argTypes := #[55, 55] }) 22 true) rfl rfl (ent Tryz.call44 rfl) (less30_ok (x := (l[((i : Int) - 1).toNat]'(by omega)).B) (y := (l[i]'hil).B) hF) ?_
     rintro vw17 w17 ⟨rfl, s_16⟩
     refine ⟨(hR.trans s_16 (by simp)).ext, ?_⟩
     refine yV (kg 77 (.pick (.tmp 67) (.tmp 76) (.const (.bool false))) 12 false) (fun _ => val_pick_t rfl rfl) ?_
     refine yV (kg 78 (.pick (.tmp 57) (.const (.bool true)) (.tmp 77)) 2 true) (fun _ => val_pick_f rfl rfl) ?_
     refine yV (kg 79 (.unOp .not 4 (.tmp 78)) 2 true) (fun _ => val_notd rfl) ?_
     refine yAt 80 47 79 ?_
     replace hcs := (hcs.t s_15).t s_16
     exact Sch.nil (hcut _ _ _ hcs rfl (by
  have e1 : ((i : Int) - 1).toNat = i - 1 := by omega
  simp only [e1] at hB hC ⊢
  congr 1; apply decide_eq_decide.2; unfold lt2; constructor
  · intro h1; exact ⟨by omega, fun h2 => h2.elim hB (fun h3 => h1 h3.2)⟩
  · intro h1 h2; exact h1.2 (Or.inr ⟨hC, h2⟩)) (sk 36))
    refine run_draw (id := 11) (ops := F58.o11) [] (Cw2) [yy 0, yy 1, yy 2, yy 3, yy 4, yy 5, yy 6, yy 7, yy 8, yy 9, yy 10, nn 11, yy 12, yy 13, yy 14, yy 15, yy 16, yy 17, yy 18, yy 19, yy 20, yy 21, yy 22, yy 23, yy 24, yy 25, yy 26, yy 27, yy 28, yy 29, yy 30, nn 31, yy 32, yy 33, yy 34, yy 35] Tryz_mixed (by kernel_rfl) (by kernel_rfl) (by kernel_rfl) ?_
    intro w18 s_17
    have hcs := s_17
    have hR := Stp.refl [] w18 (Cw2)
    replace hx := ((hx.t s_10).t s_11).t s_17
    have hx0 := hx
    replace hl := ((((hl.t s_1).t s_2).t s_10).t s_11).t s_17
    have hl_b := hl
    refine yM 45 3 ?_
    refine yV (kq 46 (.binOp .gtr 3 (.tmp 45) (.const (.int .i64 0)) 3)) (fun _ => val_T (val_gtr rfl rfl) hA) ?_
    refine yM 47 46 ?_
    refine yMg 48 0 2 true ?_
    refine yMg 49 3 2 true ?_
    refine yV (kg 50 (.binOp .sub 3 (.tmp 49) (.const (.int .i64 1)) 3) 2 true) (fun _ => val_subi rfl rfl (by omega) (by omega)) ?_
    refine iS (e := 58) (kg 51 (.indexAddr 23 (.tmp 48) (.tmp 50)) 2 true) rfl rfl hl_b rfl (by kernel_rfl) rfl (by omega) (by omega) ?_
    intro b51 o51 h51
    try simp only [Int.toNat_natCast] at h51
    have h52 := RA.bA h51
    refine yFg 52 58 51 0 0 2 true ?_
    refine lSA (kg 53 (.load 55 (.tmp 52)) 2 true) rfl rfl (fun w' hS => h52.sy hS) h52 (by kernel_rfl) (by kernel_rfl) rfl rfl ?_
    intro v53 g53
    have gb53 := g53
    replace g53 := g53.st hR (by first | decide | (simp <;> omega))
    obtain rfl := rv_couple.1 g53
    refine yFg 54 58 4 0 0 2 true ?_
    refine yS (kg 55 (.load 55 (.tmp 54)) 2 true) rfl rfl (fun w' hS => val_loadOwnAgg (n := 2) (vs := encR (l[i]'hil).A) (hx0.stay hS (by decide)) (by kernel_rfl) (by kernel_rfl) rfl rfl rfl) ?_
    replace hF := (((hF.st s_2).st s_10).st s_11).st s_17
    refine cS (kg 56 (.call { callee := .value (.func 44), args := #[(.tmp 53), (.tmp 55)], argTypes := #[55, 55] }) 2 true) rfl rfl (ent Tryz.call44 rfl) (less30_ok (x := (l[((i : Int) - 1).toNat]'(by omega)).A) (y := (l[i]'hil).A) hF) ?_
    rintro vw19 w19 ⟨rfl, s_18⟩
    rw [decide_eq_false hB]
    refine ⟨(hR.trans s_18 (by simp)).ext, ?_⟩
    refine yMg 57 56 2 true ?_
    refine yMg 58 0 12 false ?_
    refine yMg 59 3 12 false ?_
    refine yV (kg 60 (.binOp .sub 3 (.tmp 59) (.const (.int .i64 1)) 3) 12 false) (fun _ => val_subi rfl rfl (by omega) (by omega)) ?_
    refine iS (e := 58) (kg 61 (.indexAddr 23 (.tmp 58) (.tmp 60)) 12 false) rfl rfl hl_b rfl (by kernel_rfl) rfl (by omega) (by omega) ?_
    intro b61 o61 h61
    try simp only [Int.toNat_natCast] at h61
    have h62 := RA.bA h61
    refine yFg 62 58 61 0 0 12 false ?_
    refine lSA (kg 63 (.load 55 (.tmp 62)) 12 false) rfl rfl (fun w' hS => h62.sy hS) h62 (by kernel_rfl) (by kernel_rfl) rfl rfl ?_
    intro v63 g63
    have gb63 := g63
    replace hR := hR.t s_18
    replace g63 := g63.st hR (by first | decide | (simp <;> omega))
    obtain rfl := rv_couple.1 g63
    refine yFg 64 58 4 0 0 12 false ?_
    refine yS (kg 65 (.load 55 (.tmp 64)) 12 false) rfl rfl (fun w' hS => val_loadOwnAgg (n := 2) (vs := encR (l[i]'hil).A) (hx0.stay hS (by decide)) (by kernel_rfl) (by kernel_rfl) rfl rfl rfl) ?_
    refine yV (kg 66 (.binOp .eql 55 (.tmp 63) (.tmp 65) 55) 12 false) (fun _ => val_F (val_eqC (a := (l[((i : Int) - 1).toNat]'(by omega)).A) (b := ((l[i]'hil).A)) Tryz.underlying55 (by decide) (by decide) (by kernel_rfl) Tryz.underlying3 rfl rfl) hC) ?_
    refine yMg 67 66 12 false ?_
    refine pX 68 22 true ?_
    refine pX 69 22 true ?_
    refine pX 70 22 true ?_
    refine pX 71 22 true ?_
    refine pX 72 22 true ?_
    refine pX 73 22 true ?_
    refine pX 74 22 true ?_
    refine pX 75 22 true ?_
    refine pW (kg 76 (.call { callee := .value (.func 44), args := #[(.tmp 73), (.tmp 75)], argTypes := #[55, 55] }) 22 true) rfl rfl hR.ext ?_
    refine yV (kg 77 (.pick (.tmp 67) (.tmp 76) (.const (.bool false))) 12 false) (fun _ => val_pick_f rfl rfl) ?_
    refine yV (kg 78 (.pick (.tmp 57) (.const (.bool true)) (.tmp 77)) 2 true) (fun _ => val_pick_f rfl rfl) ?_
    refine yV (kg 79 (.unOp .not 4 (.tmp 78)) 2 true) (fun _ => val_not rfl) ?_
    refine yAt 80 47 79 ?_
    replace hcs := hcs.t s_18
    exact Sch.nil (hcut _ _ _ hcs rfl (by
  have e1 : ((i : Int) - 1).toNat = i - 1 := by omega
  simp only [e1] at hB hC
  rw [decide_eq_true (show 0 < i ∧ ¬ lt2 (l[i-1]'(by omega)) (l[i]'hil) from ⟨by omega, fun h2 => h2.elim hB (fun h3 => hC h3.1)⟩)]; rfl) (sk 36))
   refine run_draw (id := 11) (ops := F58.o11) [] (Cw2) [yy 0, yy 1, yy 2, yy 3, yy 4, yy 5, yy 6, yy 7, yy 8, yy 9, yy 10, nn 11, yy 12, yy 13, yy 14, yy 15, yy 16, yy 17, yy 18, yy 19, yy 20, yy 21, yy 22, yy 23, yy 24, yy 25, yy 26, yy 27, yy 28, yy 29, yy 30, nn 31, yy 32, yy 33, yy 34, yy 35] Tryz_mixed (by kernel_rfl) (by kernel_rfl) (by kernel_rfl) ?_
   intro w20 s_19
   have hcs := s_19
   have hR := Stp.refl [] w20 (Cw2)
   replace hx := ((hx.t s_10).t s_11).t s_19
   have hx0 := hx
   replace hl := ((((hl.t s_1).t s_2).t s_10).t s_11).t s_19
   have hl_b := hl
   refine yM 45 3 ?_
   refine yV (kq 46 (.binOp .gtr 3 (.tmp 45) (.const (.int .i64 0)) 3)) (fun _ => val_F (val_gtr rfl rfl) hA) ?_
   refine yM 47 46 ?_
   refine pX 48 2 true ?_
   refine pX 49 2 true ?_
   refine pX 50 2 true ?_
   refine pX 51 2 true ?_
   refine pX 52 2 true ?_
   refine pX 53 2 true ?_
   refine pX 54 2 true ?_
   refine pX 55 2 true ?_
   refine pW (kg 56 (.call { callee := .value (.func 44), args := #[(.tmp 53), (.tmp 55)], argTypes := #[55, 55] }) 2 true) rfl rfl hR.ext ?_
   refine pX 57 2 true ?_
   refine pX 58 12 false ?_
   refine pX 59 12 false ?_
   refine pX 60 12 false ?_
   refine pX 61 12 false ?_
   refine pX 62 12 false ?_
   refine pX 63 12 false ?_
   refine pX 64 12 false ?_
   refine pX 65 12 false ?_
   refine pX 66 12 false ?_
   refine pX 67 12 false ?_
   refine pX 68 22 true ?_
   refine pX 69 22 true ?_
   refine pX 70 22 true ?_
   refine pX 71 22 true ?_
   refine pX 72 22 true ?_
   refine pX 73 22 true ?_
   refine pX 74 22 true ?_
   refine pX 75 22 true ?_
   refine pW (kg 76 (.call { callee := .value (.func 44), args := #[(.tmp 73), (.tmp 75)], argTypes := #[55, 55] }) 22 true) rfl rfl hR.ext ?_
   refine pX 77 12 false ?_
   refine pX 78 2 true ?_
   refine pX 79 2 true ?_
   refine yAf 80 47 79 ?_
   exact Sch.nil (hcut _ _ _ hcs rfl (by rw [decide_eq_false (fun e => hA (by omega))]) (sk 36))
  intro w21 s_20
  refine run_i 80 rfl (fun h80 => ?_) (fun h80 => ?_)
  ·
   refine run_sq (run_pl [yy 0] ?_)
   refine yAc 2 (.int .i64 12) ?_
   refine Sch.nil ?_
   refine rt1 Tryz.func58 Tryz.results58 ?_
   rw [if_neg (by simpa using h36), if_neg h44, if_pos h80] at hE
   replace hT := ((((hT.t s_1).t s_2).t s_10).t s_11).t s_20
   exact ⟨by rw [checkS_at hlim hil h0 (by rw [hE]; decide), hE], hT.out1 (by decide)⟩
  refine run_sk (run_inBlock (run_pl [yy 0, yy 1, yy 2] ?_))
  refine yM 12 3 ?_
  refine yI 13 3 12 1 ?_
  refine yA 3 13 ?_
  refine Sch.nil ?_
  replace hT := ((((hT.t s_1).t s_2).t s_10).t s_11).t s_20; replace hl := ((((hl.t s_1).t s_2).t s_10).t s_11).t s_20; replace hF := (((hF.st s_2).st s_10).st s_11).st s_20
  refine kp (sub_cons 0 rfl rfl (sub_cons 3 rfl (eq_int (by simp)) (sub_nil _))) (next1 (i + 1, Cw2) _ ⟨(by first | omega | (simp only; omega)), (fun k hk => by
          simp only at hk
          by_cases e : k = i
          · subst e; rw [hE, if_neg (by simpa using h36), if_neg h44, if_neg h80]
          · exact h0 k (by omega)), hF, hT, hl⟩ (by first | omega | (simp only; omega)))
 have hil : i = l.length := by omega
 refine run_ex 0 ?_
 refine run_sq (run_pl [yy 0] ?_)
 refine yAc 2 (.int .i64 0) ?_
 refine Sch.nil ?_
 refine rt1 Tryz.func58 Tryz.results58 ?_
 subst hil
 exact ⟨by rw [checkS_ok hlim h0], hT.out1 (by decide)⟩
end
end Go.Proofs.YtmdhggfehknjjaaGreat
