/- Steps through functions of the program. -/
import Derived.Test.YtionghonhnedgaaGreatJD3
import Derived.Test.YtionghonhnedgaaGreatL1
set_option linter.unusedVariables false
set_option linter.unusedSimpArgs false
set_option maxRecDepth 100000
set_option maxHeartbeats 4000000
namespace Go.Proofs.YtionghonhnedgaaGreat
open Go.K Go.K.Rep

namespace F77
noncomputable def c0 := bodyOf Tryz.f77
noncomputable def c8 := (cl (cr (cl (cr (cr c0)))))
noncomputable def c17 := (cl (cl (cr (cr (cl c8)))))
end F77
/-- 'cmp.Or'. -/
theorem orI_ok {w₀ : World} {M : Nat → Prop} {l : List Int} {vl : Value} (hl : RV w₀ M l vl) : Calls Tryz.prog 77 #[vl] w₀ (Ret fun v w' => v = .int .i64 (orL l) ∧ w' = w₀) := by
 refine calls_start (c := F77.c0) (N := 18) [vl] Tryz.func77 (by kernel_rfl) (by kernel_rfl) (by kernel_rfl) ?_
 show Run _ _ _ _ [(0, vl)] _ _
 refine run_sq ?_
 refine run_pl [yy 0] ?_
 refine yAc 2 (.int .i64 0) ?_
 refine Sch.nil ?_
 refine run_sq ?_
 refine run_pl [yy 0] ?_
 refine yAc 3 (.int .i64 0) ?_
 refine Sch.nil ?_
 refine run_sq ?_
 refine run_sq ?_
 refine run_pl [yy 0, yy 1, yy 2] ?_
 refine yM 6 0 ?_
 refine yS (kq 7 (.call { callee := .builtin .len, args := #[(.tmp 6)], argTypes := #[22] })) rfl rfl (fun w' hS => hl.lenV rfl Tryz.underlying22 w' ) ?_
 refine yV (kq 8 (.move (.const (.int .i64 0)))) (fun _ => val_move rfl) ?_
 refine Sch.nil ?_
 refine run_bk 0 ?_
 refine run_lp (ι := Nat) (I := fun x w => x ≤ l.length ∧ w = w₀ ∧ orL (l.drop x) = orL l) (e := fun x => [(3, .int .i64 0), (6, vl), (7, .int .i64 l.length), (8, .int .i64 x)]) (m := fun x => l.length - x) (x₀ := 0) (sr 3 (sr 6 (sr 7 (sr 8 (sub_nil _))))) ?_ ?_
 · exact ⟨Nat.zero_le _, rfl, rfl⟩
 intro i w1 hI next
 obtain ⟨hi, rfl, ho⟩ := hI
 have hll := hl.le
 refine run_sq ?_
 refine run_pl [yy 0] ?_
 refine yV (kq 9 (.binOp .lss 3 (.tmp 8) (.tmp 7) 3)) (fun _ => val_lss rfl rfl) ?_
 refine Sch.nil ?_
 refine run_sq ?_
 refine run_i 9 rfl (fun h9 => ?_) (fun h9 => ?_)
 ·
  have hil : i < l.length := by omega
  rw [orL_drop hil] at ho
  refine run_sk ?_
  refine run_sq ?_
  refine run_bk 1 ?_
  refine run_sq ?_
  refine run_pl [yy 0, nn 1, yy 2] ?_
  refine iS (e := 3) (kq 10 (.indexAddr 22 (.tmp 6) (.tmp 8))) rfl rfl hl rfl (by kernel_rfl) rfl (by omega) (by omega) ?_
  intro b10 o10 h10
  try simp only [Int.toNat_natCast] at h10
  refine lN (kq 11 (.load 3 (.tmp 10))) rfl rfl trivial h10 (by kernel_rfl) rfl rfl ?_
  intro v11 g11
  first | (obtain rfl := rv_nat.1 g11) | (obtain rfl := rv_int.1 g11)
  refine yA 5 11 ?_
  refine Sch.nil ?_
  refine run_sq ?_
  refine run_pl [yy 0, yy 1, yy 2] ?_
  refine yM 12 5 ?_
  refine yM 13 3 ?_
  refine yV (kq 14 (.binOp .neq 3 (.tmp 12) (.tmp 13) 3)) (fun _ => val_neq rfl rfl) ?_
  refine Sch.nil ?_
  refine run_i 14 rfl (fun h14 => ?_) (fun h14 => ?_)
  ·
   rw [if_neg h14] at ho
   refine run_sq ?_
   refine run_pl [yy 0, yy 1] ?_
   refine yM 15 5 ?_
   refine yA 2 15 ?_
   refine Sch.nil ?_
   refine run_ret1 (by kernel_rfl) Tryz.func77 Tryz.results77 rfl ?_
   exact ⟨by rw [ho], rfl⟩
  ·
   have h14 : l[i] = 0 := by simpa using h14
   rw [if_pos h14] at ho
   refine run_sk ?_
   refine run_inBlock ?_
   refine run_pl [yy 0, yy 1] ?_
   refine yV (kq 16 (.binOp .add 3 (.tmp 8) (.const (.int .i64 1)) 3)) (fun _ => val_addi rfl rfl (by omega) (by omega)) ?_
   refine yM 8 16 ?_
   refine Sch.nil ?_
   refine kp ?_ (next (i + 1) _ ⟨by omega, rfl, ho⟩ (by omega))
   exact sub_cons 3 rfl rfl (sub_cons 6 rfl rfl (sub_cons 7 rfl rfl (sub_cons 8 rfl (eq_int (by simp)) (sub_nil _))))
 ·
  have hil : i = l.length := by omega
  refine run_ex 0 ?_
  refine run_sq ?_
  refine run_pl [yy 0, yy 1] ?_
  refine yM 17 3 ?_
  refine yA 2 17 ?_
  refine Sch.nil ?_
  refine run_ret1 (by kernel_rfl) Tryz.func77 Tryz.results77 rfl ?_
  subst hil
  rw [List.drop_length] at ho
  exact ⟨by rw [← ho]; rfl, rfl⟩
namespace F107
noncomputable def c0 := bodyOf Tryz.f107
end F107
theorem isNaN_ok (x : Int) (w : World) : Calls Tryz.prog 107 #[.int .i64 x] w (Ret fun v w' => v = .bool false ∧ w' = w) := by
 refine calls_start (c := F107.c0) (N := 6) [.int .i64 x] Tryz.func107 (by kernel_rfl) (by kernel_rfl) (by kernel_rfl) ?_
 show Run _ _ _ _ [(0, .int .i64 x)] _ _
 refine run_sq ?_
 refine run_pl [yy 0] ?_
 refine yAc 2 (.bool false) ?_
 refine Sch.nil ?_
 refine run_sq ?_
 refine run_pl [yy 0, yy 1, yy 2, yy 3] ?_
 refine yM 3 0 ?_
 refine yM 4 0 ?_
 refine yV (kq 5 (.binOp .neq 3 (.tmp 3) (.tmp 4) 3)) (fun _ => val_neq rfl rfl) ?_
 refine yA 2 5 ?_
 refine Sch.nil ?_
 refine run_ret1 (by kernel_rfl) Tryz.func107 Tryz.results107 rfl ?_
 exact ⟨by simp, rfl⟩
namespace F79
noncomputable def c0 := bodyOf Tryz.f79
noncomputable def c8 := (cl (cl (cr (cr (cr c0)))))
noncomputable def c9 := (cr (cl (cr (cr (cr c0)))))
noncomputable def c15 := (cl (cl (cr (cl (cl c9)))))
noncomputable def c23 := (cl (cr (cr (cr (cr c0)))))
noncomputable def c30 := (cr (cr (cr (cr (cr c0)))))
noncomputable def c43 := (cl (cl (cr (cl (cr c30)))))
end F79
/-- 'cmp.Compare'. -/
theorem cmpI_ok (x y : Int) (w : World) : Calls Tryz.prog 79 #[.int .i64 x, .int .i64 y] w (Ret fun v w' => v = .int .i64 (cmpI x y) ∧ w' = w) := by
 refine calls_start (c := F79.c0) (N := 20) [.int .i64 x, .int .i64 y] Tryz.func79 (by kernel_rfl) (by kernel_rfl) (by kernel_rfl) ?_
 show Run _ _ _ _ [(0, .int .i64 x), (1, .int .i64 y)] _ _
 refine run_sq ?_
 refine run_pl [yy 0] ?_
 refine yAc 4 (.int .i64 0) ?_
 refine Sch.nil ?_
 refine run_sq ?_
 refine run_pl [yy 0, nn 1, yy 2] ?_
 refine yM 7 0 ?_
 refine cS (kq 8 (.call { callee := .value (.func 107), args := #[(.tmp 7)], argTypes := #[3] })) rfl rfl (ent Tryz.call107 rfl) (isNaN_ok _ _) ?_
 rintro vw1 w1 ⟨rfl, rfl⟩
 refine ⟨trivial, ?_⟩
 refine yA 5 8 ?_
 refine Sch.nil ?_
 refine run_sq ?_
 refine run_pl [yy 0, nn 1, yy 2] ?_
 refine yM 9 1 ?_
 refine cS (kq 10 (.call { callee := .value (.func 107), args := #[(.tmp 9)], argTypes := #[3] })) rfl rfl (ent Tryz.call107 rfl) (isNaN_ok _ _) ?_
 rintro vw2 w2 ⟨rfl, rfl⟩
 refine ⟨trivial, ?_⟩
 refine yA 6 10 ?_
 refine Sch.nil ?_
 refine run_sq ?_
 refine run_sq ?_
 refine run_pl [yy 0] ?_
 refine yM 11 5 ?_
 refine Sch.nil ?_
 refine run_cF 11 ?_
 refine run_sk ?_
 refine run_sq ?_
 refine run_sq ?_
 refine run_pl [yy 0] ?_
 refine yM 13 6 ?_
 refine Sch.nil ?_
 refine run_cF 13 ?_
 refine run_sk ?_
 refine run_sq ?_
 refine run_sq ?_
 refine run_pl [yy 0, yy 1, yy 2] ?_
 refine yM 14 0 ?_
 refine yM 15 1 ?_
 refine yV (kq 16 (.binOp .lss 3 (.tmp 14) (.tmp 15) 3)) (fun _ => val_lss rfl rfl) ?_
 refine Sch.nil ?_
 refine run_i 16 rfl (fun h16 => ?_) (fun h16 => ?_)
 ·
  refine run_sq ?_
  refine run_pl [yy 0] ?_
  refine yV (kq 4 (.assign (.const (.int .i64 (-1))))) (fun _ => val_assign rfl) ?_
  refine Sch.nil ?_
  refine run_ret1 (by kernel_rfl) Tryz.func79 Tryz.results79 rfl ?_
  exact ⟨eq_int (by unfold cmpI; split <;> (try split) <;> omega), rfl⟩
 ·
  refine run_sk ?_
  refine run_sq ?_
  refine run_sq ?_
  refine run_pl [yy 0, yy 1, yy 2] ?_
  refine yM 17 0 ?_
  refine yM 18 1 ?_
  refine yV (kq 19 (.binOp .gtr 3 (.tmp 17) (.tmp 18) 3)) (fun _ => val_gtr rfl rfl) ?_
  refine Sch.nil ?_
  refine run_i 19 rfl (fun h19 => ?_) (fun h19 => ?_)
  ·
   refine run_sq ?_
   refine run_pl [yy 0] ?_
   refine yAc 4 (.int .i64 1) ?_
   refine Sch.nil ?_
   refine run_ret1 (by kernel_rfl) Tryz.func79 Tryz.results79 rfl ?_
   exact ⟨eq_int (by unfold cmpI; split <;> (try split) <;> omega), rfl⟩
  ·
   refine run_sk ?_
   refine run_sq ?_
   refine run_pl [yy 0] ?_
   refine yAc 4 (.int .i64 0) ?_
   refine Sch.nil ?_
   refine run_ret1 (by kernel_rfl) Tryz.func79 Tryz.results79 rfl ?_
   exact ⟨eq_int (by unfold cmpI; split <;> (try split) <;> omega), rfl⟩
namespace F78
noncomputable def c0 := bodyOf Tryz.f78
noncomputable def o1 := rops (cl (cr c0))
end F78
/-- The order of couples. -/
theorem compare_ok {w₀ : World} {C : Nat → Nat} {x y : Couple} (hF : Lim w₀ C) : Calls Tryz.prog 78 #[.agg #[.int .i64 x.a, .int .i64 x.b], .agg #[.int .i64 y.a, .int .i64 y.b]] w₀ (Ret fun v w' => v = .int .i64 (cmpC x y) ∧ Stp [] w₀ C w' C) := by
 have hF0 := hF
 have hT := Stp.refl [2, 3, 4, 5, 6, 7, 8, 9] w₀ (col1 C)
 replace hF := hF.col1
 refine calls_start (c := F78.c0) (N := 17) [.agg #[.int .i64 x.a, .int .i64 x.b], .agg #[.int .i64 y.a, .int .i64 y.b]] Tryz.func78 (by kernel_rfl) (by kernel_rfl) (by kernel_rfl) ?_
 show Run _ _ _ _ [(0, .agg #[.int .i64 x.a, .int .i64 x.b]), (1, .agg #[.int .i64 y.a, .int .i64 y.b])] _ _
 refine run_sq ?_
 refine run_pl [nn 0, nn 1, yy 2] ?_
 refine aS (kq 2 (.box 32 (.tmp 0))) rfl rfl (a_box (cs := [.int .i64 x.a, .int .i64 x.b]) hF 3 rfl rfl) ?_
 rintro _ w1 ⟨Cw1, bw1, rfl, hs, hx, hF⟩
 refine ⟨trivial, ?_⟩
 replace hT := hT.t hs
 refine aS (kq 3 (.box 32 (.tmp 1))) rfl rfl (a_box (cs := [.int .i64 y.a, .int .i64 y.b]) hF 3 rfl rfl) ?_
 rintro _ w2 ⟨Cw2, bw2, rfl, hs, hy, hF⟩
 refine ⟨trivial, ?_⟩
 replace hT := hT.t hs; replace hx := hx.t hs
 refine yAc 4 (.int .i64 0) ?_
 refine Sch.nil ?_
 refine run_sq ?_
 refine run_draw (id := 1) (ops := F78.o1) [] (Cw2) [yy 0, yy 1, yy 2, yy 3, yy 5, yy 6, yy 7, yy 8, nn 4, nn 9, nn 10, nn 11, yy 12] Tryz_mixed (by kernel_rfl) (by kernel_rfl) (by kernel_rfl) ?_
 intro w3 hs
 replace hF := hF.st hs
 replace hT := hT.t hs; replace hx := hx.t hs; replace hy := hy.t hs
 have hR := Stp.refl [] w3 (Cw2)
 refine yF 5 32 2 0 0 ?_
 refine yS (kq 6 (.load 3 (.tmp 5))) rfl rfl (fun w' hS => val_loadOwn (hx.sy hS) (by kernel_rfl) rfl rfl) ?_
 refine yF 7 32 3 0 0 ?_
 refine yS (kq 8 (.load 3 (.tmp 7))) rfl rfl (fun w' hS => val_loadOwn (hy.sy hS) (by kernel_rfl) rfl rfl) ?_
 refine yF 10 32 2 1 1 ?_
 refine yS (kq 11 (.load 3 (.tmp 10))) rfl rfl (fun w' hS => val_loadOwn (hx.sy hS) (by kernel_rfl) rfl rfl) ?_
 refine yF 12 32 3 1 1 ?_
 refine yS (kq 13 (.load 3 (.tmp 12))) rfl rfl (fun w' hS => val_loadOwn (hy.sy hS) (by kernel_rfl) rfl rfl) ?_
 refine cS (kq 9 (.call { callee := .value (.func 79), args := #[(.tmp 6), (.tmp 8)], argTypes := #[3, 3] })) rfl rfl (ent Tryz.call79 rfl) (cmpI_ok _ _ _) ?_
 rintro vw4 w4 ⟨rfl, rfl⟩
 refine ⟨hR.ext, ?_⟩
 refine cS (kq 14 (.call { callee := .value (.func 79), args := #[(.tmp 11), (.tmp 13)], argTypes := #[3, 3] })) rfl rfl (ent Tryz.call79 rfl) (cmpI_ok _ _ _) ?_
 rintro vw5 w5 ⟨rfl, rfl⟩
 refine ⟨hR.ext, ?_⟩
 refine aS (kq 15 (.buildSlice 22 2 #[(0, (.tmp 9)), (1, (.tmp 14))])) rfl rfl (a_buildSlice (ys := ([cmpI x.a y.a, cmpI x.b y.b] : List Int)) (e := 3) (bytes := 8) hF (by kernel_rfl) rfl (by decide) (by decide) ⟨rfl, ⟨_, rfl, rv_int.2 rfl⟩, rfl, ⟨_, rfl, rv_int.2 rfl⟩, trivial⟩) ?_
 rintro v15 w6 ⟨hs, g15, hF⟩
 refine ⟨(hR.trans hs (by simp)).ext, ?_⟩
 replace hT := hT.t hs; replace hx := hx.t hs; replace hy := hy.t hs; replace hR := hR.t hs
 refine cS (kq 16 (.call { callee := .value (.func 77), args := #[(.tmp 15)], argTypes := #[22] })) rfl rfl (ent Tryz.call77 rfl) (orI_ok g15) ?_
 rintro vw7 w7 ⟨rfl, rfl⟩
 refine ⟨hR.ext, ?_⟩
 refine yA 4 16 ?_
 refine Sch.nil ?_
 refine run_ret1 (by kernel_rfl) Tryz.func78 Tryz.results78 rfl ?_
 exact ⟨rfl, hT.out1 (by decide)⟩
namespace F121
noncomputable def c0 := bodyOf Tryz.f121
end F121
theorem fits_ok (x : Int) (w : World) : Calls Tryz.prog 121 #[.int .i64 x] w (Ret fun v w' => v = .bool (decide (fitW x)) ∧ w' = w) := by
 refine calls_start (c := F121.c0) (N := 9) [.int .i64 x] Tryz.func121 (by kernel_rfl) (by kernel_rfl) (by kernel_rfl) ?_
 show Run _ _ _ _ [(0, .int .i64 x)] _ _
 refine run_sq ?_
 refine run_pl [yy 0] ?_
 refine yAc 2 (.bool false) ?_
 refine Sch.nil ?_
 refine run_sq ?_
 by_cases hA : -65536 ≤ x
 ·
  refine run_pl [yy 0, yy 1, yy 2, yy 3, yy 4, yy 5, yy 6] ?_
  refine yM 3 0 ?_
  refine yV (kq 4 (.binOp .geq 3 (.tmp 3) (.const (.int .i64 (-65536))) 3)) (fun _ => val_T (val_geq rfl rfl) hA) ?_
  refine yM 5 4 ?_
  refine yMg 6 0 2 true ?_
  refine yV (kg 7 (.binOp .leq 3 (.tmp 6) (.const (.int .i64 65536)) 3) 2 true) (fun _ => val_leq rfl rfl) ?_
  refine yAt 8 5 7 ?_
  refine yA 2 8 ?_
  refine Sch.nil ?_
  refine run_ret1 (by kernel_rfl) Tryz.func121 Tryz.results121 rfl ?_
  exact ⟨by congr 1; apply decide_eq_decide.2; unfold fitW; omega, rfl⟩
 ·
  refine run_pl [yy 0, yy 1, yy 2, yy 3, yy 4, yy 5, yy 6] ?_
  refine yM 3 0 ?_
  refine yV (kq 4 (.binOp .geq 3 (.tmp 3) (.const (.int .i64 (-65536))) 3)) (fun _ => val_F (val_geq rfl rfl) hA) ?_
  refine yM 5 4 ?_
  refine pX 6 2 true ?_
  refine pX 7 2 true ?_
  refine yAf 8 5 7 ?_
  refine yA 2 8 ?_
  refine Sch.nil ?_
  refine run_ret1 (by kernel_rfl) Tryz.func121 Tryz.results121 rfl ?_
  exact ⟨by rw [decide_eq_false (fun e => hA e.1)], rfl⟩
namespace F127
noncomputable def c0 := bodyOf Tryz.f127
end F127
theorem fits25_ok (x : Int) (w : World) : Calls Tryz.prog 127 #[.int .i64 x] w (Ret fun v w' => v = .bool (decide (fitW x)) ∧ w' = w) := by
 refine calls_start (c := F127.c0) (N := 9) [.int .i64 x] Tryz.func127 (by kernel_rfl) (by kernel_rfl) (by kernel_rfl) ?_
 show Run _ _ _ _ [(0, .int .i64 x)] _ _
 refine run_sq ?_
 refine run_pl [yy 0] ?_
 refine yAc 2 (.bool false) ?_
 refine Sch.nil ?_
 refine run_sq ?_
 by_cases hA : -65536 ≤ x
 ·
  refine run_pl [yy 0, yy 1, yy 2, yy 3, yy 4, yy 5, yy 6] ?_
  refine yM 3 0 ?_
  refine yV (kq 4 (.binOp .geq 3 (.tmp 3) (.const (.int .i64 (-65536))) 3)) (fun _ => val_T (val_geq rfl rfl) hA) ?_
  refine yM 5 4 ?_
  refine yMg 6 0 2 true ?_
  refine yV (kg 7 (.binOp .leq 3 (.tmp 6) (.const (.int .i64 65536)) 3) 2 true) (fun _ => val_leq rfl rfl) ?_
  refine yAt 8 5 7 ?_
  refine yA 2 8 ?_
  refine Sch.nil ?_
  refine run_ret1 (by kernel_rfl) Tryz.func127 Tryz.results127 rfl ?_
  exact ⟨by congr 1; apply decide_eq_decide.2; unfold fitW; omega, rfl⟩
 ·
  refine run_pl [yy 0, yy 1, yy 2, yy 3, yy 4, yy 5, yy 6] ?_
  refine yM 3 0 ?_
  refine yV (kq 4 (.binOp .geq 3 (.tmp 3) (.const (.int .i64 (-65536))) 3)) (fun _ => val_F (val_geq rfl rfl) hA) ?_
  refine yM 5 4 ?_
  refine pX 6 2 true ?_
  refine pX 7 2 true ?_
  refine yAf 8 5 7 ?_
  refine yA 2 8 ?_
  refine Sch.nil ?_
  refine run_ret1 (by kernel_rfl) Tryz.func127 Tryz.results127 rfl ?_
  exact ⟨by rw [decide_eq_false (fun e => hA e.1)], rfl⟩
namespace F94
noncomputable def c0 := bodyOf Tryz.f94
noncomputable def c7 := (cl (cl (cr (cl (cr c0)))))
noncomputable def c14 := (cl (cr (cl (cr (cr c0)))))
noncomputable def c23 := (cl (cl (cr (cr (cl c14)))))
end F94
/-- Weights that are valid. -/
theorem wcheck_ok {w₀ : World} {C : Nat → Nat} {pr : Int} {ag df : List Int} {va vd : Value} (hF : Lim w₀ C) (hW : WOK pr ag df) (ha : RV w₀ (Mc C) ag va) (hd : RV w₀ (Mc C) df vd) : Calls Tryz.prog 94 #[.agg #[.int .i64 pr, va, vd]] w₀ (Ret fun v w' => v = .int .i64 0 ∧ Stp [] w₀ C w' C) := by
 have hF0 := hF
 have hT := Stp.refl [2, 3, 4, 5, 6, 7, 8, 9] w₀ (col1 C)
 replace hF := hF.col1
 replace ha : RV w₀ (Mc (col1 C)) ag va := by rw [Mc_col1]; exact ha
 replace hd : RV w₀ (Mc (col1 C)) df vd := by rw [Mc_col1]; exact hd
 refine calls_start (c := F94.c0) (N := 52) [.agg #[.int .i64 pr, va, vd]] Tryz.func94 (by kernel_rfl) (by kernel_rfl) (by kernel_rfl) ?_
 show Run _ _ _ _ [(0, .agg #[.int .i64 pr, va, vd])] _ _
 refine run_sq ?_
 refine run_pl [nn 0, yy 1] ?_
 refine aS (kq 1 (.box 28 (.tmp 0))) rfl rfl (a_box (cs := [.int .i64 pr, va, vd]) hF 3 rfl rfl) ?_
 rintro _ w1 ⟨Cw1, bw1, rfl, hs, hx, hF⟩
 refine ⟨trivial, ?_⟩
 replace hT := hT.t hs; replace ha := ha.t hs; replace hd := hd.t hs
 refine yAc 2 (.int .i64 0) ?_
 refine Sch.nil ?_
 refine run_sq ?_
 refine run_sq ?_
 refine run_pl [yy 0, nn 1, yy 2, yy 3, yy 4, yy 5, nn 6, yy 7, yy 8, yy 9, yy 10, yy 11, nn 12, yy 13, yy 14, nn 15, yy 16, yy 17, yy 18, yy 19, yy 20, nn 21, nn 22, yy 23, yy 24] ?_
 refine yF 4 28 1 1 1 ?_
 refine nS (kq 5 (.load 22 (.tmp 4))) rfl rfl trivial (val_loadOwn hx.at_ (by kernel_rfl) rfl rfl) ?_
 refine yS (kq 6 (.call { callee := .builtin .len, args := #[(.tmp 5)], argTypes := #[22] })) rfl rfl (fun w' hS => ha.lenV rfl Tryz.underlying22 w' ) ?_
 refine yV (kq 7 (.binOp .lss 3 (.tmp 6) (.const (.int .i64 1)) 3)) (fun _ => val_is (val_lss rfl rfl) (show _ = Value.bool false from congrArg Value.bool (decide_eq_false (by have := hW.l1; have := hW.l5; have := hW.ld; omega)))) ?_
 refine yM 8 7 ?_
 refine yFg 9 28 1 1 1 4 false ?_
 refine nS (kg 10 (.load 22 (.tmp 9)) 4 false) rfl rfl trivial (val_loadOwn hx.at_ (by kernel_rfl) rfl rfl) ?_
 refine yS (kg 11 (.call { callee := .builtin .len, args := #[(.tmp 10)], argTypes := #[22] }) 4 false) rfl rfl (fun w' hS => ha.lenV rfl Tryz.underlying22 w' ) ?_
 refine yV (kg 12 (.binOp .gtr 3 (.tmp 11) (.const (.int .i64 5)) 3) 4 false) (fun _ => val_is (val_gtr rfl rfl) (show _ = Value.bool false from congrArg Value.bool (decide_eq_false (by have := hW.l1; have := hW.l5; have := hW.ld; omega)))) ?_
 refine yOf 13 8 12 ?_
 refine yM 14 13 ?_
 refine yFg 15 28 1 2 2 10 false ?_
 refine nS (kg 16 (.load 22 (.tmp 15)) 10 false) rfl rfl trivial (val_loadOwn hx.at_ (by kernel_rfl) rfl rfl) ?_
 refine yS (kg 17 (.call { callee := .builtin .len, args := #[(.tmp 16)], argTypes := #[22] }) 10 false) rfl rfl (fun w' hS => hd.lenV rfl Tryz.underlying22 w' ) ?_
 refine yFg 18 28 1 1 1 10 false ?_
 refine nS (kg 19 (.load 22 (.tmp 18)) 10 false) rfl rfl trivial (val_loadOwn hx.at_ (by kernel_rfl) rfl rfl) ?_
 refine yS (kg 20 (.call { callee := .builtin .len, args := #[(.tmp 19)], argTypes := #[22] }) 10 false) rfl rfl (fun w' hS => ha.lenV rfl Tryz.underlying22 w' ) ?_
 refine yV (kg 21 (.binOp .neq 3 (.tmp 17) (.tmp 20) 3) 10 false) (fun _ => val_is (val_neq rfl rfl) (show _ = Value.bool false from congrArg Value.bool (decide_eq_false (by have := hW.l1; have := hW.l5; have := hW.ld; omega)))) ?_
 refine yOf 22 14 21 ?_
 refine yM 23 22 ?_
 refine yFg 24 28 1 0 0 19 false ?_
 refine nS (kg 25 (.load 3 (.tmp 24)) 19 false) rfl rfl trivial (val_loadOwn hx.at_ (by kernel_rfl) rfl rfl) ?_
 refine cS (kg 26 (.call { callee := .value (.func 121), args := #[(.tmp 25)], argTypes := #[3] }) 19 false) rfl rfl (ent Tryz.call121 rfl) (fits_ok _ _) ?_
 rintro vw2 w2 ⟨rfl, rfl⟩
 rw [decide_eq_true (hW.fp)]
 refine ⟨trivial, ?_⟩
 refine yV (kg 27 (.unOp .not 4 (.tmp 26)) 19 false) (fun _ => val_not rfl) ?_
 refine yOf 28 23 27 ?_
 refine Sch.nil ?_
 refine run_cF 28 ?_
 refine run_sk ?_
 refine run_sq ?_
 refine run_sq ?_
 refine run_pl [yy 0, nn 1, yy 2, yy 3] ?_
 refine yF 29 28 1 1 1 ?_
 refine nS (kq 30 (.load 22 (.tmp 29))) rfl rfl trivial (val_loadOwn hx.at_ (by kernel_rfl) rfl rfl) ?_
 refine yS (kq 31 (.call { callee := .builtin .len, args := #[(.tmp 30)], argTypes := #[22] })) rfl rfl (fun w' hS => ha.lenV rfl Tryz.underlying22 w' ) ?_
 refine yV (kq 32 (.move (.const (.int .i64 0)))) (fun _ => val_move rfl) ?_
 refine Sch.nil ?_
 refine run_bk 0 ?_
 
 refine run_lp (ι := Nat × (Nat → Nat)) (I := fun x w => x.1 ≤ ag.length ∧ Lim w x.2 ∧ Stp [2, 3, 4, 5, 6, 7, 8, 9] w₀ (col1 C) w x.2 ∧ RV w (Mc x.2) ag va ∧ RV w (Mc x.2) df vd ∧ OwnB w x.2 3 bw1 (.cells [.int .i64 pr, va, vd].toArray 28)) (e := fun x => [(1, .pointer (some ⟨bw1, 0, none⟩)), (31, .int .i64 ag.length), (32, .int .i64 x.1)]) (m := fun x => ag.length - x.1) (x₀ := (0, Cw1)) (sr 1 (sr 31 (sr 32 (sub_nil _)))) ?_ ?_
 · exact ⟨Nat.zero_le _, hF, hT, ha, hd, hx⟩
 intro ⟨i, C1⟩ w3 hI next
 obtain ⟨hi, hF, hT, ha, hd, hx⟩ := hI
 try simp only at hi hF hT ha hd hx
 have next1 := next
 clear next
 show Run _ _ _ _ [(1, .pointer (some ⟨bw1, 0, none⟩)), (31, .int .i64 ag.length), (32, .int .i64 i)] _ _
 have hle := hW.l5
 have hld := hW.ld
 refine run_sq ?_
 refine run_pl [yy 0] ?_
 refine yV (kq 33 (.binOp .lss 3 (.tmp 32) (.tmp 31) 3)) (fun _ => val_lss rfl rfl) ?_
 refine Sch.nil ?_
 refine run_sq ?_
 refine run_i 33 rfl (fun h33 => ?_) (fun h33 => ?_)
 ·
  have hil : i < ag.length := by omega
  have hid : i < df.length := by omega
  refine run_sk ?_
  refine run_sq ?_
  refine run_bk 1 ?_
  refine run_sq ?_
  refine run_pl [yy 0, yy 1] ?_
  refine yM 34 32 ?_
  refine yA 3 34 ?_
  refine Sch.nil ?_
  refine run_sq ?_
  refine run_pl [yy 0, nn 1, yy 2, yy 3, nn 4, nn 5, yy 6, yy 7, yy 8, nn 9, yy 10, yy 11, nn 12, nn 13, yy 14, yy 15] ?_
  refine yF 35 28 1 1 1 ?_
  refine nS (kq 36 (.load 22 (.tmp 35))) rfl rfl trivial (val_loadOwn hx.at_ (by kernel_rfl) rfl rfl) ?_
  refine yM 37 3 ?_
  refine iS (e := 3) (kq 38 (.indexAddr 22 (.tmp 36) (.tmp 37))) rfl rfl ha rfl (by kernel_rfl) rfl (by omega) (by omega) ?_
  intro b38 o38 h38
  try simp only [Int.toNat_natCast] at h38
  refine lN (kq 39 (.load 3 (.tmp 38))) rfl rfl trivial h38 (by kernel_rfl) rfl rfl ?_
  intro v39 g39
  first | (obtain rfl := rv_nat.1 g39) | (obtain rfl := rv_int.1 g39)
  refine cS (kq 40 (.call { callee := .value (.func 121), args := #[(.tmp 39)], argTypes := #[3] })) rfl rfl (ent Tryz.call121 rfl) (fits_ok _ _) ?_
  rintro vw4 w4 ⟨rfl, rfl⟩
  rw [decide_eq_true (hW.fa i hil)]
  refine ⟨trivial, ?_⟩
  refine yV (kq 41 (.unOp .not 4 (.tmp 40))) (fun _ => val_not rfl) ?_
  refine yM 42 41 ?_
  refine yFg 43 28 1 2 2 7 false ?_
  refine nS (kg 44 (.load 22 (.tmp 43)) 7 false) rfl rfl trivial (val_loadOwn hx.at_ (by kernel_rfl) rfl rfl) ?_
  refine yMg 45 3 7 false ?_
  refine iS (e := 3) (kg 46 (.indexAddr 22 (.tmp 44) (.tmp 45)) 7 false) rfl rfl hd rfl (by kernel_rfl) rfl (by omega) (by omega) ?_
  intro b46 o46 h46
  try simp only [Int.toNat_natCast] at h46
  refine lN (kg 47 (.load 3 (.tmp 46)) 7 false) rfl rfl trivial h46 (by kernel_rfl) rfl rfl ?_
  intro v47 g47
  first | (obtain rfl := rv_nat.1 g47) | (obtain rfl := rv_int.1 g47)
  refine cS (kg 48 (.call { callee := .value (.func 121), args := #[(.tmp 47)], argTypes := #[3] }) 7 false) rfl rfl (ent Tryz.call121 rfl) (fits_ok _ _) ?_
  rintro vw5 w5 ⟨rfl, rfl⟩
  rw [decide_eq_true (hW.fd i hid)]
  refine ⟨trivial, ?_⟩
  refine yV (kg 49 (.unOp .not 4 (.tmp 48)) 7 false) (fun _ => val_not rfl) ?_
  refine yOf 50 42 49 ?_
  refine Sch.nil ?_
  refine run_cF 50 ?_
  refine run_sk ?_
  refine run_inBlock ?_
  refine run_pl [yy 0, yy 1] ?_
  refine yV (kq 51 (.binOp .add 3 (.tmp 32) (.const (.int .i64 1)) 3)) (fun _ => val_addi rfl rfl (by omega) (by omega)) ?_
  refine yM 32 51 ?_
  refine Sch.nil ?_
  refine kp (sub_cons 1 rfl rfl (sub_cons 31 rfl rfl (sub_cons 32 rfl (eq_int (by simp)) (sub_nil _)))) (next1 (i + 1, C1) _ ⟨(by first | omega | (simp only; omega)), hF, hT, ha, hd, hx⟩ (by first | omega | (simp only; omega)))
 ·
  have hil : i = ag.length := by omega
  refine run_ex 0 ?_
  refine run_sq ?_
  refine run_pl [yy 0] ?_
  refine yAc 2 (.int .i64 0) ?_
  refine Sch.nil ?_
  refine run_ret1 (by kernel_rfl) Tryz.func94 Tryz.results94 rfl ?_
  exact ⟨rfl, hT.out1 (by decide)⟩
namespace F100
noncomputable def c0 := bodyOf Tryz.f100
noncomputable def c7 := (cl (cl (cr (cl (cr c0)))))
noncomputable def c14 := (cl (cr (cl (cr (cr c0)))))
noncomputable def c24 := (cl (cl (cl (cr (cl c14)))))
noncomputable def c25 := (cr (cl (cl (cr (cl c14)))))
end F100
/-- Weights that are valid. -/
theorem wcheck25_ok {w₀ : World} {C : Nat → Nat} {pr : Int} {ag df : List Int} {va vd : Value} (hF : Lim w₀ C) (hW : WOK pr ag df) (ha : RV w₀ (Mc C) ag va) (hd : RV w₀ (Mc C) df vd) : Calls Tryz.prog 100 #[.agg #[.int .i64 pr, va, vd]] w₀ (Ret fun v w' => v = .int .i64 0 ∧ Stp [] w₀ C w' C) := by
 have hF0 := hF
 have hT := Stp.refl [2, 3, 4, 5, 6, 7, 8, 9] w₀ (col1 C)
 replace hF := hF.col1
 replace ha : RV w₀ (Mc (col1 C)) ag va := by rw [Mc_col1]; exact ha
 replace hd : RV w₀ (Mc (col1 C)) df vd := by rw [Mc_col1]; exact hd
 refine calls_start (c := F100.c0) (N := 52) [.agg #[.int .i64 pr, va, vd]] Tryz.func100 (by kernel_rfl) (by kernel_rfl) (by kernel_rfl) ?_
 show Run _ _ _ _ [(0, .agg #[.int .i64 pr, va, vd])] _ _
 refine run_sq ?_
 refine run_pl [nn 0, yy 1] ?_
 refine aS (kq 1 (.box 28 (.tmp 0))) rfl rfl (a_box (cs := [.int .i64 pr, va, vd]) hF 3 rfl rfl) ?_
 rintro _ w1 ⟨Cw1, bw1, rfl, hs, hx, hF⟩
 refine ⟨trivial, ?_⟩
 replace hT := hT.t hs; replace ha := ha.t hs; replace hd := hd.t hs
 refine yAc 2 (.int .i64 0) ?_
 refine Sch.nil ?_
 refine run_sq ?_
 refine run_sq ?_
 refine run_pl [yy 0, nn 1, yy 2, yy 3, nn 4, yy 5, yy 6, yy 7, yy 8, nn 9, yy 10, yy 11, yy 12, yy 13, yy 14, nn 15, yy 16, yy 17, yy 18, yy 19, yy 20, nn 21, nn 22, yy 23, yy 24] ?_
 refine yF 4 28 1 1 1 ?_
 refine nS (kq 5 (.load 22 (.tmp 4))) rfl rfl trivial (val_loadOwn hx.at_ (by kernel_rfl) rfl rfl) ?_
 refine yS (kq 6 (.call { callee := .builtin .len, args := #[(.tmp 5)], argTypes := #[22] })) rfl rfl (fun w' hS => ha.lenV rfl Tryz.underlying22 w' ) ?_
 refine yF 7 28 1 2 2 ?_
 refine nS (kq 8 (.load 22 (.tmp 7))) rfl rfl trivial (val_loadOwn hx.at_ (by kernel_rfl) rfl rfl) ?_
 refine yS (kq 9 (.call { callee := .builtin .len, args := #[(.tmp 8)], argTypes := #[22] })) rfl rfl (fun w' hS => hd.lenV rfl Tryz.underlying22 w' ) ?_
 refine yV (kq 10 (.binOp .neq 3 (.tmp 6) (.tmp 9) 3)) (fun _ => val_is (val_neq rfl rfl) (show _ = Value.bool false from congrArg Value.bool (decide_eq_false (by have := hW.l1; have := hW.l5; have := hW.ld; omega)))) ?_
 refine yM 11 10 ?_
 refine yFg 12 28 1 1 1 7 false ?_
 refine nS (kg 13 (.load 22 (.tmp 12)) 7 false) rfl rfl trivial (val_loadOwn hx.at_ (by kernel_rfl) rfl rfl) ?_
 refine yS (kg 14 (.call { callee := .builtin .len, args := #[(.tmp 13)], argTypes := #[22] }) 7 false) rfl rfl (fun w' hS => ha.lenV rfl Tryz.underlying22 w' ) ?_
 refine yV (kg 15 (.binOp .lss 3 (.tmp 14) (.const (.int .i64 1)) 3) 7 false) (fun _ => val_is (val_lss rfl rfl) (show _ = Value.bool false from congrArg Value.bool (decide_eq_false (by have := hW.l1; have := hW.l5; have := hW.ld; omega)))) ?_
 refine yOf 16 11 15 ?_
 refine yM 17 16 ?_
 refine yFg 18 28 1 1 1 13 false ?_
 refine nS (kg 19 (.load 22 (.tmp 18)) 13 false) rfl rfl trivial (val_loadOwn hx.at_ (by kernel_rfl) rfl rfl) ?_
 refine yS (kg 20 (.call { callee := .builtin .len, args := #[(.tmp 19)], argTypes := #[22] }) 13 false) rfl rfl (fun w' hS => ha.lenV rfl Tryz.underlying22 w' ) ?_
 refine yV (kg 21 (.binOp .gtr 3 (.tmp 20) (.const (.int .i64 5)) 3) 13 false) (fun _ => val_is (val_gtr rfl rfl) (show _ = Value.bool false from congrArg Value.bool (decide_eq_false (by have := hW.l1; have := hW.l5; have := hW.ld; omega)))) ?_
 refine yOf 22 17 21 ?_
 refine yM 23 22 ?_
 refine yFg 24 28 1 0 0 19 false ?_
 refine nS (kg 25 (.load 3 (.tmp 24)) 19 false) rfl rfl trivial (val_loadOwn hx.at_ (by kernel_rfl) rfl rfl) ?_
 refine cS (kg 26 (.call { callee := .value (.func 127), args := #[(.tmp 25)], argTypes := #[3] }) 19 false) rfl rfl (ent Tryz.call127 rfl) (fits25_ok _ _) ?_
 rintro vw2 w2 ⟨rfl, rfl⟩
 rw [decide_eq_true (hW.fp)]
 refine ⟨trivial, ?_⟩
 refine yV (kg 27 (.unOp .not 4 (.tmp 26)) 19 false) (fun _ => val_not rfl) ?_
 refine yOf 28 23 27 ?_
 refine Sch.nil ?_
 refine run_cF 28 ?_
 refine run_sk ?_
 refine run_sq ?_
 refine run_sq ?_
 refine run_pl [yy 0] ?_
 refine yAc 3 (.int .i64 0) ?_
 refine Sch.nil ?_
 refine run_bk 0 ?_
 
 refine run_lp (ι := Nat × (Nat → Nat)) (I := fun x w => x.1 ≤ ag.length ∧ Lim w x.2 ∧ Stp [2, 3, 4, 5, 6, 7, 8, 9] w₀ (col1 C) w x.2 ∧ RV w (Mc x.2) ag va ∧ RV w (Mc x.2) df vd ∧ OwnB w x.2 3 bw1 (.cells [.int .i64 pr, va, vd].toArray 28)) (e := fun x => [(1, .pointer (some ⟨bw1, 0, none⟩)), (3, .int .i64 x.1)]) (m := fun x => ag.length - x.1) (x₀ := (0, Cw1)) (sr 1 (sr 3 (sub_nil _))) ?_ ?_
 · exact ⟨Nat.zero_le _, hF, hT, ha, hd, hx⟩
 intro ⟨i, C1⟩ w3 hI next
 obtain ⟨hi, hF, hT, ha, hd, hx⟩ := hI
 try simp only at hi hF hT ha hd hx
 have next1 := next
 clear next
 show Run _ _ _ _ [(1, .pointer (some ⟨bw1, 0, none⟩)), (3, .int .i64 i)] _ _
 have hle := hW.l5
 have hld := hW.ld
 refine run_sq ?_
 refine run_sq ?_
 refine run_pl [yy 0, yy 1, nn 2, yy 3, yy 4] ?_
 refine yM 29 3 ?_
 refine yF 30 28 1 1 1 ?_
 refine nS (kq 31 (.load 22 (.tmp 30))) rfl rfl trivial (val_loadOwn hx.at_ (by kernel_rfl) rfl rfl) ?_
 refine yS (kq 32 (.call { callee := .builtin .len, args := #[(.tmp 31)], argTypes := #[22] })) rfl rfl (fun w' hS => ha.lenV rfl Tryz.underlying22 w' ) ?_
 refine yV (kq 33 (.binOp .lss 3 (.tmp 29) (.tmp 32) 3)) (fun _ => val_lss rfl rfl) ?_
 refine Sch.nil ?_
 refine run_i 33 rfl (fun h33 => ?_) (fun h33 => ?_)
 ·
  have hil : i < ag.length := by omega
  have hid : i < df.length := by omega
  refine run_sk ?_
  refine run_sq ?_
  refine run_bk 1 ?_
  refine run_sq ?_
  refine run_pl [yy 0, nn 1, yy 2, yy 3, nn 4, nn 5, yy 6, yy 7, yy 8, nn 9, yy 10, yy 11, nn 12, nn 13, yy 14, yy 15] ?_
  refine yF 36 28 1 1 1 ?_
  refine nS (kq 37 (.load 22 (.tmp 36))) rfl rfl trivial (val_loadOwn hx.at_ (by kernel_rfl) rfl rfl) ?_
  refine yM 38 3 ?_
  refine iS (e := 3) (kq 39 (.indexAddr 22 (.tmp 37) (.tmp 38))) rfl rfl ha rfl (by kernel_rfl) rfl (by omega) (by omega) ?_
  intro b39 o39 h39
  try simp only [Int.toNat_natCast] at h39
  refine lN (kq 40 (.load 3 (.tmp 39))) rfl rfl trivial h39 (by kernel_rfl) rfl rfl ?_
  intro v40 g40
  first | (obtain rfl := rv_nat.1 g40) | (obtain rfl := rv_int.1 g40)
  refine cS (kq 41 (.call { callee := .value (.func 127), args := #[(.tmp 40)], argTypes := #[3] })) rfl rfl (ent Tryz.call127 rfl) (fits25_ok _ _) ?_
  rintro vw4 w4 ⟨rfl, rfl⟩
  rw [decide_eq_true (hW.fa i hil)]
  refine ⟨trivial, ?_⟩
  refine yV (kq 42 (.unOp .not 4 (.tmp 41))) (fun _ => val_not rfl) ?_
  refine yM 43 42 ?_
  refine yFg 44 28 1 2 2 7 false ?_
  refine nS (kg 45 (.load 22 (.tmp 44)) 7 false) rfl rfl trivial (val_loadOwn hx.at_ (by kernel_rfl) rfl rfl) ?_
  refine yMg 46 3 7 false ?_
  refine iS (e := 3) (kg 47 (.indexAddr 22 (.tmp 45) (.tmp 46)) 7 false) rfl rfl hd rfl (by kernel_rfl) rfl (by omega) (by omega) ?_
  intro b47 o47 h47
  try simp only [Int.toNat_natCast] at h47
  refine lN (kg 48 (.load 3 (.tmp 47)) 7 false) rfl rfl trivial h47 (by kernel_rfl) rfl rfl ?_
  intro v48 g48
  first | (obtain rfl := rv_nat.1 g48) | (obtain rfl := rv_int.1 g48)
  refine cS (kg 49 (.call { callee := .value (.func 127), args := #[(.tmp 48)], argTypes := #[3] }) 7 false) rfl rfl (ent Tryz.call127 rfl) (fits25_ok _ _) ?_
  rintro vw5 w5 ⟨rfl, rfl⟩
  rw [decide_eq_true (hW.fd i hid)]
  refine ⟨trivial, ?_⟩
  refine yV (kg 50 (.unOp .not 4 (.tmp 49)) 7 false) (fun _ => val_not rfl) ?_
  refine yOf 51 43 50 ?_
  refine Sch.nil ?_
  refine run_cF 51 ?_
  refine run_sk ?_
  refine run_inBlock ?_
  refine run_pl [yy 0, yy 1, yy 2] ?_
  refine yM 34 3 ?_
  refine yV (kq 35 (.binOp .add 3 (.tmp 34) (.const (.int .i64 1)) 3)) (fun _ => val_addi rfl rfl (by omega) (by omega)) ?_
  refine yA 3 35 ?_
  refine Sch.nil ?_
  refine kp (sub_cons 1 rfl rfl (sub_cons 3 rfl (eq_int (by simp)) (sub_nil _))) (next1 (i + 1, C1) _ ⟨(by first | omega | (simp only; omega)), hF, hT, ha, hd, hx⟩ (by first | omega | (simp only; omega)))
 ·
  have hil : i = ag.length := by omega
  refine run_ex 0 ?_
  refine run_sq ?_
  refine run_pl [yy 0] ?_
  refine yAc 2 (.int .i64 0) ?_
  refine Sch.nil ?_
  refine run_ret1 (by kernel_rfl) Tryz.func100 Tryz.results100 rfl ?_
  exact ⟨rfl, hT.out1 (by decide)⟩
namespace F84
noncomputable def c0 := bodyOf Tryz.f84
end F84
theorem nfields_ok {n : Nat} (h1 : 1 ≤ n) (h5 : n ≤ 5) (w : World) : Calls Tryz.prog 84 #[.int .i64 n] w (Ret fun v w' => v = .bool true ∧ w' = w) := by
 refine calls_start (c := F84.c0) (N := 9) [.int .i64 n] Tryz.func84 (by kernel_rfl) (by kernel_rfl) (by kernel_rfl) ?_
 show Run _ _ _ _ [(0, .int .i64 n)] _ _
 refine run_sq ?_
 refine run_pl [yy 0] ?_
 refine yAc 2 (.bool false) ?_
 refine Sch.nil ?_
 refine run_sq ?_
 refine run_pl [yy 0, yy 1, yy 2, yy 3, yy 4, yy 5, yy 6] ?_
 refine yM 3 0 ?_
 refine yV (kq 4 (.binOp .geq 3 (.tmp 3) (.const (.int .i64 1)) 3)) (fun _ => val_is (val_geq rfl rfl) (show _ = Value.bool true from congrArg Value.bool (decide_eq_true (by omega)))) ?_
 refine yM 5 4 ?_
 refine yMg 6 0 2 true ?_
 refine yV (kg 7 (.binOp .leq 3 (.tmp 6) (.const (.int .i64 5)) 3) 2 true) (fun _ => val_is (val_leq rfl rfl) (show _ = Value.bool true from congrArg Value.bool (decide_eq_true (by omega)))) ?_
 refine yAt 8 5 7 ?_
 refine yA 2 8 ?_
 refine Sch.nil ?_
 refine run_ret1 (by kernel_rfl) Tryz.func84 Tryz.results84 rfl ?_
 exact ⟨rfl, rfl⟩
namespace F85
noncomputable def c0 := bodyOf Tryz.f85
end F85
theorem powers_ok {w₀ : World} {C : Nat → Nat} (hF : Lim w₀ C) : Calls Tryz.prog 85 #[] w₀ (Ret fun v w' => v = .agg #[.int .i64 1, .int .i64 3, .int .i64 9, .int .i64 27, .int .i64 81, .int .i64 243] ∧ Stp [] w₀ C w' C) := by
 have hF0 := hF
 have hT := Stp.refl [2, 3, 4, 5, 6, 7, 8, 9] w₀ (col1 C)
 replace hF := hF.col1
 refine calls_start (c := F85.c0) (N := 2) [] Tryz.func85 (by kernel_rfl) (by kernel_rfl) (by kernel_rfl) ?_
 show Run _ _ _ _ [] _ _
 refine run_sq ?_
 refine run_pl [nn 0] ?_
 refine aS (kq 0 (.alloc 122)) rfl rfl (a_alloc (cs := [.int .i64 0, .int .i64 0, .int .i64 0, .int .i64 0, .int .i64 0, .int .i64 0]) hF 3 (by kernel_rfl)) ?_
 rintro _ w1 ⟨Cw1, bw1, rfl, hs, hx, hF⟩
 refine ⟨trivial, ?_⟩
 replace hT := hT.t hs
 refine Sch.nil ?_
 refine run_sq ?_
 refine run_pl [yy 0, nn 1] ?_
 refine yV (kq 1 (.build 122 #[(0, (.const (.int .i64 1))), (1, (.const (.int .i64 3))), (2, (.const (.int .i64 9))), (3, (.const (.int .i64 27))), (4, (.const (.int .i64 81))), (5, (.const (.int .i64 243)))])) (fun _ => val_buildAr (zs := [.int .i64 0, .int .i64 0, .int .i64 0, .int .i64 0, .int .i64 0, .int .i64 0]) (cs := [.int .i64 1, .int .i64 3, .int .i64 9, .int .i64 27, .int .i64 81, .int .i64 243]) (qs := [(0, [.int .i64 1]), (1, [.int .i64 3]), (2, [.int .i64 9]), (3, [.int .i64 27]), (4, [.int .i64 81]), (5, [.int .i64 243])]) (n := 1) Tryz.underlying122 (by kernel_rfl) (by kernel_rfl) (by exact ⟨rfl, ⟨_, rfl, rfl⟩, rfl, ⟨_, rfl, rfl⟩, rfl, ⟨_, rfl, rfl⟩, rfl, ⟨_, rfl, rfl⟩, rfl, ⟨_, rfl, rfl⟩, rfl, ⟨_, rfl, rfl⟩, trivial⟩) rfl) ?_
 refine aN (k0 (.store 122 (.tmp 0) (.tmp 1))) rfl (a_storeAll (vs := [.int .i64 1, .int .i64 3, .int .i64 9, .int .i64 27, .int .i64 81, .int .i64 243]) (n := 6) rfl rfl (by kernel_rfl) rfl rfl (by intro u hu; simp only [List.mem_cons, List.not_mem_nil, or_false] at hu; rcases hu with rfl | rfl | rfl | rfl | rfl | rfl <;> rfl) hx rfl) ?_
 rintro _ w2 ⟨rfl, hs, hx⟩
 refine ⟨trivial, ?_⟩
 replace hF := hF.st hs
 replace hT := hT.t hs
 refine Sch.nil ?_
 refine run_retC1 (by kernel_rfl) Tryz.func85 Tryz.results85 rfl hx.at_ (by kernel_rfl) (by kernel_rfl) rfl ?_
 exact ⟨rfl, hT.out1 (by decide)⟩
namespace F51
noncomputable def c0 := bodyOf Tryz.f51
noncomputable def c7 := (cl (cl (cr (cl (cr c0)))))
noncomputable def c14 := (cl (cr (cl (cr (cr c0)))))
noncomputable def c21 := (cl (cr (cr (cr (cr c0)))))
noncomputable def c28 := (cl (cr (cl (cl (cr c21)))))
noncomputable def c31 := (cr (cr (cl (cl (cr c21)))))
noncomputable def c37 := (cr (cr (cr (cr (cr c0)))))
end F51
/-- 'Digits', of a pattern that is valid. -/
theorem digits_ok {w₀ : World} {C : Nat → Nat} {p n : Nat} (hF : Lim w₀ C) (h1 : 1 ≤ n) (h5 : n ≤ 5) (hp : p < 3 ^ n) : Calls Tryz.prog 51 #[.int .i64 p, .int .i64 n] w₀ (Ret fun v w' => ∃ u, v = .tuple #[u, .int .i64 0] ∧ Stp [] w₀ C w' C ∧ RV w' (Mc C) (digs p n) u) := by
 have hF0 := hF
 have hT := Stp.refl [2, 3, 4, 5, 6, 7, 8, 9] w₀ (col1 C)
 replace hF := hF.col1
 have hp2 := pow3 h5
 refine calls_start (c := F51.c0) (N := 35) [.int .i64 p, .int .i64 n] Tryz.func51 (by kernel_rfl) (by kernel_rfl) (by kernel_rfl) ?_
 show Run _ _ _ _ [(0, .int .i64 p), (1, .int .i64 n)] _ _
 refine run_sq ?_
 refine run_pl [yy 0, yy 1] ?_
 refine yV (kq 4 (.assign (.const (.slice none 0 0)))) (fun _ => val_assign rfl) ?_
 refine yAc 5 (.int .i64 0) ?_
 refine Sch.nil ?_
 refine run_sq ?_
 refine run_sq ?_
 refine run_pl [yy 0, nn 1, yy 2] ?_
 refine yM 8 1 ?_
 refine cS (kq 9 (.call { callee := .value (.func 84), args := #[(.tmp 8)], argTypes := #[3] })) rfl rfl (ent Tryz.call84 rfl) (nfields_ok h1 h5 _) ?_
 rintro vw1 w1 ⟨rfl, e⟩
 obtain rfl := e.symm
 refine ⟨trivial, ?_⟩
 refine yV (kq 10 (.unOp .not 4 (.tmp 9))) (fun _ => val_not rfl) ?_
 refine Sch.nil ?_
 refine run_cF 10 ?_
 refine run_sk ?_
 refine run_sq ?_
 refine run_sq ?_
 refine run_pl [yy 0, yy 1, yy 2, yy 3, nn 4, yy 5, yy 6, yy 7, yy 8] ?_
 refine yM 11 0 ?_
 refine yV (kq 12 (.binOp .lss 3 (.tmp 11) (.const (.int .i64 0)) 3)) (fun _ => val_is (val_lss rfl rfl) (show _ = Value.bool false from congrArg Value.bool (decide_eq_false (by omega)))) ?_
 refine yM 13 12 ?_
 refine yMg 14 0 2 false ?_
 refine cS (kg 15 (.call { callee := .value (.func 85), args := #[], argTypes := #[] }) 2 false) rfl rfl (ent Tryz.call85 rfl) (powers_ok hF) ?_
 rintro vw2 w2 ⟨rfl, hs⟩
 refine ⟨trivial, ?_⟩
 replace hF := hF.st hs
 replace hT := hT.t hs
 refine yMg 16 1 2 false ?_
 refine yV (kg 17 (.index 122 (.tmp 15) (.tmp 16)) 2 false) (fun _ => val_idxArr (cs := [.int .i64 1, .int .i64 3, .int .i64 9, .int .i64 27, .int .i64 81, .int .i64 243]) Tryz.underlying122 (by kernel_rfl) (by kernel_rfl) rfl rfl (by omega) (by omega) (pows (n := n) (by omega))) ?_
 refine yV (kg 18 (.binOp .geq 3 (.tmp 14) (.tmp 17) 3) 2 false) (fun _ => val_is (val_geq rfl rfl) (show _ = Value.bool false from congrArg Value.bool (decide_eq_false (by omega)))) ?_
 refine yOf 19 13 18 ?_
 refine Sch.nil ?_
 refine run_cF 19 ?_
 refine run_sk ?_
 refine run_sq ?_
 refine run_pl [yy 0] ?_
 refine yV (kq 6 (.assign (.const (.slice none 0 0)))) (fun _ => val_assign rfl) ?_
 refine Sch.nil ?_
 refine run_sq ?_
 refine run_sq ?_
 refine run_pl [yy 0, yy 1] ?_
 refine yM 20 1 ?_
 refine yV (kq 21 (.move (.const (.int .i64 0)))) (fun _ => val_move rfl) ?_
 refine Sch.nil ?_
 refine run_bk 0 ?_
 
 refine run_lp (ι := Nat × Value × (Nat → Nat)) (I := fun x w => x.1 ≤ n ∧ Lim w x.2.2 ∧ Stp [2, 3, 4, 5, 6, 7, 8, 9] w₀ (col1 C) w x.2.2 ∧ OwnL w x.2.2 3 3 x.2.1 (digs p x.1)) (e := fun x => [(0, .int .i64 p), (1, .int .i64 n), (6, x.2.1), (20, .int .i64 n), (21, .int .i64 x.1)]) (m := fun x => n - x.1) (x₀ := (0, .slice none 0 0, col1 C)) (sr 0 (sr 1 (sr 6 (sr 20 (sr 21 (sub_nil _)))))) ?_ ?_
 · exact ⟨Nat.zero_le _, hF, hT, OwnL.nil⟩
 intro ⟨i, vo, C1⟩ w3 hI next
 obtain ⟨hi, hF, hT, ho⟩ := hI
 try simp only at hi hF hT ho
 have next1 := next
 clear next
 show Run _ _ _ _ [(0, .int .i64 p), (1, .int .i64 n), (6, vo), (20, .int .i64 n), (21, .int .i64 i)] _ _
 have hdl := digs_len p i
 refine run_sq ?_
 refine run_pl [yy 0] ?_
 refine yV (kq 22 (.binOp .lss 3 (.tmp 21) (.tmp 20) 3)) (fun _ => val_lss rfl rfl) ?_
 refine Sch.nil ?_
 refine run_sq ?_
 refine run_i 22 rfl (fun h22 => ?_) (fun h22 => ?_)
 ·
  have hil : i < n := by omega
  have hpow : (1 : Int) ≤ ((3 ^ i : Nat) : Int) := by have : 0 < 3 ^ i := Nat.pow_pos (by decide); exact_mod_cast this
  refine run_sk ?_
  refine run_sq ?_
  refine run_bk 1 ?_
  refine run_sq ?_
  refine run_pl [yy 0, yy 1] ?_
  refine yM 23 21 ?_
  refine yA 7 23 ?_
  refine Sch.nil ?_
  refine run_pl [yy 0, yy 1, nn 2, yy 3, yy 4, yy 5, yy 6, nn 7, nn 8, yy 9] ?_
  refine yM 24 6 ?_
  refine yM 25 0 ?_
  refine cS (kq 26 (.call { callee := .value (.func 85), args := #[], argTypes := #[] })) rfl rfl (ent Tryz.call85 rfl) (powers_ok hF) ?_
  rintro vw4 w4 ⟨rfl, hs⟩
  refine ⟨trivial, ?_⟩
  replace hF := hF.st hs
  replace hT := hT.t hs; replace ho := ho.t hs
  refine yM 27 7 ?_
  refine yV (kq 28 (.index 122 (.tmp 26) (.tmp 27))) (fun _ => val_idxArr (cs := [.int .i64 1, .int .i64 3, .int .i64 9, .int .i64 27, .int .i64 81, .int .i64 243]) Tryz.underlying122 (by kernel_rfl) (by kernel_rfl) rfl rfl (by omega) (by omega) (pows (n := i) (by omega))) ?_
  refine yV (kq 29 (.binOp .quo 3 (.tmp 25) (.tmp 28) 3)) (fun _ => val_is (val_divi rfl rfl (by omega) hpow (by omega)) (show _ = Value.int .i64 ((p / 3 ^ i : Nat) : Int) from by rw [Int.natCast_ediv])) ?_
  refine yV (kq 30 (.binOp .rem 3 (.tmp 29) (.const (.int .i64 3)) 3)) (fun _ => val_is (val_modi rfl rfl (Int.natCast_nonneg _) (by decide)) (show _ = Value.int .i64 ((dg p i : Nat) : Int) from by unfold dg; rw [Int.natCast_emod]; rfl)) ?_
  refine aS (kq 31 (.buildSlice 22 1 #[(0, (.tmp 30))])) rfl rfl (a_buildSlice (ys := ([dg p i] : List Nat)) (e := 3) (bytes := 8) hF (by kernel_rfl) rfl (by decide) (by decide) ⟨rfl, ⟨_, rfl, rv_nat.2 rfl⟩, trivial⟩) ?_
  rintro v31 w5 ⟨hs, g31, hF⟩
  refine ⟨trivial, ?_⟩
  replace hT := hT.t hs; replace ho := ho.t hs
  refine aS (kq 32 (.call { callee := .builtin .append, args := #[(.tmp 24), (.tmp 31)], argTypes := #[22, 22] })) rfl rfl (a_append (e := 3) (bytes := 8) hF (by decide) rfl rfl (by kernel_rfl) (by decide) ho g31 (by simp only [List.length_cons, List.length_nil]; omega) (by simp only [List.length_cons, List.length_nil]; omega)) ?_
  rintro v32 w6 ⟨Cw6, hs, ho, hF⟩
  refine ⟨trivial, ?_⟩
  replace hT := hT.t hs; replace g31 := g31.t hs
  refine yA 6 32 ?_
  refine Sch.nil ?_
  refine run_inBlock ?_
  refine run_pl [yy 0, yy 1] ?_
  refine yV (kq 33 (.binOp .add 3 (.tmp 21) (.const (.int .i64 1)) 3)) (fun _ => val_addi rfl rfl (by omega) (by omega)) ?_
  refine yM 21 33 ?_
  refine Sch.nil ?_
  refine kp (sub_cons 0 rfl rfl (sub_cons 1 rfl rfl (sub_cons 6 rfl rfl (sub_cons 20 rfl rfl (sub_cons 21 rfl (eq_int (by simp)) (sub_nil _)))))) (next1 (i + 1, v32, Cw6) _ ⟨(by first | omega | (simp only; omega)), hF, hT, (by simp only; rw [digs_succ]; exact ho)⟩ (by first | omega | (simp only; omega)))
 ·
  have hil : i = n := by omega
  subst hil
  refine run_ex 0 ?_
  refine run_sq ?_
  refine run_pl [yy 0, yy 1, yy 2] ?_
  refine yM 34 6 ?_
  refine yA 4 34 ?_
  refine yAc 5 (.int .i64 0) ?_
  refine Sch.nil ?_
  refine run_ret2 (by kernel_rfl) Tryz.func51 Tryz.results51 rfl rfl ?_
  exact ⟨_, rfl, hT.out1 (by decide), ho.out hT hF0 (Mc_col1 C) (fun b _ => col1_lt C (by decide) b) (by omega)⟩
end Go.Proofs.YtionghonhnedgaaGreat
