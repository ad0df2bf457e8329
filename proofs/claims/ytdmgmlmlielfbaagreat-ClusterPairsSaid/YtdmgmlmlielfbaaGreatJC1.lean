/- Steps through functions of the program. -/
import Derived.Test.YtdmgmlmlielfbaaGreatJD3
import Derived.Test.YtdmgmlmlielfbaaGreatL1
import Derived.Test.YtdmgmlmlielfbaaGreatShelf
set_option linter.unusedVariables false
set_option linter.unusedSimpArgs false
set_option maxRecDepth 100000
set_option maxHeartbeats 4000000
namespace Go.Proofs.YtdmgmlmlielfbaaGreat
open Go.K Go.K.Rep
noncomputable section
namespace F96
def c0 := bodyOf Tryz.f96
end F96
theorem orI_ok {w₀ : World} {M : Nat → Prop} {l : List Int} {vl : Value} (hl : RV w₀ M l vl) : Calls Tryz.prog 96 #[vl] w₀ (Ret fun v w' => v = .int .i64 (orL l) ∧ w' = w₀) := by
 refine c_st F96.c0 18 [vl] Tryz.func96 ?_
 show Run _ _ _ _ [(0, vl)] _ _
 refine run_sq (run_pl [yy 0] ?_)
 refine yAc 2 (.int .i64 0) ?_
 refine Sch.nil (run_sq (run_pl [yy 0] ?_))
 refine yAc 3 (.int .i64 0) ?_
 refine Sch.nil (run_sq (run_sq (run_pl [yy 0, yy 1, yy 2] ?_)))
 refine yM 6 0 ?_
 refine yS (kq 7 (.call { callee := .builtin .len, args := #[(.tmp 6)], argTypes := #[22] })) rfl rfl (fun w' hS => hl.lenV rfl Tryz.underlying22 w' ) ?_
 refine yC 8 (.int .i64 0) ?_
 refine Sch.nil (run_bk 0 ?_)
 refine run_lp (ι := Nat) (I := fun x w => x ≤ l.length ∧ w = w₀ ∧ orL (l.drop x) = orL l) (e := fun x => [(3, .int .i64 0), (6, vl), (7, .int .i64 l.length), (8, .int .i64 x)]) (m := fun x => l.length - x) (x₀ := 0) (sr 3 (sr 6 (sr 7 (sr 8 (sub_nil _))))) ?_ ?_
 · exact ⟨Nat.zero_le _, rfl, rfl⟩
 intro i w1 hI next
 obtain ⟨hi, rfl, ho⟩ := hI
 have hll := hl.le
 refine run_sq (run_pl [yy 0] ?_)
 refine yL 9 3 8 7 ?_
 refine Sch.nil (run_sq ?_)
 refine run_i 9 rfl (fun h9 => ?_) (fun h9 => ?_)
 ·
  have hil : i < l.length := by omega
  rw [orL_drop hil] at ho
  refine run_sk (run_sq (run_bk 1 (run_sq (run_pl [yy 0, nn 1, yy 2] ?_))))
  refine iR 3 10 22 6 8 hl rfl (h := ?_)
  intro b10 o10 h10
  try simp only [Int.toNat_natCast] at h10
  refine lN (kq 11 (.load 3 (.tmp 10))) rfl rfl trivial h10 (by kernel_rfl) rfl rfl ?_
  intro v11 g11
  first | (obtain rfl := rv_nat.1 g11) | (obtain rfl := rv_int.1 g11)
  refine yA 5 11 ?_
  refine Sch.nil (run_sq (run_pl [yy 0, yy 1, yy 2] ?_))
  refine yM 12 5 ?_
  refine yM 13 3 ?_
  refine yV (kq 14 (.binOp .neq 3 (.tmp 12) (.tmp 13) 3)) (fun _ => val_neq rfl rfl) ?_
  refine Sch.nil ?_
  refine run_i 14 rfl (fun h14 => ?_) (fun h14 => ?_)
  ·
   rw [if_neg h14] at ho
   refine run_sq (run_pl [yy 0, yy 1] ?_)
   refine yM 15 5 ?_
   refine yA 2 15 ?_
   refine Sch.nil ?_
   refine rt1 Tryz.func96 Tryz.results96 ?_
   exact ⟨by rw [ho], rfl⟩
  have h14 : l[i] = 0 := by simpa using h14
  rw [if_pos h14] at ho
  refine run_sk (run_inBlock (run_pl [yy 0, yy 1] ?_))
  refine yI 16 3 8 1 ?_
  refine yM 8 16 ?_
  refine Sch.nil ?_
  refine kp ?_ (next (i + 1) _ ⟨by omega, rfl, ho⟩ (by omega))
  exact sr 3 (sr 6 (sr 7 (sub_cons 8 rfl (eq_int (by simp)) (sub_nil _))))
 have hil : i = l.length := by omega
 refine run_ex 0 ?_
 refine run_sq (run_pl [yy 0, yy 1] ?_)
 refine yM 17 3 ?_
 refine yA 2 17 ?_
 refine Sch.nil ?_
 refine rt1 Tryz.func96 Tryz.results96 ?_
 subst hil
 rw [List.drop_length] at ho
 exact ⟨by rw [← ho]; rfl, rfl⟩
namespace F116
def c0 := bodyOf Tryz.f116
end F116
theorem isNaN_ok (x : Int) (w : World) : Calls Tryz.prog 116 #[.int .i64 x] w (Ret fun v w' => v = .bool false ∧ w' = w) := by
 refine c_st F116.c0 6 [.int .i64 x] Tryz.func116 ?_
 show Run _ _ _ _ [(0, .int .i64 x)] _ _
 refine run_sq (run_pl [yy 0] ?_)
 refine yAc 2 (.bool false) ?_
 refine Sch.nil (run_sq (run_pl [yy 0, yy 1, yy 2, yy 3] ?_))
 refine yM 3 0 ?_
 refine yM 4 0 ?_
 refine yV (kq 5 (.binOp .neq 3 (.tmp 3) (.tmp 4) 3)) (fun _ => val_neq rfl rfl) ?_
 refine yA 2 5 ?_
 refine Sch.nil ?_
 refine rt1 Tryz.func116 Tryz.results116 ?_
 exact ⟨by simp, rfl⟩
namespace F76
def c0 := bodyOf Tryz.f76
end F76
theorem cmpI_ok (x y : Int) (w : World) : Calls Tryz.prog 76 #[.int .i64 x, .int .i64 y] w (Ret fun v w' => v = .int .i64 (cmpI x y) ∧ w' = w) := by
 refine c_st F76.c0 20 [.int .i64 x, .int .i64 y] Tryz.func76 ?_
 show Run _ _ _ _ [(0, .int .i64 x), (1, .int .i64 y)] _ _
 refine run_sq (run_pl [yy 0] ?_)
 refine yAc 4 (.int .i64 0) ?_
 refine Sch.nil (run_sq (run_pl [yy 0, nn 1, yy 2] ?_))
 refine yM 7 0 ?_
 refine cG 8 116 [7] [3] Tryz.call116 rfl (isNaN_ok _ _) ?_
 rintro vw1 w1 ⟨rfl, rfl⟩
 refine yA 5 8 ?_
 refine Sch.nil (run_sq (run_pl [yy 0, nn 1, yy 2] ?_))
 refine yM 9 1 ?_
 refine cG 10 116 [9] [3] Tryz.call116 rfl (isNaN_ok _ _) ?_
 rintro vw2 w2 ⟨rfl, rfl⟩
 refine yA 6 10 ?_
 refine Sch.nil (run_sq (run_sq (run_pl [yy 0] ?_)))
 refine yM 11 5 ?_
 refine Sch.nil (run_cF 11 (run_sk (run_sq (run_sq (run_pl [yy 0] ?_)))))
 refine yM 13 6 ?_
 refine Sch.nil (run_cF 13 (run_sk (run_sq (run_sq (run_pl [yy 0, yy 1, yy 2] ?_)))))
 refine yM 14 0 ?_
 refine yM 15 1 ?_
 refine yL 16 3 14 15 ?_
 refine Sch.nil ?_
 refine run_i 16 rfl (fun h16 => ?_) (fun h16 => ?_)
 ·
  refine run_sq (run_pl [yy 0] ?_)
  refine yV (kq 4 (.assign (.const (.int .i64 (-1))))) (fun _ => val_assign rfl) ?_
  refine Sch.nil ?_
  refine rt1 Tryz.func76 Tryz.results76 ?_
  exact ⟨eq_int (by unfold cmpI; split <;> (try split) <;> omega), rfl⟩
 refine run_sk (run_sq (run_sq (run_pl [yy 0, yy 1, yy 2] ?_)))
 refine yM 17 0 ?_
 refine yM 18 1 ?_
 refine yV (kq 19 (.binOp .gtr 3 (.tmp 17) (.tmp 18) 3)) (fun _ => val_gtr rfl rfl) ?_
 refine Sch.nil ?_
 refine run_i 19 rfl (fun h19 => ?_) (fun h19 => ?_)
 ·
  refine run_sq (run_pl [yy 0] ?_)
  refine yAc 4 (.int .i64 1) ?_
  refine Sch.nil ?_
  refine rt1 Tryz.func76 Tryz.results76 ?_
  exact ⟨eq_int (by unfold cmpI; split <;> (try split) <;> omega), rfl⟩
 refine run_sk (run_sq (run_pl [yy 0] ?_))
 refine yAc 4 (.int .i64 0) ?_
 refine Sch.nil ?_
 refine rt1 Tryz.func76 Tryz.results76 ?_
 exact ⟨eq_int (by unfold cmpI; split <;> (try split) <;> omega), rfl⟩
namespace F55
def c0 := bodyOf Tryz.f55
def o1 := rops (cl (cr c0))
end F55
theorem compare_ok {w₀ : World} {C : Nat → Nat} {x y : Couple} (hF : Lim w₀ C) : Calls Tryz.prog 55 #[.agg #[.int .i64 x.a, .int .i64 x.b], .agg #[.int .i64 y.a, .int .i64 y.b]] w₀ (Ret fun v w' => v = .int .i64 (cmpC x y) ∧ Stp [] w₀ C w' C) := by
 have hF0 := hF
 have hT := Stp.refl [2, 3, 4, 5, 6, 7, 8, 9] w₀ (col1 C)
 replace hF := hF.col1
 refine c_st F55.c0 17 [.agg #[.int .i64 x.a, .int .i64 x.b], .agg #[.int .i64 y.a, .int .i64 y.b]] Tryz.func55 ?_
 show Run _ _ _ _ [(0, .agg #[.int .i64 x.a, .int .i64 x.b]), (1, .agg #[.int .i64 y.a, .int .i64 y.b])] _ _
 refine run_sq (run_pl [nn 0, nn 1, yy 2] ?_)
 refine aT (kq 2 (.box 47 (.tmp 0))) rfl rfl (a_box (cs := [.int .i64 x.a, .int .i64 x.b]) hF 3 rfl rfl) ?_
 rintro _ w1 ⟨Cw1, bw1, rfl, s_1, hx, hF⟩
 refine aT (kq 3 (.box 47 (.tmp 1))) rfl rfl (a_box (cs := [.int .i64 y.a, .int .i64 y.b]) hF 3 rfl rfl) ?_
 rintro _ w2 ⟨Cw2, bw2, rfl, s_2, hy, hF⟩
 refine yAc 4 (.int .i64 0) ?_
 refine Sch.nil (run_sq ?_)
 refine run_draw (id := 1) (ops := F55.o1) [] (Cw2) [yy 0, yy 1, yy 2, yy 3, yy 5, yy 6, yy 7, yy 8, nn 4, nn 9, nn 10, nn 11, yy 12] Tryz_mixed (by kernel_rfl) (by kernel_rfl) (by kernel_rfl) ?_
 intro w3 s_3
 have hR := Stp.refl [] w3 (Cw2)
 refine yF 5 47 2 0 0 ?_
 replace hx := (hx.t s_2).t s_3
 refine yS (kq 6 (.load 3 (.tmp 5))) rfl rfl (fun w' hS => val_loadOwn (hx.sy hS) (by kernel_rfl) rfl rfl) ?_
 refine yF 7 47 3 0 0 ?_
 replace hy := hy.t s_3
 refine yS (kq 8 (.load 3 (.tmp 7))) rfl rfl (fun w' hS => val_loadOwn (hy.sy hS) (by kernel_rfl) rfl rfl) ?_
 refine yF 10 47 2 1 1 ?_
 refine yS (kq 11 (.load 3 (.tmp 10))) rfl rfl (fun w' hS => val_loadOwn (hx.sy hS) (by kernel_rfl) rfl rfl) ?_
 refine yF 12 47 3 1 1 ?_
 refine yS (kq 13 (.load 3 (.tmp 12))) rfl rfl (fun w' hS => val_loadOwn (hy.sy hS) (by kernel_rfl) rfl rfl) ?_
 refine cF 9 76 [6, 8] [3, 3] Tryz.call76 rfl (cmpI_ok _ _ _) ?_
 rintro vw4 w4 ⟨rfl, rfl⟩
 refine ⟨hR.ext, ?_⟩
 refine cF 14 76 [11, 13] [3, 3] Tryz.call76 rfl (cmpI_ok _ _ _) ?_
 rintro vw5 w5 ⟨rfl, rfl⟩
 refine ⟨hR.ext, ?_⟩
 replace hF := hF.st s_3
 refine aS (kq 15 (.buildSlice 22 2 #[(0, (.tmp 9)), (1, (.tmp 14))])) rfl rfl (a_buildSlice (ys := ([cmpI x.a y.a, cmpI x.b y.b] : List Int)) (e := 3) (bytes := 8) hF (by kernel_rfl) rfl (by decide) (by decide) ⟨rfl, ⟨_, rfl, rv_int.2 rfl⟩, rfl, ⟨_, rfl, rv_int.2 rfl⟩, trivial⟩) ?_
 rintro v15 w6 ⟨s_4, g15, hF⟩
 refine ⟨(hR.trans s_4 (by simp)).ext, ?_⟩
 refine cF 16 96 [15] [22] Tryz.call96 rfl (orI_ok g15) ?_
 rintro vw7 w7 ⟨rfl, rfl⟩
 replace hR := hR.t s_4
 refine ⟨hR.ext, ?_⟩
 refine yA 4 16 ?_
 refine Sch.nil ?_
 refine rt1 Tryz.func55 Tryz.results55 ?_
 replace hT := (((hT.t s_1).t s_2).t s_3).t s_4
 exact ⟨rfl, hT.out1 (by decide)⟩
theorem ltC (x y : Couple) : Go.Proofs.ltOf cmpC x y = !leC y x := by unfold leC Go.Proofs.ltOf; simp
theorem swoC : Go.Sort.SWO (Go.Proofs.ltOf cmpC) where
  irrefl x := by rw [ltC]; simp [leC_iff]
  trans x y z h h' := by
    rw [ltC] at *
    simp only [Bool.not_eq_true', Bool.eq_false_iff, ne_eq, leC_iff] at *
    omega
  ntrans x y z h h' := by
    rw [ltC] at *
    simp only [Bool.not_eq_false', leC_iff] at *
    omega
theorem ltC_total (x y : Couple) (h : Go.Proofs.ltOf cmpC x y = false) (h' : Go.Proofs.ltOf cmpC y x = false) : x = y := by
  rw [ltC] at h h'
  simp only [Bool.not_eq_false'] at h h'
  exact leC_anti x y h' h
theorem sort_ok {w : World} {C : Nat → Nat} {j : Nat} {v : Value} {ys : List Couple} (hF : Lim w C) (ho : OwnL w C j 47 v ys) (hlen : ys.length ≤ 140737488355328) :
    Calls Tryz.prog 113 #[v, .func (.func 55) #[] #[]] w (Ret fun u w' => u = .tuple #[] ∧ Stp [j] w C w' C ∧ OwnL w' C j 47 v (sortC ys) ∧ Lim w' C) :=
  sort_own (enc := encC) (cf := cmpC) Go.Proofs.Tryz.sortCouple (fun w => Tryz.isAgg47 w) (fun w => Tryz.sizeOf47 w)
    (fun h M x vs => ⟨fun hr => by obtain ⟨us, ws, rfl, h1, h2⟩ := hr; rw [show us = [.int .i64 x.a] from h1, show ws = [.int .i64 x.b] from h2]; rfl, fun hr => by subst hr; exact ⟨[.int .i64 x.a], [.int .i64 x.b], rfl, rfl, rfl⟩⟩)
    (fun x => rfl) (by decide) (fun x u hu => by simp only [encC, List.mem_cons, List.not_mem_nil, or_false] at hu; rcases hu with rfl | rfl <;> rfl) swoC ltC_total (fun args w => Tryz.call55 args w)
    (fun W x y => (compare_ok (C := fun _ => 0) (fun b hb => absurd rfl hb)).mono (by rintro e w' ⟨u, rfl, rfl, hs⟩; exact ⟨_, rfl, rfl, hs.ext.mono (fun b _ hb => by simp at hb)⟩)) hF ho hlen
namespace F145
def c0 := bodyOf Tryz.f145
end F145
theorem greyRef_ok {w₀ : World} {C : Nat → Nat} {x : Couple} (hF : Lim w₀ C) : Calls Tryz.prog 145 #[.agg #[.int .i64 x.a, .int .i64 x.b]] w₀ (Ret fun v w' => v = .bool (refOK x) ∧ Stp [] w₀ C w' C) := by
 have hF0 := hF
 have hT := Stp.refl [2, 3, 4, 5, 6, 7, 8, 9] w₀ (col1 C)
 replace hF := hF.col1
 refine c_st F145.c0 21 [.agg #[.int .i64 x.a, .int .i64 x.b]] Tryz.func145 ?_
 show Run _ _ _ _ [(0, .agg #[.int .i64 x.a, .int .i64 x.b])] _ _
 refine run_sq (run_pl [nn 0, yy 1] ?_)
 refine aT (kq 1 (.box 47 (.tmp 0))) rfl rfl (a_box (cs := [.int .i64 x.a, .int .i64 x.b]) hF 3 rfl rfl) ?_
 rintro _ w1 ⟨Cw1, bw1, rfl, s_1, hx, hF⟩
 refine yAc 2 (.bool false) ?_
 refine Sch.nil ?_
 refine kp (sr 1 (sub_nil _)) ?_
 refine run_sq ?_
 refine run_cut 2 (refOK x) (Cw1) ?_ ?_
 ·
  intro hcut
  by_cases hA : 0 ≤ x.a
  ·
   by_cases hB : x.a < 4
   ·
    by_cases hC : 1 ≤ x.b
    ·
     refine run_pl [yy 0, nn 1, yy 2, yy 3, yy 4, nn 5, yy 6, yy 7, yy 8, yy 9, nn 10, yy 11, yy 12, yy 13, yy 14, nn 15, yy 16, yy 17, yy 18] ?_
     refine yF 3 47 1 0 0 ?_
     refine nO 4 3 3 hx.at_ rfl rfl ?_
     refine yV (kq 5 (.binOp .geq 3 (.tmp 4) (.const (.int .i64 0)) 3)) (fun _ => val_T (val_geq rfl rfl) hA) ?_
     refine yM 6 5 ?_
     refine yFg 7 47 1 0 0 3 true ?_
     refine nS (kg 8 (.load 3 (.tmp 7)) 3 true) rfl rfl trivial (val_loadOwn hx.at_ (by kernel_rfl) rfl rfl) ?_
     refine yV (kg 9 (.binOp .lss 3 (.tmp 8) (.const (.int .i64 4)) 3) 3 true) (fun _ => val_T (val_lss rfl rfl) hB) ?_
     refine yAt 10 6 9 ?_
     refine yM 11 10 ?_
     refine yFg 12 47 1 1 1 8 true ?_
     refine nS (kg 13 (.load 3 (.tmp 12)) 8 true) rfl rfl trivial (val_loadOwn hx.at_ (by kernel_rfl) rfl rfl) ?_
     refine yV (kg 14 (.binOp .geq 3 (.tmp 13) (.const (.int .i64 1)) 3) 8 true) (fun _ => val_T (val_geq rfl rfl) hC) ?_
     refine yAt 15 11 14 ?_
     refine yM 16 15 ?_
     refine yFg 17 47 1 1 1 13 true ?_
     refine nS (kg 18 (.load 3 (.tmp 17)) 13 true) rfl rfl trivial (val_loadOwn hx.at_ (by kernel_rfl) rfl rfl) ?_
     refine yV (kg 19 (.binOp .leq 3 (.tmp 18) (.const (.int .i64 1048576)) 3) 13 true) (fun _ => val_leq rfl rfl) ?_
     refine yAt 20 16 19 ?_
     refine yA 2 20 ?_
     exact Sch.nil (hcut _ _ _ (Stp.refl _ _ _) rfl (by unfold refOK; rw [decide_eq_true hA, decide_eq_true hB, decide_eq_true hC]; rfl) (sk 19))
    refine run_pl [yy 0, nn 1, yy 2, yy 3, yy 4, nn 5, yy 6, yy 7, yy 8, yy 9, nn 10, yy 11, yy 12, yy 13, yy 14, nn 15, yy 16, yy 17, yy 18] ?_
    refine yF 3 47 1 0 0 ?_
    refine nO 4 3 3 hx.at_ rfl rfl ?_
    refine yV (kq 5 (.binOp .geq 3 (.tmp 4) (.const (.int .i64 0)) 3)) (fun _ => val_T (val_geq rfl rfl) hA) ?_
    refine yM 6 5 ?_
    refine yFg 7 47 1 0 0 3 true ?_
    refine nS (kg 8 (.load 3 (.tmp 7)) 3 true) rfl rfl trivial (val_loadOwn hx.at_ (by kernel_rfl) rfl rfl) ?_
    refine yV (kg 9 (.binOp .lss 3 (.tmp 8) (.const (.int .i64 4)) 3) 3 true) (fun _ => val_T (val_lss rfl rfl) hB) ?_
    refine yAt 10 6 9 ?_
    refine yM 11 10 ?_
    refine yFg 12 47 1 1 1 8 true ?_
    refine nS (kg 13 (.load 3 (.tmp 12)) 8 true) rfl rfl trivial (val_loadOwn hx.at_ (by kernel_rfl) rfl rfl) ?_
    refine yV (kg 14 (.binOp .geq 3 (.tmp 13) (.const (.int .i64 1)) 3) 8 true) (fun _ => val_F (val_geq rfl rfl) hC) ?_
    refine yAt 15 11 14 ?_
    refine yM 16 15 ?_
    refine pX 17 13 true ?_
    refine pW (kg 18 (.load 3 (.tmp 17)) 13 true) rfl rfl trivial ?_
    refine pX 19 13 true ?_
    refine yAf 20 16 19 ?_
    refine yA 2 20 ?_
    exact Sch.nil (hcut _ _ _ (Stp.refl _ _ _) rfl (by unfold refOK; rw [decide_eq_true hA, decide_eq_true hB, decide_eq_false hC]; rfl) (sk 19))
   refine run_pl [yy 0, nn 1, yy 2, yy 3, yy 4, nn 5, yy 6, yy 7, yy 8, yy 9, nn 10, yy 11, yy 12, yy 13, yy 14, nn 15, yy 16, yy 17, yy 18] ?_
   refine yF 3 47 1 0 0 ?_
   refine nO 4 3 3 hx.at_ rfl rfl ?_
   refine yV (kq 5 (.binOp .geq 3 (.tmp 4) (.const (.int .i64 0)) 3)) (fun _ => val_T (val_geq rfl rfl) hA) ?_
   refine yM 6 5 ?_
   refine yFg 7 47 1 0 0 3 true ?_
   refine nS (kg 8 (.load 3 (.tmp 7)) 3 true) rfl rfl trivial (val_loadOwn hx.at_ (by kernel_rfl) rfl rfl) ?_
   refine yV (kg 9 (.binOp .lss 3 (.tmp 8) (.const (.int .i64 4)) 3) 3 true) (fun _ => val_F (val_lss rfl rfl) hB) ?_
   refine yAt 10 6 9 ?_
   refine yM 11 10 ?_
   refine pX 12 8 true ?_
   refine pW (kg 13 (.load 3 (.tmp 12)) 8 true) rfl rfl trivial ?_
   refine pX 14 8 true ?_
   refine yAf 15 11 14 ?_
   refine yM 16 15 ?_
   refine pX 17 13 true ?_
   refine pW (kg 18 (.load 3 (.tmp 17)) 13 true) rfl rfl trivial ?_
   refine pX 19 13 true ?_
   refine yAf 20 16 19 ?_
   refine yA 2 20 ?_
   exact Sch.nil (hcut _ _ _ (Stp.refl _ _ _) rfl (by unfold refOK; rw [decide_eq_true hA, decide_eq_false hB]; rfl) (sk 19))
  refine run_pl [yy 0, nn 1, yy 2, yy 3, yy 4, nn 5, yy 6, yy 7, yy 8, yy 9, nn 10, yy 11, yy 12, yy 13, yy 14, nn 15, yy 16, yy 17, yy 18] ?_
  refine yF 3 47 1 0 0 ?_
  refine nO 4 3 3 hx.at_ rfl rfl ?_
  refine yV (kq 5 (.binOp .geq 3 (.tmp 4) (.const (.int .i64 0)) 3)) (fun _ => val_F (val_geq rfl rfl) hA) ?_
  refine yM 6 5 ?_
  refine pX 7 3 true ?_
  refine pW (kg 8 (.load 3 (.tmp 7)) 3 true) rfl rfl trivial ?_
  refine pX 9 3 true ?_
  refine yAf 10 6 9 ?_
  refine yM 11 10 ?_
  refine pX 12 8 true ?_
  refine pW (kg 13 (.load 3 (.tmp 12)) 8 true) rfl rfl trivial ?_
  refine pX 14 8 true ?_
  refine yAf 15 11 14 ?_
  refine yM 16 15 ?_
  refine pX 17 13 true ?_
  refine pW (kg 18 (.load 3 (.tmp 17)) 13 true) rfl rfl trivial ?_
  refine pX 19 13 true ?_
  refine yAf 20 16 19 ?_
  refine yA 2 20 ?_
  exact Sch.nil (hcut _ _ _ (Stp.refl _ _ _) rfl (by unfold refOK; rw [decide_eq_false hA]; rfl) (sk 19))
 intro w2 s_2
 refine rt1 Tryz.func145 Tryz.results145 ?_
 replace hT := (hT.t s_1).t s_2
 exact ⟨rfl, hT.out1 (by decide)⟩
namespace F129
def c0 := bodyOf Tryz.f129
end F129
theorem couple_ok {w₀ : World} {C : Nat → Nat} {x y : Couple} (hF : Lim w₀ C) : Calls Tryz.prog 129 #[.agg #[.int .i64 x.a, .int .i64 x.b], .agg #[.int .i64 y.a, .int .i64 y.b]] w₀ (Ret fun v w' => v = .bool (cplOK x y) ∧ Stp [] w₀ C w' C) := by
 have hF0 := hF
 have hT := Stp.refl [2, 3, 4, 5, 6, 7, 8, 9] w₀ (col1 C)
 replace hF := hF.col1
 refine c_st F129.c0 18 [.agg #[.int .i64 x.a, .int .i64 x.b], .agg #[.int .i64 y.a, .int .i64 y.b]] Tryz.func129 ?_
 show Run _ _ _ _ [(0, .agg #[.int .i64 x.a, .int .i64 x.b]), (1, .agg #[.int .i64 y.a, .int .i64 y.b])] _ _
 refine run_sq (run_pl [nn 0, nn 1, yy 2] ?_)
 refine aT (kq 2 (.box 47 (.tmp 0))) rfl rfl (a_box (cs := [.int .i64 x.a, .int .i64 x.b]) hF 3 rfl rfl) ?_
 rintro _ w1 ⟨Cw1, bw1, rfl, s_1, hx, hF⟩
 refine aT (kq 3 (.box 47 (.tmp 1))) rfl rfl (a_box (cs := [.int .i64 y.a, .int .i64 y.b]) hF 3 rfl rfl) ?_
 rintro _ w2 ⟨Cw2, bw2, rfl, s_2, hy, hF⟩
 refine yAc 4 (.bool false) ?_
 refine Sch.nil ?_
 refine kp (sr 2 (sr 3 (sub_nil _))) ?_
 refine run_sq ?_
 refine run_cut 4 (cplOK x y) (Cw2) ?_ ?_
 ·
  intro hcut
  by_cases hA : refOK x = true
  ·
   by_cases hB : refOK y = true
   ·
    refine run_pl [nn 0, nn 1, yy 2, nn 3, nn 4, yy 5, yy 6, yy 7, nn 8, yy 9, nn 10, yy 11, yy 12, yy 13] ?_
    have hcs := Stp.reflF hF
    replace hx := hx.t s_2
    refine nS (kq 5 (.load 47 (.tmp 2))) rfl rfl trivial (val_loadOwnAgg (n := 2) hx.at_ (by kernel_rfl) (by kernel_rfl) rfl rfl rfl) ?_
    refine cG 6 145 [5] [47] Tryz.call145 rfl (greyRef_ok hF) ?_
    rintro vw3 w3 ⟨rfl, s_3⟩
    rw [hA]
    refine yM 7 6 ?_
    replace hy := hy.t s_3
    refine nS (kg 8 (.load 47 (.tmp 3)) 2 true) rfl rfl trivial (val_loadOwnAgg (n := 2) hy.at_ (by kernel_rfl) (by kernel_rfl) rfl rfl rfl) ?_
    replace hF := hF.st s_3
    refine cT (kg 9 (.call { callee := .value (.func 145), args := #[(.tmp 8)], argTypes := #[47] }) 2 true) rfl rfl (ent Tryz.call145 rfl) (greyRef_ok hF) ?_
    rintro vw4 w4 ⟨rfl, s_4⟩
    rw [hB]
    refine yAt 10 7 9 ?_
    refine yM 11 10 ?_
    refine yFg 12 47 2 0 0 6 true ?_
    replace hx := (hx.t s_3).t s_4
    refine nS (kg 13 (.load 3 (.tmp 12)) 6 true) rfl rfl trivial (val_loadOwn hx.at_ (by kernel_rfl) rfl rfl) ?_
    refine yFg 14 47 3 0 0 6 true ?_
    replace hy := hy.t s_4
    refine nS (kg 15 (.load 3 (.tmp 14)) 6 true) rfl rfl trivial (val_loadOwn hy.at_ (by kernel_rfl) rfl rfl) ?_
    refine yV (kg 16 (.binOp .lss 3 (.tmp 13) (.tmp 15) 3) 6 true) (fun _ => val_lss rfl rfl) ?_
    refine yAt 17 11 16 ?_
    refine yA 4 17 ?_
    replace hcs := (hcs.t s_3).t s_4
    exact Sch.nil (hcut _ _ _ hcs rfl (by unfold cplOK; rw [hA, hB]; rfl) (sk 14))
   refine run_pl [nn 0, nn 1, yy 2, nn 3, nn 4, yy 5, yy 6, yy 7, nn 8, yy 9, nn 10, yy 11, yy 12, yy 13] ?_
   have hcs := Stp.reflF hF
   replace hx := hx.t s_2
   refine nS (kq 5 (.load 47 (.tmp 2))) rfl rfl trivial (val_loadOwnAgg (n := 2) hx.at_ (by kernel_rfl) (by kernel_rfl) rfl rfl rfl) ?_
   refine cG 6 145 [5] [47] Tryz.call145 rfl (greyRef_ok hF) ?_
   rintro vw5 w5 ⟨rfl, s_5⟩
   rw [hA]
   refine yM 7 6 ?_
   replace hy := hy.t s_5
   refine nS (kg 8 (.load 47 (.tmp 3)) 2 true) rfl rfl trivial (val_loadOwnAgg (n := 2) hy.at_ (by kernel_rfl) (by kernel_rfl) rfl rfl rfl) ?_
   replace hF := hF.st s_5
   refine cT (kg 9 (.call { callee := .value (.func 145), args := #[(.tmp 8)], argTypes := #[47] }) 2 true) rfl rfl (ent Tryz.call145 rfl) (greyRef_ok hF) ?_
   rintro vw6 w6 ⟨rfl, s_6⟩
   rw [Bool.eq_false_iff.2 hB]
   refine yAt 10 7 9 ?_
   refine yM 11 10 ?_
   refine pX 12 6 true ?_
   refine pW (kg 13 (.load 3 (.tmp 12)) 6 true) rfl rfl trivial ?_
   refine pX 14 6 true ?_
   refine pW (kg 15 (.load 3 (.tmp 14)) 6 true) rfl rfl trivial ?_
   refine pX 16 6 true ?_
   refine yAf 17 11 16 ?_
   refine yA 4 17 ?_
   replace hcs := (hcs.t s_5).t s_6
   exact Sch.nil (hcut _ _ _ hcs rfl (by unfold cplOK; rw [hA, Bool.eq_false_iff.2 hB]; simp) (sk 14))
  refine run_pl [nn 0, nn 1, yy 2, nn 3, nn 4, yy 5, yy 6, yy 7, nn 8, yy 9, nn 10, yy 11, yy 12, yy 13] ?_
  have hcs := Stp.reflF hF
  replace hx := hx.t s_2
  refine nS (kq 5 (.load 47 (.tmp 2))) rfl rfl trivial (val_loadOwnAgg (n := 2) hx.at_ (by kernel_rfl) (by kernel_rfl) rfl rfl rfl) ?_
  refine cG 6 145 [5] [47] Tryz.call145 rfl (greyRef_ok hF) ?_
  rintro vw7 w7 ⟨rfl, s_7⟩
  rw [Bool.eq_false_iff.2 hA]
  refine yM 7 6 ?_
  refine pW (kg 8 (.load 47 (.tmp 3)) 2 true) rfl rfl trivial ?_
  refine pW (kg 9 (.call { callee := .value (.func 145), args := #[(.tmp 8)], argTypes := #[47] }) 2 true) rfl rfl trivial ?_
  refine yAf 10 7 9 ?_
  refine yM 11 10 ?_
  refine pX 12 6 true ?_
  refine pW (kg 13 (.load 3 (.tmp 12)) 6 true) rfl rfl trivial ?_
  refine pX 14 6 true ?_
  refine pW (kg 15 (.load 3 (.tmp 14)) 6 true) rfl rfl trivial ?_
  refine pX 16 6 true ?_
  refine yAf 17 11 16 ?_
  refine yA 4 17 ?_
  replace hcs := hcs.t s_7
  exact Sch.nil (hcut _ _ _ hcs rfl (by unfold cplOK; rw [Bool.eq_false_iff.2 hA]; simp) (sk 14))
 intro w8 s_8
 refine rt1 Tryz.func129 Tryz.results129 ?_
 replace hT := ((hT.t s_1).t s_2).t s_8
 exact ⟨rfl, hT.out1 (by decide)⟩
namespace F130
def c0 := bodyOf Tryz.f130
def o1 := rops (cl (cr c0))
end F130
theorem couples_ok {w₀ : World} {C : Nat → Nat} {a b c d : Couple} (hF : Lim w₀ C) : Calls Tryz.prog 130 #[.agg #[.int .i64 a.a, .int .i64 a.b], .agg #[.int .i64 b.a, .int .i64 b.b], .agg #[.int .i64 c.a, .int .i64 c.b], .agg #[.int .i64 d.a, .int .i64 d.b]] w₀ (Ret fun v w' => v = .int .i64 (cmp2 a b c d) ∧ Stp [] w₀ C w' C) := by
 have hF0 := hF
 have hT := Stp.refl [2, 3, 4, 5, 6, 7, 8, 9] w₀ (col1 C)
 replace hF := hF.col1
 refine c_st F130.c0 17 [.agg #[.int .i64 a.a, .int .i64 a.b], .agg #[.int .i64 b.a, .int .i64 b.b], .agg #[.int .i64 c.a, .int .i64 c.b], .agg #[.int .i64 d.a, .int .i64 d.b]] Tryz.func130 ?_
 show Run _ _ _ _ [(0, .agg #[.int .i64 a.a, .int .i64 a.b]), (1, .agg #[.int .i64 b.a, .int .i64 b.b]), (2, .agg #[.int .i64 c.a, .int .i64 c.b]), (3, .agg #[.int .i64 d.a, .int .i64 d.b])] _ _
 refine run_sq (run_pl [nn 0, nn 1, nn 2, nn 3, yy 4] ?_)
 refine aT (kq 4 (.box 47 (.tmp 0))) rfl rfl (a_box (cs := [.int .i64 a.a, .int .i64 a.b]) hF 3 rfl rfl) ?_
 rintro _ w1 ⟨Cw1, bw1, rfl, s_1, ha, hF⟩
 refine aT (kq 5 (.box 47 (.tmp 1))) rfl rfl (a_box (cs := [.int .i64 b.a, .int .i64 b.b]) hF 3 rfl rfl) ?_
 rintro _ w2 ⟨Cw2, bw2, rfl, s_2, hb, hF⟩
 refine aT (kq 6 (.box 47 (.tmp 2))) rfl rfl (a_box (cs := [.int .i64 c.a, .int .i64 c.b]) hF 3 rfl rfl) ?_
 rintro _ w3 ⟨Cw3, bw3, rfl, s_3, hc, hF⟩
 refine aT (kq 7 (.box 47 (.tmp 3))) rfl rfl (a_box (cs := [.int .i64 d.a, .int .i64 d.b]) hF 3 rfl rfl) ?_
 rintro _ w4 ⟨Cw4, bw4, rfl, s_4, hd, hF⟩
 refine yAc 8 (.int .i64 0) ?_
 refine Sch.nil (run_sq ?_)
 refine run_draw (id := 1) (ops := F130.o1) [] (Cw4) [yy 0, yy 1, yy 3, yy 4, nn 2, nn 5, nn 6, nn 7, yy 8] Tryz_mixed (by kernel_rfl) (by kernel_rfl) (by kernel_rfl) ?_
 intro w5 s_5
 have hR := Stp.refl [] w5 (Cw4)
 replace ha := (((ha.t s_2).t s_3).t s_4).t s_5
 refine yS (kq 9 (.load 47 (.tmp 4))) rfl rfl (fun w' hS => val_loadOwnAgg (n := 2) (ha.stay hS (by decide)) (by kernel_rfl) (by kernel_rfl) rfl rfl rfl) ?_
 replace hc := (hc.t s_4).t s_5
 refine yS (kq 10 (.load 47 (.tmp 6))) rfl rfl (fun w' hS => val_loadOwnAgg (n := 2) (hc.stay hS (by decide)) (by kernel_rfl) (by kernel_rfl) rfl rfl rfl) ?_
 replace hb := ((hb.t s_3).t s_4).t s_5
 refine yS (kq 12 (.load 47 (.tmp 5))) rfl rfl (fun w' hS => val_loadOwnAgg (n := 2) (hb.stay hS (by decide)) (by kernel_rfl) (by kernel_rfl) rfl rfl rfl) ?_
 replace hd := hd.t s_5
 refine yS (kq 13 (.load 47 (.tmp 7))) rfl rfl (fun w' hS => val_loadOwnAgg (n := 2) (hd.stay hS (by decide)) (by kernel_rfl) (by kernel_rfl) rfl rfl rfl) ?_
 replace hF := hF.st s_5
 refine cF 11 55 [9, 10] [47, 47] Tryz.call55 rfl (compare_ok hF) ?_
 rintro vw6 w6 ⟨rfl, s_6⟩
 refine ⟨(hR.trans s_6 (by simp)).ext, ?_⟩
 replace hF := hF.st s_6
 refine cF 14 55 [12, 13] [47, 47] Tryz.call55 rfl (compare_ok hF) ?_
 rintro vw7 w7 ⟨rfl, s_7⟩
 replace hR := hR.t s_6
 refine ⟨(hR.trans s_7 (by simp)).ext, ?_⟩
 replace hF := hF.st s_7
 refine aS (kq 15 (.buildSlice 22 2 #[(0, (.tmp 11)), (1, (.tmp 14))])) rfl rfl (a_buildSlice (ys := ([cmpC a c, cmpC b d] : List Int)) (e := 3) (bytes := 8) hF (by kernel_rfl) rfl (by decide) (by decide) ⟨rfl, ⟨_, rfl, rv_int.2 rfl⟩, rfl, ⟨_, rfl, rv_int.2 rfl⟩, trivial⟩) ?_
 rintro v15 w8 ⟨s_8, g15, hF⟩
 replace hR := hR.t s_7
 refine ⟨(hR.trans s_8 (by simp)).ext, ?_⟩
 refine cF 16 96 [15] [22] Tryz.call96 rfl (orI_ok g15) ?_
 rintro vw9 w9 ⟨rfl, rfl⟩
 replace hR := hR.t s_8
 refine ⟨hR.ext, ?_⟩
 refine yA 8 16 ?_
 refine Sch.nil ?_
 refine rt1 Tryz.func130 Tryz.results130 ?_
 replace hT := (((((((hT.t s_1).t s_2).t s_3).t s_4).t s_5).t s_6).t s_7).t s_8
 exact ⟨rfl, hT.out1 (by decide)⟩
end
end Go.Proofs.YtdmgmlmlielfbaaGreat
