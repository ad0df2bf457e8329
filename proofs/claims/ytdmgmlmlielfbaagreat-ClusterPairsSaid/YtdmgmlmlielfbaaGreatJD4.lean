/- Steps through functions of the program. -/
import Derived.Test.YtdmgmlmlielfbaaGreatJC8
import Derived.Test.YtdmgmlmlielfbaaGreatL2
set_option linter.unusedVariables false
set_option linter.unusedSimpArgs false
set_option maxRecDepth 100000
set_option maxHeartbeats 4000000
namespace Go.Proofs.YtdmgmlmlielfbaaGreat
open Go.K Go.K.Rep
noncomputable section
namespace F131
def c0 := bodyOf Tryz.f131
end F131
theorem verG_ok (x : Int) (w : World) : Calls Tryz.prog 131 #[.int .i64 x] w (Ret fun v w' => v = .bool (verOK x) ∧ w' = w) := by
 refine c_st F131.c0 9 [.int .i64 x] Tryz.func131 ?_
 show Run _ _ _ _ [(0, .int .i64 x)] _ _
 refine run_sq (run_pl [yy 0] ?_)
 refine yAc 2 (.bool false) ?_
 refine Sch.nil (run_sq ?_)
 by_cases hA : 1 ≤ x
 ·
  refine run_pl [yy 0, yy 1, yy 2, yy 3, yy 4, yy 5, yy 6] ?_
  refine yM 3 0 ?_
  refine yV (kq 4 (.binOp .geq 3 (.tmp 3) (.const (.int .i64 1)) 3)) (fun _ => val_T (val_geq rfl rfl) hA) ?_
  refine yM 5 4 ?_
  refine yMg 6 0 2 true ?_
  refine yV (kg 7 (.binOp .leq 3 (.tmp 6) (.const (.int .i64 1048576)) 3) 2 true) (fun _ => val_leq rfl rfl) ?_
  refine yAt 8 5 7 ?_
  refine yA 2 8 ?_
  refine Sch.nil ?_
  refine rt1 Tryz.func131 Tryz.results131 ?_
  exact ⟨by unfold verOK; congr 1; apply decide_eq_decide.2; omega, rfl⟩
 refine run_pl [yy 0, yy 1, yy 2, yy 3, yy 4, yy 5, yy 6] ?_
 refine yM 3 0 ?_
 refine yV (kq 4 (.binOp .geq 3 (.tmp 3) (.const (.int .i64 1)) 3)) (fun _ => val_F (val_geq rfl rfl) hA) ?_
 refine yM 5 4 ?_
 refine pX 6 2 true ?_
 refine pX 7 2 true ?_
 refine yAf 8 5 7 ?_
 refine yA 2 8 ?_
 refine Sch.nil ?_
 refine rt1 Tryz.func131 Tryz.results131 ?_
 exact ⟨by unfold verOK; rw [decide_eq_false (fun e => hA e.1)], rfl⟩
namespace F132
def c0 := bodyOf Tryz.f132
def o1 := rops (cl (cr c0))
end F132
theorem decisions_ok {w₀ : World} {C : Nat → Nat} {x y : Dcs} (hF : Lim w₀ C) : Calls Tryz.prog 132 #[.agg (encD x).toArray, .agg (encD y).toArray] w₀ (Ret fun v w' => v = .int .i64 (cmpD x y) ∧ Stp [] w₀ C w' C) := by
 have hF0 := hF
 have hT := Stp.refl [2, 3, 4, 5, 6, 7, 8, 9] w₀ (col1 C)
 replace hF := hF.col1
 refine c_st F132.c0 26 [.agg (encD x).toArray, .agg (encD y).toArray] Tryz.func132 ?_
 show Run _ _ _ _ [(0, .agg (encD x).toArray), (1, .agg (encD y).toArray)] _ _
 refine run_sq (run_pl [nn 0, nn 1, yy 2] ?_)
 refine aT (kq 2 (.box 52 (.tmp 0))) rfl rfl (a_box (cs := encD x) hF 3 rfl rfl) ?_
 rintro _ w1 ⟨Cw1, bw1, rfl, s_1, hx, hF⟩
 refine aT (kq 3 (.box 52 (.tmp 1))) rfl rfl (a_box (cs := encD y) hF 3 rfl rfl) ?_
 rintro _ w2 ⟨Cw2, bw2, rfl, s_2, hy, hF⟩
 refine yAc 4 (.int .i64 0) ?_
 refine Sch.nil (run_sq ?_)
 refine run_draw (id := 1) (ops := F132.o1) [] (Cw2) [yy 0, yy 1, yy 2, yy 3, yy 4, yy 5, yy 6, yy 7, yy 9, yy 10, yy 11, yy 12, yy 14, yy 15, yy 16, yy 17, nn 8, nn 13, nn 18, nn 19, nn 20, yy 21] Tryz_mixed (by kernel_rfl) (by kernel_rfl) (by kernel_rfl) ?_
 intro w3 s_3
 have hR := Stp.refl [] w3 (Cw2)
 refine yF 5 52 2 0 0 ?_
 replace hx := (hx.t s_2).t s_3
 refine yS (kq 6 (.load 47 (.tmp 5))) rfl rfl (fun w' hS => val_loadOwnAgg (n := 2) (vs := encR x.A) (hx.stay hS (by decide)) (by kernel_rfl) (by kernel_rfl) rfl rfl rfl) ?_
 refine yF 7 52 2 1 2 ?_
 refine yS (kq 8 (.load 47 (.tmp 7))) rfl rfl (fun w' hS => val_loadOwnAgg (n := 2) (vs := encR x.B) (hx.stay hS (by decide)) (by kernel_rfl) (by kernel_rfl) rfl rfl rfl) ?_
 refine yF 9 52 3 0 0 ?_
 replace hy := hy.t s_3
 refine yS (kq 10 (.load 47 (.tmp 9))) rfl rfl (fun w' hS => val_loadOwnAgg (n := 2) (vs := encR y.A) (hy.stay hS (by decide)) (by kernel_rfl) (by kernel_rfl) rfl rfl rfl) ?_
 refine yF 11 52 3 1 2 ?_
 refine yS (kq 12 (.load 47 (.tmp 11))) rfl rfl (fun w' hS => val_loadOwnAgg (n := 2) (vs := encR y.B) (hy.stay hS (by decide)) (by kernel_rfl) (by kernel_rfl) rfl rfl rfl) ?_
 refine yF 14 52 2 2 4 ?_
 refine yS (kq 15 (.load 3 (.tmp 14))) rfl rfl (fun w' hS => val_loadOwn (hx.sy hS) (by kernel_rfl) rfl rfl) ?_
 refine yF 16 52 3 2 4 ?_
 refine yS (kq 17 (.load 3 (.tmp 16))) rfl rfl (fun w' hS => val_loadOwn (hy.sy hS) (by kernel_rfl) rfl rfl) ?_
 refine yF 19 52 2 3 5 ?_
 refine yS (kq 20 (.load 3 (.tmp 19))) rfl rfl (fun w' hS => val_loadOwn (hx.sy hS) (by kernel_rfl) rfl rfl) ?_
 refine yF 21 52 3 3 5 ?_
 refine yS (kq 22 (.load 3 (.tmp 21))) rfl rfl (fun w' hS => val_loadOwn (hy.sy hS) (by kernel_rfl) rfl rfl) ?_
 replace hF := hF.st s_3
 refine cF 13 130 [6, 8, 10, 12] [47, 47, 47, 47] Tryz.call130 rfl (couples_ok (a := x.A) (b := x.B) (c := y.A) (d := y.B) hF) ?_
 rintro vw4 w4 ⟨rfl, s_4⟩
 refine ⟨(hR.trans s_4 (by simp)).ext, ?_⟩
 refine cF 18 76 [15, 17] [3, 3] Tryz.call76 rfl (cmpI_ok _ _ _) ?_
 rintro vw5 w5 ⟨rfl, rfl⟩
 replace hR := hR.t s_4
 refine ⟨hR.ext, ?_⟩
 refine cF 23 76 [20, 22] [3, 3] Tryz.call76 rfl (cmpI_ok _ _ _) ?_
 rintro vw6 w6 ⟨rfl, rfl⟩
 refine ⟨hR.ext, ?_⟩
 replace hF := hF.st s_4
 refine aS (kq 24 (.buildSlice 22 3 #[(0, (.tmp 13)), (1, (.tmp 18)), (2, (.tmp 23))])) rfl rfl (a_buildSlice (ys := ([cmp2 x.A x.B y.A y.B, cmpI x.va y.va, cmpI x.vb y.vb] : List Int)) (e := 3) (bytes := 8) hF (by kernel_rfl) rfl (by decide) (by decide) ⟨rfl, ⟨_, rfl, rv_int.2 rfl⟩, rfl, ⟨_, rfl, rv_int.2 rfl⟩, rfl, ⟨_, rfl, rv_int.2 rfl⟩, trivial⟩) ?_
 rintro v24 w7 ⟨s_5, g24, hF⟩
 refine ⟨(hR.trans s_5 (by simp)).ext, ?_⟩
 refine cF 25 96 [24] [22] Tryz.call96 rfl (orI_ok g24) ?_
 rintro vw8 w8 ⟨rfl, rfl⟩
 replace hR := hR.t s_5
 refine ⟨hR.ext, ?_⟩
 refine yA 4 25 ?_
 refine Sch.nil ?_
 refine rt1 Tryz.func132 Tryz.results132 ?_
 replace hT := ((((hT.t s_1).t s_2).t s_3).t s_4).t s_5
 exact ⟨rfl, hT.out1 (by decide)⟩
namespace F93
def c0 := bodyOf Tryz.f93
def c14 := (cl (cr (cl (cr (cr c0)))))
def c23 := (cl (cl (cr (cr (cl c14)))))
def c34 := (cr (cr (cr (cl (cr c23)))))
def o10 := rops (cl (cr c34))
end F93
theorem decided_ok {w₀ : World} {C : Nat → Nat} {l : List Dcs} {vl : Value} (hF : Lim w₀ C) (hl : RV w₀ (Mc C) l vl) (hm : l.length ≤ 4096) (hO : ∀ i (h : i < l.length), dcsOK l[i]) (hA1 : ∀ i (h : i + 1 < l.length), cmpD l[i] l[i + 1] < 0) : Calls Tryz.prog 93 #[vl] w₀ (Ret fun v w' => v = .int .i64 0 ∧ Stp [] w₀ C w' C) := by
 have hF0 := hF
 have hT := Stp.refl [2, 3, 4, 5, 6, 7, 8, 9] w₀ (col1 C)
 replace hF := hF.col1
 replace hl := hl.c1
 refine c_st F93.c0 47 [vl] Tryz.func93 ?_
 show Run _ _ _ _ [(0, vl)] _ _
 refine run_sq (run_pl [yy 0] ?_)
 refine yAc 2 (.int .i64 0) ?_
 refine Sch.nil (run_sq (run_sq (run_pl [yy 0, yy 1, yy 2] ?_)))
 refine yM 5 0 ?_
 refine yS (kq 6 (.call { callee := .builtin .len, args := #[(.tmp 5)], argTypes := #[24] })) rfl rfl (fun w' hS => hl.lenV rfl Tryz.underlying24 w' ) ?_
 refine yV (kq 7 (.binOp .gtr 3 (.tmp 6) (.const (.int .i64 4096)) 3)) (fun _ => val_is (val_gtr rfl rfl) (show _ = Value.bool false from congrArg Value.bool (decide_eq_false (by omega)))) ?_
 refine Sch.nil (run_cF 7 (run_sk (run_sq (run_sq (run_pl [yy 0, yy 1, yy 2] ?_)))))
 refine yM 8 0 ?_
 refine yS (kq 9 (.call { callee := .builtin .len, args := #[(.tmp 8)], argTypes := #[24] })) rfl rfl (fun w' hS => hl.lenV rfl Tryz.underlying24 w' ) ?_
 refine yC 10 (.int .i64 0) ?_
 refine Sch.nil (run_bk 0 ?_)
 refine run_lp (ι := Nat × (Nat → Nat)) (I := fun x w => x.1 ≤ l.length ∧ Lim w x.2 ∧ Stp [2, 3, 4, 5, 6, 7, 8, 9] w₀ (col1 C) w x.2 ∧ RV w (Mc x.2) l vl) (e := fun x => [(0, vl), (8, vl), (9, .int .i64 l.length), (10, .int .i64 x.1)]) (m := fun x => l.length - x.1) (x₀ := (0, col1 C)) (sr 0 (sr 8 (sr 9 (sr 10 (sub_nil _))))) ?_ ?_
 · exact ⟨Nat.zero_le _, hF, hT, hl⟩
 intro ⟨i, C1⟩ w1 hI next1
 obtain ⟨hi, hF, hT, hl⟩ := hI
 try simp only at hi hF hT hl
 show Run _ _ _ _ [(0, vl), (8, vl), (9, .int .i64 l.length), (10, .int .i64 i)] _ _
 have hle := hl.le
 refine run_sq (run_pl [yy 0] ?_)
 refine yL 11 3 10 9 ?_
 refine Sch.nil (run_sq ?_)
 refine run_i 11 rfl (fun h11 => ?_) (fun h11 => ?_)
 ·
  have hil : i < l.length := by omega
  have hok := hO i hil
  unfold dcsOK at hok
  refine run_sk (run_sq (run_bk 1 (run_sq (run_pl [yy 0, yy 1, nn 2, nn 3, yy 4, nn 5] ?_))))
  refine yM 12 10 ?_
  refine iR 52 13 24 8 10 hl rfl (h := ?_)
  intro b13 o13 h13
  try simp only [Int.toNat_natCast] at h13
  refine lNA (kq 14 (.load 52 (.tmp 13))) rfl rfl trivial h13 (by kernel_rfl) (by kernel_rfl) rfl rfl ?_
  intro v14 g14
  obtain rfl := rv_dcs.1 g14
  refine aT (kq 4 (.alloc 52)) rfl rfl (a_alloc (cs := [.int .i64 0, .int .i64 0, .int .i64 0, .int .i64 0, .int .i64 0, .int .i64 0, .bool false]) hF 4 (by kernel_rfl)) ?_
  rintro _ w2 ⟨Cw2, bw2, rfl, s_1, hx, hF⟩
  refine yA 3 12 ?_
  refine aU (k0 (.store 52 (.tmp 4) (.tmp 14))) rfl (a_storeAll (vs := encD (l[i]'hil)) (n := 7) rfl rfl (by kernel_rfl) rfl rfl (by intro u hu; simp only [encD, List.mem_cons, List.not_mem_nil, or_false] at hu; rcases hu with rfl | rfl | rfl | rfl | rfl | rfl | rfl <;> rfl) hx rfl) ?_
  rintro _ w3 ⟨rfl, s_2, hx⟩
  refine Sch.nil (run_bk 2 (run_sq (run_pl [yy 0, nn 1, yy 2, nn 3, nn 4, yy 5, yy 6] ?_)))
  refine yF 16 52 4 0 0 ?_
  refine nS (kq 17 (.load 47 (.tmp 16))) rfl rfl trivial (val_loadOwnAgg (n := 2) (vs := encR (l[i]'hil).A) hx.at_ (by kernel_rfl) (by kernel_rfl) rfl rfl rfl) ?_
  refine yF 18 52 4 1 2 ?_
  refine nS (kq 19 (.load 47 (.tmp 18))) rfl rfl trivial (val_loadOwnAgg (n := 2) (vs := encR (l[i]'hil).B) hx.at_ (by kernel_rfl) (by kernel_rfl) rfl rfl rfl) ?_
  replace hF := hF.st s_2
  refine cG 20 129 [17, 19] [47, 47] Tryz.call129 rfl (couple_ok (x := (l[i]'hil).A) (y := (l[i]'hil).B) hF) ?_
  rintro vw4 w4 ⟨rfl, s_3⟩
  rw [hok.1]
  refine yV (kq 21 (.unOp .not 4 (.tmp 20))) (fun _ => val_not rfl) ?_
  refine yA 15 21 ?_
  refine Sch.nil (run_cF 15 (run_sq (run_pl [yy 0, nn 1, nn 2, yy 3, yy 4, yy 5, nn 6, nn 7, yy 8, yy 9, yy 10] ?_)))
  refine yF 23 52 4 2 4 ?_
  replace hx := hx.t s_3
  refine nO 24 3 23 hx.at_ rfl rfl ?_
  refine cG 25 131 [24] [3] Tryz.call131 rfl (verG_ok _ _) ?_
  rintro vw5 w5 ⟨rfl, rfl⟩
  rw [hok.2.1]
  refine yV (kq 26 (.unOp .not 4 (.tmp 25))) (fun _ => val_not rfl) ?_
  refine yM 27 26 ?_
  refine yFg 28 52 4 3 5 4 false ?_
  refine nS (kg 29 (.load 3 (.tmp 28)) 4 false) rfl rfl trivial (val_loadOwn hx.at_ (by kernel_rfl) rfl rfl) ?_
  refine cT (kg 30 (.call { callee := .value (.func 131), args := #[(.tmp 29)], argTypes := #[3] }) 4 false) rfl rfl (ent Tryz.call131 rfl) (verG_ok _ _) ?_
  rintro vw6 w6 ⟨rfl, rfl⟩
  rw [hok.2.2]
  refine yV (kg 31 (.unOp .not 4 (.tmp 30)) 4 false) (fun _ => val_not rfl) ?_
  refine yOf 32 27 31 ?_
  refine yA 22 32 ?_
  refine Sch.nil (run_cF 22 (run_sq ?_))
  by_cases hA : (0 : Int) < i
  ·
   refine run_draw (id := 10) (ops := F93.o10) [] (Cw2) [yy 0, yy 1, yy 2, yy 3, yy 4, yy 5, yy 6, yy 7, yy 8, nn 9, yy 10, yy 11, yy 12] Tryz_mixed (by kernel_rfl) (by kernel_rfl) (by kernel_rfl) ?_
   intro w7 s_4
   have hR := Stp.refl [] w7 (Cw2)
   refine yM 34 3 ?_
   refine yV (kq 35 (.binOp .gtr 3 (.tmp 34) (.const (.int .i64 0)) 3)) (fun _ => val_T (val_gtr rfl rfl) hA) ?_
   refine yM 36 35 ?_
   refine yMg 37 0 2 true ?_
   refine yMg 38 3 2 true ?_
   refine yV (kg 39 (.binOp .sub 3 (.tmp 38) (.const (.int .i64 1)) 3) 2 true) (fun _ => val_subi rfl rfl (by omega) (by omega)) ?_
   replace hl := (((hl.t s_1).t s_2).t s_3).t s_4
   refine iS (e := 52) (kg 40 (.indexAddr 24 (.tmp 37) (.tmp 39)) 2 true) rfl rfl hl rfl (by kernel_rfl) rfl (by omega) (by omega) ?_
   intro b40 o40 h40
   try simp only [Int.toNat_natCast] at h40
   refine lSA (kg 41 (.load 52 (.tmp 40)) 2 true) rfl rfl (fun w' hS => h40.sy hS) h40 (by kernel_rfl) (by kernel_rfl) rfl rfl ?_
   intro v41 g41
   have eq1 : ((i : Int) - 1).toNat = i - 1 := by omega
   simp only [eq1] at g41
   obtain rfl := rv_dcs.1 g41
   replace hx := hx.t s_4
   refine yS (kg 42 (.load 52 (.tmp 4)) 2 true) rfl rfl (fun w' hS => val_loadOwnAgg (n := 7) (vs := encD (l[i]'hil)) (hx.stay hS (by decide)) (by kernel_rfl) (by kernel_rfl) rfl rfl rfl) ?_
   replace hF := (hF.st s_3).st s_4
   refine cS (kg 43 (.call { callee := .value (.func 132), args := #[(.tmp 41), (.tmp 42)], argTypes := #[52, 52] }) 2 true) rfl rfl (ent Tryz.call132 rfl) (decisions_ok (y := l[i]'hil) hF) ?_
   rintro vw8 w8 ⟨rfl, s_5⟩
   have hlt : cmpD (l[i - 1]'(by omega)) (l[i]'hil) < 0 := by
     have := hA1 (i - 1) (by omega)
     simp only [show i - 1 + 1 = i from by omega] at this
     exact this
   refine ⟨(hR.trans s_5 (by simp)).ext, ?_⟩
   refine yV (kg 44 (.binOp .geq 3 (.tmp 43) (.const (.int .i64 0)) 3) 2 true) (fun _ => val_is (val_geq rfl rfl) (show _ = Value.bool false from congrArg Value.bool (decide_eq_false (by omega)))) ?_
   refine yAt 45 36 44 ?_
   refine yA 33 45 ?_
   refine Sch.nil (run_cF 33 (run_sk (run_inBlock (run_inBlock (run_pl [yy 0, yy 1] ?_)))))
   refine yI 46 3 10 1 ?_
   refine yM 10 46 ?_
   refine Sch.nil ?_
   replace hT := ((((hT.t s_1).t s_2).t s_3).t s_4).t s_5; replace hF := hF.st s_5; replace hl := hl.t s_5
   refine kp (sr 0 (sr 8 (sr 9 (sub_cons 10 rfl (eq_int (by simp)) (sub_nil _))))) (next1 (i + 1, Cw2) _ ⟨(by first | omega | (simp only; omega)), hF, hT, hl⟩ (by first | omega | (simp only; omega)))
  refine run_draw (id := 10) (ops := F93.o10) [] (Cw2) [yy 0, yy 1, yy 2, yy 3, yy 4, yy 5, yy 6, yy 7, yy 8, nn 9, yy 10, yy 11, yy 12] Tryz_mixed (by kernel_rfl) (by kernel_rfl) (by kernel_rfl) ?_
  intro w9 s_6
  have hR := Stp.refl [] w9 (Cw2)
  refine yM 34 3 ?_
  refine yV (kq 35 (.binOp .gtr 3 (.tmp 34) (.const (.int .i64 0)) 3)) (fun _ => val_F (val_gtr rfl rfl) hA) ?_
  refine yM 36 35 ?_
  refine pX 37 2 true ?_
  refine pX 38 2 true ?_
  refine pX 39 2 true ?_
  refine pX 40 2 true ?_
  refine pX 41 2 true ?_
  refine pX 42 2 true ?_
  refine pW (kg 43 (.call { callee := .value (.func 132), args := #[(.tmp 41), (.tmp 42)], argTypes := #[52, 52] }) 2 true) rfl rfl hR.ext ?_
  refine pX 44 2 true ?_
  refine yAf 45 36 44 ?_
  refine yA 33 45 ?_
  refine Sch.nil (run_cF 33 (run_sk (run_inBlock (run_inBlock (run_pl [yy 0, yy 1] ?_)))))
  refine yI 46 3 10 1 ?_
  refine yM 10 46 ?_
  refine Sch.nil ?_
  replace hT := (((hT.t s_1).t s_2).t s_3).t s_6; replace hl := (((hl.t s_1).t s_2).t s_3).t s_6; replace hF := (hF.st s_3).st s_6
  refine kp (sr 0 (sr 8 (sr 9 (sub_cons 10 rfl (eq_int (by simp)) (sub_nil _))))) (next1 (i + 1, Cw2) _ ⟨(by first | omega | (simp only; omega)), hF, hT, hl⟩ (by first | omega | (simp only; omega)))
 have hil : i = l.length := by omega
 refine run_ex 0 ?_
 refine run_sq (run_pl [yy 0] ?_)
 refine yAc 2 (.int .i64 0) ?_
 refine Sch.nil ?_
 refine rt1 Tryz.func93 Tryz.results93 ?_
 exact ⟨rfl, hT.out1 (by decide)⟩
end
end Go.Proofs.YtdmgmlmlielfbaaGreat
