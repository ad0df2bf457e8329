/- Steps through functions of the program. -/
import Derived.Test.YtdmgmlmlielfbaaGreatJF6
import Derived.Test.YtdmgmlmlielfbaaGreatL3
import Derived.Test.YtdmgmlmlielfbaaGreatL2
set_option linter.unusedVariables false
set_option linter.unusedSimpArgs false
set_option maxRecDepth 100000
set_option maxHeartbeats 4000000
namespace Go.Proofs.YtdmgmlmlielfbaaGreat
open Go.K Go.K.Rep
noncomputable section
namespace F112
def c0 := bodyOf Tryz.f112
def o1 := rops (cl (cr c0))
end F112
theorem heads_ok {w₀ : World} {C : Nat → Nat} {x y : List Couple} {vx vy : Value} (hF : Lim w₀ C) (hx : RV w₀ (Mc C) x vx) (hy : RV w₀ (Mc C) y vy) (hnx : 0 < x.length) (hny : 0 < y.length) : Calls Tryz.prog 112 #[vx, vy] w₀ (Ret fun v w' => v = .int .i64 (cmpH x y) ∧ Stp [] w₀ C w' C) := by
 have hF0 := hF
 have hT := Stp.refl [2, 3, 4, 5, 6, 7, 8, 9] w₀ (col1 C)
 replace hF := hF.col1
 replace hx := hx.c1
 replace hy := hy.c1
 refine c_st F112.c0 12 [vx, vy] Tryz.func112 ?_
 show Run _ _ _ _ [(0, vx), (1, vy)] _ _
 refine run_sq (run_pl [yy 0] ?_)
 refine yAc 4 (.int .i64 0) ?_
 refine Sch.nil (run_sq ?_)
 refine run_draw (id := 1) (ops := F112.o1) [] (col1 C) [yy 0, yy 1, yy 2, yy 3, yy 4, yy 5, nn 6, yy 7] Tryz_mixed (by kernel_rfl) (by kernel_rfl) (by kernel_rfl) ?_
 intro w1 s_1
 have hR := Stp.refl [] w1 (col1 C)
 replace hx := hx.t s_1
 have hle1 := hx.le
 replace hy := hy.t s_1
 have hle2 := hy.le
 refine yM 5 0 ?_
 refine iS (e := 47) (kq 6 (.indexAddr 53 (.tmp 5) (.const (.int .i64 0)))) rfl rfl hx rfl (by kernel_rfl) rfl (by omega) (by omega) ?_
 intro b6 o6 h6
 try simp only [Int.toNat_natCast] at h6
 refine lSA (kq 7 (.load 47 (.tmp 6))) rfl rfl (fun w' hS => h6.sy hS) h6 (by kernel_rfl) (by kernel_rfl) rfl rfl ?_
 intro v7 g7
 obtain rfl := rv_couple.1 g7
 refine yM 8 1 ?_
 refine iS (e := 47) (kq 9 (.indexAddr 53 (.tmp 8) (.const (.int .i64 0)))) rfl rfl hy rfl (by kernel_rfl) rfl (by omega) (by omega) ?_
 intro b9 o9 h9
 try simp only [Int.toNat_natCast] at h9
 refine lSA (kq 10 (.load 47 (.tmp 9))) rfl rfl (fun w' hS => h9.sy hS) h9 (by kernel_rfl) (by kernel_rfl) rfl rfl ?_
 intro v10 g10
 obtain rfl := rv_couple.1 g10
 replace hF := hF.st s_1
 refine cF 11 55 [7, 10] [47, 47] Tryz.call55 rfl (compare_ok hF) ?_
 rintro vw2 w2 ⟨rfl, s_2⟩
 refine ⟨(hR.trans s_2 (by simp)).ext, ?_⟩
 refine yA 4 11 ?_
 refine Sch.nil ?_
 refine rt1 Tryz.func112 Tryz.results112 ?_
 replace hT := (hT.t s_1).t s_2
 exact ⟨by rw [cmpH_at hnx hny]; rfl, hT.out1 (by decide)⟩
namespace F147
def c0 := bodyOf Tryz.f147
def c11 := (cl (cr (cl (cl (cr c0)))))
def c17 := (cl (cl (cl (cr (cl c11)))))
def o4 := rops (cl c17)
def c22 := (cr (cl (cl (cr (cl c11)))))
def o6 := rops (cl (cl c22))
end F147
theorem insL_ok {w₀ : World} {C : Nat → Nat} {j a b : Nat} {v : Value} {ys : List (List Couple)} (hF : Lim w₀ C) (hj : j ≠ 0) (ho : OwnL w₀ C j 53 v ys) (hPy : ∀ x ∈ ys, 0 < x.length) (hab : a ≤ b) (hb : b ≤ ys.length) (hlen : ys.length ≤ 140737488355328) :
    Calls Tryz.prog 147 #[v, .int .i64 a, .int .i64 b, .func (.func 112) #[] #[]] w₀ (Ret fun u w' => u = .tuple #[] ∧ ∃ zs σ, PL ys σ zs ∧ Within σ a b ∧ Asc (ordT cmpH ys) σ a b ∧ Stp [j] w₀ C w' C ∧ OwnL w' C j 53 v zs ∧ Lim w' C) := by
 have hT := Stp.refl [j] w₀ C
 refine c_st F147.c0 53 [v, .int .i64 a, .int .i64 b, .func (.func 112) #[] #[]] Tryz.func147 ?_
 show Run _ _ _ _ [(0, v), (1, .int .i64 a), (2, .int .i64 b), (3, .func (.func 112) #[] #[])] _ _
 refine run_sq (run_pl [yy 0, yy 1, yy 2] ?_)
 refine yM 10 1 ?_
 refine yI 11 3 10 1 ?_
 refine yA 8 11 ?_
 refine Sch.nil (run_bk 0 ?_)
 refine run_lp (ι := Nat × (List (List Couple)) × (Nat → Nat)) (I := fun x w => a + 1 ≤ x.1 ∧ x.1 ≤ max (a + 1) b ∧ PL ys x.2.2 x.2.1 ∧ Within x.2.2 a x.1 ∧ Asc (ordT cmpH ys) x.2.2 a x.1 ∧ Lim w C ∧ Stp [j] w₀ C w C ∧ OwnL w C j 53 v x.2.1) (e := fun x => [(0, v), (1, .int .i64 a), (2, .int .i64 b), (3, .func (.func 112) #[] #[]), (8, .int .i64 x.1)]) (m := fun x => b - x.1) (x₀ := (a + 1, ys, fun i => i)) (sr 0 (sr 1 (sr 2 (sr 3 (sub_cons 8 rfl (eq_int (by simp)) (sub_nil _)))))) ?_ ?_
 · exact ⟨Nat.le_refl _, by omega, PL.id ys, Within.id _ _, fun p q h1 h2 h3 => by omega, hF, hT, ho⟩
 intro ⟨i, zs, σ⟩ w1 hI next1
 obtain ⟨hi1, hi2, hPL, hWi, hAs, hF, hT, ho⟩ := hI
 try simp only at hi1 hi2 hPL hWi hAs hF hT ho
 show Run _ _ _ _ [(0, v), (1, .int .i64 a), (2, .int .i64 b), (3, .func (.func 112) #[] #[]), (8, .int .i64 i)] _ _
 have hzl := hPL.len
 refine run_sq (run_sq (run_pl [yy 0, yy 1, yy 2] ?_))
 refine yM 12 8 ?_
 refine yM 13 2 ?_
 refine yL 14 3 12 13 ?_
 refine Sch.nil ?_
 refine run_i 14 rfl (fun h14 => ?_) (fun h14 => ?_)
 ·
  have hib : i < b := by omega
  have hil : i < ys.length := by omega
  refine run_sk (run_sq (run_bk 1 (run_sq (run_pl [yy 0, yy 1] ?_))))
  refine yM 17 8 ?_
  refine yA 9 17 ?_
  refine Sch.nil (run_bk 2 ?_)
  refine run_lp (ι := Nat × (List (List Couple)) × (Nat → Nat)) (I := fun x w => PL ys x.2.2 x.2.1 ∧ InsI cmpH ys x.2.2 a i x.1 ∧ Lim w C ∧ Stp [j] w₀ C w C ∧ OwnL w C j 53 v x.2.1) (e := fun x => [(0, v), (1, .int .i64 a), (2, .int .i64 b), (3, .func (.func 112) #[] #[]), (8, .int .i64 i), (9, .int .i64 x.1)]) (m := fun x => x.1) (x₀ := (i, zs, σ)) (sr 0 (sr 1 (sr 2 (sr 3 (sr 8 (sr 9 (sub_nil _))))))) ?_ ?_
  · exact ⟨hPL, InsI.start hWi (by omega) hAs, hF, hT, ho⟩
  intro ⟨q, zs, σ⟩ w2 hI next2
  obtain ⟨hPL, hI, hF, hT, ho⟩ := hI
  try simp only at hPL hI hF hT ho
  show Run _ _ _ _ [(0, v), (1, .int .i64 a), (2, .int .i64 b), (3, .func (.func 112) #[] #[]), (8, .int .i64 i), (9, .int .i64 q)] _ _
  have hzl := hPL.len
  have hle := hI.le
  refine run_sq (run_sq ?_)
  by_cases hA : (a : Int) < q
  ·
   refine run_draw (id := 4) (ops := F147.o4) [] (C) [yy 0, yy 1, yy 2, yy 3, yy 4, yy 5, yy 6, yy 7, yy 8, yy 9, yy 10, yy 11, yy 12, yy 13, nn 14, yy 15, yy 16] Tryz_mixed (by kernel_rfl) (by kernel_rfl) (by kernel_rfl) ?_
   intro w3 s_1
   have hR := Stp.refl [] w3 (C)
   refine yM 18 9 ?_
   refine yM 19 1 ?_
   refine yV (kq 20 (.binOp .gtr 3 (.tmp 18) (.tmp 19) 3)) (fun _ => val_T (val_gtr rfl rfl) hA) ?_
   refine yM 21 20 ?_
   refine yMg 22 3 3 true ?_
   refine yMg 23 0 3 true ?_
   refine yMg 24 9 3 true ?_
   replace ho := ho.t s_1
   refine oI (e' := 53) (kg 25 (.indexAddr 25 (.tmp 23) (.tmp 24)) 3 true) rfl rfl ho rfl (by kernel_rfl) rfl (by omega) (by first | omega | (simp only [List.length_set]; omega)) ?_
   intro g25 hg25
   try simp only [Int.toNat_natCast]
   refine oS (I := []) (kg 26 (.load 53 (.tmp 25)) 3 true) rfl rfl ho hg25 (fun w' hS => ho.sy hg25 hS) (by first | omega | (simp only [List.length_set]; omega)) (by kernel_rfl) rfl rfl ?_
   intro v26 g26
   try simp only [Int.toNat_natCast] at g26
   refine yMg 27 0 3 true ?_
   refine yMg 28 9 3 true ?_
   refine yV (kg 29 (.binOp .sub 3 (.tmp 28) (.const (.int .i64 1)) 3) 3 true) (fun _ => val_subi rfl rfl (by omega) (by omega)) ?_
   refine oI (e' := 53) (kg 30 (.indexAddr 25 (.tmp 27) (.tmp 29)) 3 true) rfl rfl ho rfl (by kernel_rfl) rfl (by omega) (by first | omega | (simp only [List.length_set]; omega)) ?_
   intro g30 hg30
   try simp only [Int.toNat_natCast]
   refine oS (I := []) (kg 31 (.load 53 (.tmp 30)) 3 true) rfl rfl ho hg30 (fun w' hS => ho.sy hg30 hS) (by first | omega | (simp only [List.length_set]; omega)) (by kernel_rfl) rfl rfl ?_
   intro v31 g31
   try simp only [Int.toNat_natCast] at g31
   have eq1 : ((q : Int) - 1).toNat = q - 1 := by omega
   simp only [eq1] at g31
   replace hF := hF.st s_1
   refine cS (kg 32 (.call { callee := .value (.tmp 22), args := #[(.tmp 26), (.tmp 31)], argTypes := #[53, 53] }) 3 true) rfl rfl (enters_func (fun args w => Tryz.call112 args w) rfl rfl) (heads_ok hF g26 g31 (hPy _ (hPL.sub _ (List.getElem_mem (by omega)))) (hPy _ (hPL.sub _ (List.getElem_mem (by omega))))) ?_
   rintro vw4 w4 ⟨rfl, s_2⟩
   refine ⟨(hR.trans s_2 (by simp)).ext, ?_⟩
   refine yV (kg 33 (.binOp .lss 3 (.tmp 32) (.const (.int .i64 0)) 3) 3 true) (fun _ => val_lss rfl rfl) ?_
   refine yAt 34 21 33 ?_
   refine Sch.nil ?_
   refine run_i 34 rfl (fun h34 => ?_) (fun h34 => ?_)
   ·
    have hord := (hI.ord cmpH_3 (fun x _ => trivial) hPL (by omega) hil (by omega) (by omega)).2 h34
    refine run_sk (run_sq (run_bk 3 ?_))
    refine run_tree (id := 6) (ops := F147.o6) [j] (C) 17 (.fork [0, 1, 2, 3, 4, 5, 6, 7, 8, 10, 11, 12] 9 (.run [nn 13, yy 14, nn 15, yy 16, nn 17]) 13 (.run [nn 9, yy 14, nn 15, yy 16, nn 17])) Tryz_mixed (by kernel_rfl) (by kernel_rfl) (by kernel_rfl) ?_
    intro w5 s_3
    have hR := Stp.refl [j] w5 (C)
    refine tr_fork ?_
    show SchQ _ _ _ _ _ [yy 0, yy 1, yy 2, yy 3, yy 4, yy 5, yy 6, yy 7, yy 8, yy 10, yy 11, yy 12] _ _
    refine yM 37 0 ?_
    refine yM 38 9 ?_
    refine yM 39 0 ?_
    refine yM 40 9 ?_
    refine yV (kq 41 (.binOp .sub 3 (.tmp 40) (.const (.int .i64 1)) 3)) (fun _ => val_subi rfl rfl (by omega) (by omega)) ?_
    refine yM 42 0 ?_
    refine yM 43 9 ?_
    refine yV (kq 44 (.binOp .sub 3 (.tmp 43) (.const (.int .i64 1)) 3)) (fun _ => val_subi rfl rfl (by omega) (by omega)) ?_
    replace ho := (ho.t s_2).t s_3
    refine oR 53 45 25 42 44 ho rfl (by first | omega | (simp only [List.length_set]; omega)) (h := ?_)
    intro g45 hg45
    try simp only [Int.toNat_natCast]
    refine yM 47 0 ?_
    refine yM 48 9 ?_
    refine oR 53 49 25 47 48 ho rfl (by first | omega | (simp only [List.length_set]; omega)) (h := ?_)
    intro g49 hg49
    try simp only [Int.toNat_natCast]
    refine tr_do2 ?_ ?_
    ·
     show SchQ _ _ _ _ _ [nn 9] _ _
     refine oN (kq 46 (.load 53 (.tmp 45))) rfl rfl hR.ext ho hg45 (by first | omega | (simp only [List.length_set]; omega)) (by kernel_rfl) rfl rfl ?_
     intro v46 g46
     try simp only [Int.toNat_natCast] at g46
     have eq1 : ((q : Int) - 1).toNat = q - 1 := by omega
     simp only [eq1] at g46
     refine tr_next hR.ext ?_
     refine tr_run ?_
     show SchQ _ _ _ _ _ [nn 13, yy 14, nn 15, yy 16, nn 17] _ _
     refine oN (kq 50 (.load 53 (.tmp 49))) rfl rfl hR.ext ho hg49 (by first | omega | (simp only [List.length_set]; omega)) (by kernel_rfl) rfl rfl ?_
     intro v50 g50
     try simp only [Int.toNat_natCast] at g50
     refine oR 53 51 25 37 38 ho rfl (by first | omega | (simp only [List.length_set]; omega)) (h := ?_)
     intro g51 hg51
     try simp only [Int.toNat_natCast]
     refine aN (k0 (.store 53 (.tmp 51) (.tmp 46))) rfl (a_storeO ho hg51 (by first | omega | (simp only [List.length_set]; omega)) rfl rfl (by kernel_rfl) g46) ?_
     rintro _ w6 ⟨rfl, s_4, ho⟩
     refine ⟨(hR.trans s_4 (by simp)).ext, ?_⟩
     replace hT := ((hT.t s_1).t s_2).t s_3
     replace hT := hT.trans s_4 (by simp <;> omega)
     replace hR := hR.trans s_4 (by simp <;> omega)
     refine oR 53 52 25 39 41 ho rfl (by first | omega | (simp only [List.length_set]; omega)) (h := ?_)
     intro g52 hg52
     try simp only [Int.toNat_natCast]
     refine Sch.free rfl ?_
     replace g50 := g50.t s_4
     refine aU (k0 (.store 53 (.tmp 52) (.tmp 50))) rfl (a_storeO ho hg52 (by first | omega | (simp only [List.length_set]; omega)) rfl rfl (by kernel_rfl) g50) ?_
     rintro _ w7 ⟨rfl, s_5, ho⟩
     replace hT := hT.trans s_5 (by simp <;> omega)
     refine Sch.nil (run_inBlock (run_pl [yy 0, yy 1, yy 2] ?_))
     refine yM 35 9 ?_
     refine yV (kq 36 (.binOp .sub 3 (.tmp 35) (.const (.int .i64 1)) 3)) (fun _ => val_subi rfl rfl (by omega) (by omega)) ?_
     refine yA 9 36 ?_
     refine Sch.nil ?_
     try simp only [show ((q : Int) - 1).toNat = q - 1 from by omega, Int.toNat_natCast] at ho
     replace hF := (((hF.st s_2).st s_3).st s_4).st s_5
     refine kp (sr 0 (sr 1 (sr 2 (sr 3 (sr 8 (sub_cons 9 rfl (eq_int (by simp only; omega)) (sub_nil _))))))) (next2 (q - 1, ((zs.set q (zs[q - 1]'(by omega))).set (q - 1) (zs[q]'(by omega))), (swF σ q (q - 1))) _ ⟨(hPL.swap (by omega) (by omega) rfl rfl), (hI.step (by omega) hord), hF, hT, ho⟩ (by first | omega | (simp only; omega)))
    show SchQ _ _ _ _ _ [nn 13] _ _
    refine oN (kq 50 (.load 53 (.tmp 49))) rfl rfl hR.ext ho hg49 (by first | omega | (simp only [List.length_set]; omega)) (by kernel_rfl) rfl rfl ?_
    intro v50 g50
    try simp only [Int.toNat_natCast] at g50
    refine tr_next hR.ext ?_
    refine tr_run ?_
    show SchQ _ _ _ _ _ [nn 9, yy 14, nn 15, yy 16, nn 17] _ _
    refine oN (kq 46 (.load 53 (.tmp 45))) rfl rfl hR.ext ho hg45 (by first | omega | (simp only [List.length_set]; omega)) (by kernel_rfl) rfl rfl ?_
    intro v46 g46
    try simp only [Int.toNat_natCast] at g46
    have eq1 : ((q : Int) - 1).toNat = q - 1 := by omega
    simp only [eq1] at g46
    refine oR 53 51 25 37 38 ho rfl (by first | omega | (simp only [List.length_set]; omega)) (h := ?_)
    intro g51 hg51
    try simp only [Int.toNat_natCast]
    refine aN (k0 (.store 53 (.tmp 51) (.tmp 46))) rfl (a_storeO ho hg51 (by first | omega | (simp only [List.length_set]; omega)) rfl rfl (by kernel_rfl) g46) ?_
    rintro _ w8 ⟨rfl, s_6, ho⟩
    refine ⟨(hR.trans s_6 (by simp)).ext, ?_⟩
    replace hT := ((hT.t s_1).t s_2).t s_3
    replace hT := hT.trans s_6 (by simp <;> omega)
    replace hR := hR.trans s_6 (by simp <;> omega)
    refine oR 53 52 25 39 41 ho rfl (by first | omega | (simp only [List.length_set]; omega)) (h := ?_)
    intro g52 hg52
    try simp only [Int.toNat_natCast]
    refine Sch.free rfl ?_
    replace g50 := g50.t s_6
    refine aU (k0 (.store 53 (.tmp 52) (.tmp 50))) rfl (a_storeO ho hg52 (by first | omega | (simp only [List.length_set]; omega)) rfl rfl (by kernel_rfl) g50) ?_
    rintro _ w9 ⟨rfl, s_7, ho⟩
    replace hT := hT.trans s_7 (by simp <;> omega)
    refine Sch.nil (run_inBlock (run_pl [yy 0, yy 1, yy 2] ?_))
    refine yM 35 9 ?_
    refine yV (kq 36 (.binOp .sub 3 (.tmp 35) (.const (.int .i64 1)) 3)) (fun _ => val_subi rfl rfl (by omega) (by omega)) ?_
    refine yA 9 36 ?_
    refine Sch.nil ?_
    try simp only [show ((q : Int) - 1).toNat = q - 1 from by omega, Int.toNat_natCast] at ho
    replace hF := (((hF.st s_2).st s_3).st s_6).st s_7
    refine kp (sr 0 (sr 1 (sr 2 (sr 3 (sr 8 (sub_cons 9 rfl (eq_int (by simp only; omega)) (sub_nil _))))))) (next2 (q - 1, ((zs.set q (zs[q - 1]'(by omega))).set (q - 1) (zs[q]'(by omega))), (swF σ q (q - 1))) _ ⟨(hPL.swap (by omega) (by omega) rfl rfl), (hI.step (by omega) hord), hF, hT, ho⟩ (by first | omega | (simp only; omega)))
   have hord : q = a ∨ ¬ ordT cmpH ys i (σ (q - 1)) := .inr (fun e => h34 ((hI.ord cmpH_3 (fun x _ => trivial) hPL (by omega) hil (by omega) (by omega)).1 e))
   refine run_ex 2 ?_
   refine run_inBlock (run_pl [yy 0, yy 1, yy 2] ?_)
   skip
   refine yM 15 8 ?_
   refine yI 16 3 15 1 ?_
   refine yA 8 16 ?_
   refine Sch.nil ?_
   have hord2 : q = a ∨ ¬ ordT cmpH ys i (σ (q - 1)) := hord
   obtain ⟨hw2, ha2⟩ := hI.done cmpH_3 (fun x _ => trivial) hil hord2
   replace hT := (hT.t s_1).t s_2; replace hF := hF.st s_2; replace ho := ho.t s_2
   refine kp (sr 0 (sr 1 (sr 2 (sr 3 (sub_cons 8 rfl (eq_int (by simp)) (sub_nil _)))))) (next1 (i + 1, zs, σ) _ ⟨(by first | omega | (simp only; omega)), (by first | omega | (simp only; omega)), (by first | omega | (simp only; omega)), hw2, ha2, hF, hT, ho⟩ (by first | omega | (simp only; omega)))
  refine run_draw (id := 4) (ops := F147.o4) [] (C) [yy 0, yy 1, yy 2, yy 3, yy 4, yy 5, yy 6, yy 7, yy 8, yy 9, yy 10, yy 11, yy 12, yy 13, nn 14, yy 15, yy 16] Tryz_mixed (by kernel_rfl) (by kernel_rfl) (by kernel_rfl) ?_
  intro w10 s_8
  have hR := Stp.refl [] w10 (C)
  refine yM 18 9 ?_
  refine yM 19 1 ?_
  refine yV (kq 20 (.binOp .gtr 3 (.tmp 18) (.tmp 19) 3)) (fun _ => val_F (val_gtr rfl rfl) hA) ?_
  refine yM 21 20 ?_
  refine pX 22 3 true ?_
  refine pX 23 3 true ?_
  refine pX 24 3 true ?_
  refine pX 25 3 true ?_
  refine pX 26 3 true ?_
  refine pX 27 3 true ?_
  refine pX 28 3 true ?_
  refine pX 29 3 true ?_
  refine pX 30 3 true ?_
  refine pX 31 3 true ?_
  refine pW (kg 32 (.call { callee := .value (.tmp 22), args := #[(.tmp 26), (.tmp 31)], argTypes := #[53, 53] }) 3 true) rfl rfl hR.ext ?_
  refine pX 33 3 true ?_
  refine yAf 34 21 33 ?_
  refine Sch.nil (run_cF 34 (run_ex 2 ?_))
  refine run_inBlock (run_pl [yy 0, yy 1, yy 2] ?_)
  skip
  refine yM 15 8 ?_
  refine yI 16 3 15 1 ?_
  refine yA 8 16 ?_
  refine Sch.nil ?_
  have hord2 : q = a ∨ ¬ ordT cmpH ys i (σ (q - 1)) := .inl (by omega)
  obtain ⟨hw2, ha2⟩ := hI.done cmpH_3 (fun x _ => trivial) hil hord2
  replace hF := hF.st s_8; replace hT := hT.t s_8; replace ho := ho.t s_8
  refine kp (sr 0 (sr 1 (sr 2 (sr 3 (sub_cons 8 rfl (eq_int (by simp)) (sub_nil _)))))) (next1 (i + 1, zs, σ) _ ⟨(by first | omega | (simp only; omega)), (by first | omega | (simp only; omega)), (by first | omega | (simp only; omega)), hw2, ha2, hF, hT, ho⟩ (by first | omega | (simp only; omega)))
 have hib : b ≤ i := by omega
 refine run_ex 0 ?_
 refine run_end0 Tryz.func147 rfl ?_
 refine ⟨rfl, zs, σ, hPL, ?_, ?_, hT, ho, hF⟩
 · by_cases e : i = a + 1
   · subst e; exact hWi.thin hab
   rw [show b = i by omega]; exact hWi
 exact fun p q h1 h2 h3 => hAs p q h1 h2 (by omega)
namespace F137
def c0 := bodyOf Tryz.f137
end F137
theorem pdqL_ok {w₀ : World} {C : Nat → Nat} {j : Nat} {v : Value} {ys : List (List Couple)} {m : Int} (hF : Lim w₀ C) (hj : j ≠ 0) (ho : OwnL w₀ C j 53 v ys) (hPy : ∀ x ∈ ys, 0 < x.length) (hlen : ys.length ≤ 12) :
    Calls Tryz.prog 137 #[v, .int .i64 0, .int .i64 ys.length, .int .i64 m, .func (.func 112) #[] #[]] w₀ (Ret fun u w' => u = .tuple #[] ∧ ∃ zs, StS cmpH ys zs ∧ Stp [j] w₀ C w' C ∧ OwnL w' C j 53 v zs ∧ Lim w' C) := by
 have hT := Stp.refl [j] w₀ C
 refine c_st F137.c0 148 [v, .int .i64 0, .int .i64 ys.length, .int .i64 m, .func (.func 112) #[] #[]] Tryz.func137 ?_
 show Run _ _ _ _ [(0, v), (1, .int .i64 0), (2, .int .i64 ys.length), (3, .int .i64 m), (4, .func (.func 112) #[] #[])] _ _
 refine run_sq (run_pl [yy 0] ?_)
 refine yAc 10 (.bool true) ?_
 refine Sch.nil (run_sq (run_pl [yy 0] ?_))
 refine yAc 11 (.bool true) ?_
 refine Sch.nil (run_bk 0 ?_)
 refine run_lp (ι := Nat) (I := fun x w => Lim w C ∧ Stp [j] w₀ C w C ∧ OwnL w C j 53 v ys) (e := fun x => [(0, v), (1, .int .i64 0), (2, .int .i64 ys.length), (4, .func (.func 112) #[] #[])]) (m := fun x => 0) (x₀ := 0) (sr 0 (sr 1 (sr 2 (sr 4 (sub_nil _))))) ?_ ?_
 · exact ⟨hF, hT, ho⟩
 intro z w1 hI next1
 obtain ⟨hF, hT, ho⟩ := hI
 try simp only at hF hT ho
 show Run _ _ _ _ [(0, v), (1, .int .i64 0), (2, .int .i64 ys.length), (4, .func (.func 112) #[] #[])] _ _
 refine run_bk 1 (run_sq (run_pl [yy 0, yy 1, yy 2, yy 3] ?_))
 refine yM 21 2 ?_
 refine yM 22 1 ?_
 refine yV (kq 23 (.binOp .sub 3 (.tmp 21) (.tmp 22) 3)) (fun _ => val_subi rfl rfl (by omega) (by omega)) ?_
 refine yA 12 23 ?_
 refine Sch.nil (run_sq (run_sq (run_pl [yy 0, yy 1] ?_)))
 refine yM 24 12 ?_
 refine yV (kq 25 (.binOp .leq 3 (.tmp 24) (.const (.int .i64 12)) 3)) (fun _ => val_is (val_leq rfl rfl) (show _ = Value.bool true from congrArg Value.bool (decide_eq_true (by omega)))) ?_
 refine Sch.nil (run_cT 25 (run_sq (run_pl [yy 0, yy 1, yy 2, yy 3, nn 4] ?_)))
 refine yM 26 0 ?_
 refine yM 27 1 ?_
 refine yM 28 2 ?_
 refine yM 29 4 ?_
 refine cG 30 147 [26, 27, 28, 29] [25, 3, 3, 149] Tryz.call147 rfl (insL_ok (a := 0) (b := ys.length) hF hj ho hPy (Nat.zero_le _) (Nat.le_refl _) (by omega)) ?_
 rintro vw2 w2 ⟨rfl, zs, σ, hPL, hWi, hAs, s_1, ho, hF⟩
 replace hT := hT.trans s_1 (by simp <;> omega)
 refine Sch.nil ?_
 refine run_ret0 (by kernel_rfl) Tryz.func137 Tryz.results137 ?_
 exact ⟨rfl, zs, ⟨σ, hPL, hWi, hAs⟩, hT, ho, hF⟩
def TAB : ByteArray := ⟨#[0, 1, 2, 2, 3, 3, 3, 3, 4, 4, 4, 4, 4, 4, 4, 4, 5, 5, 5, 5, 5, 5, 5, 5, 5, 5, 5, 5, 5, 5, 5, 5, 6, 6, 6, 6, 6, 6, 6, 6, 6, 6, 6, 6, 6, 6, 6, 6, 6, 6, 6, 6, 6, 6, 6, 6, 6, 6, 6, 6, 6, 6, 6, 6, 7, 7, 7, 7, 7, 7, 7, 7, 7, 7, 7, 7, 7, 7, 7, 7, 7, 7, 7, 7, 7, 7, 7, 7, 7, 7, 7, 7, 7, 7, 7, 7, 7, 7, 7, 7, 7, 7, 7, 7, 7, 7, 7, 7, 7, 7, 7, 7, 7, 7, 7, 7, 7, 7, 7, 7, 7, 7, 7, 7, 7, 7, 7, 7, 8, 8, 8, 8, 8, 8, 8, 8, 8, 8, 8, 8, 8, 8, 8, 8, 8, 8, 8, 8, 8, 8, 8, 8, 8, 8, 8, 8, 8, 8, 8, 8, 8, 8, 8, 8, 8, 8, 8, 8, 8, 8, 8, 8, 8, 8, 8, 8, 8, 8, 8, 8, 8, 8, 8, 8, 8, 8, 8, 8, 8, 8, 8, 8, 8, 8, 8, 8, 8, 8, 8, 8, 8, 8, 8, 8, 8, 8, 8, 8, 8, 8, 8, 8, 8, 8, 8, 8, 8, 8, 8, 8, 8, 8, 8, 8, 8, 8, 8, 8, 8, 8, 8, 8, 8, 8, 8, 8, 8, 8, 8, 8, 8, 8, 8, 8, 8, 8, 8, 8, 8, 8, 8, 8, 8, 8, 8, 8]⟩
namespace F156
def c0 := bodyOf Tryz.f156
end F156
theorem len64_ok {n : Nat} (hn : n ≤ 12) (w₀ : World) : Calls Tryz.prog 156 #[.int .u64 n] w₀ (Ret fun v w' => (∃ m, v = .int .i64 m) ∧ w' = w₀) := by
 refine c_st F156.c0 25 [.int .u64 n] Tryz.func156 ?_
 show Run _ _ _ _ [(0, .int .u64 n)] _ _
 refine run_sq (run_pl [yy 0] ?_)
 refine yAc 2 (.int .i64 0) ?_
 refine Sch.nil (run_sq (run_sq (run_pl [yy 0, yy 1] ?_)))
 refine yM 3 0 ?_
 refine yV (kq 4 (.binOp .geq 66 (.tmp 3) (.const (.int .u64 4294967296)) 66)) (fun _ => val_is (val_geq rfl rfl) (show _ = Value.bool false from congrArg Value.bool (decide_eq_false (by omega)))) ?_
 refine Sch.nil (run_cF 4 (run_sk (run_sq (run_sq (run_pl [yy 0, yy 1] ?_)))))
 refine yM 7 0 ?_
 refine yV (kq 8 (.binOp .geq 66 (.tmp 7) (.const (.int .u64 65536)) 66)) (fun _ => val_is (val_geq rfl rfl) (show _ = Value.bool false from congrArg Value.bool (decide_eq_false (by omega)))) ?_
 refine Sch.nil (run_cF 8 (run_sk (run_sq (run_sq (run_pl [yy 0, yy 1] ?_)))))
 refine yM 13 0 ?_
 refine yV (kq 14 (.binOp .geq 66 (.tmp 13) (.const (.int .u64 256)) 66)) (fun _ => val_is (val_geq rfl rfl) (show _ = Value.bool false from congrArg Value.bool (decide_eq_false (by omega)))) ?_
 refine Sch.nil (run_cF 14 (run_sk (run_sq (run_pl [yy 0, yy 1, yy 2, yy 3, yy 4, yy 5, yy 6] ?_))))
 refine yM 19 2 ?_
 refine yM 20 0 ?_
 refine yV (kq 21 (.convert 66 5 (.tmp 20))) (fun _ => val_convE (r := (n : Int)) rfl ⟨_, Tryz.underlying66⟩ Tryz.underlying5 (wrap_u8n hn)) ?_
 obtain ⟨bt, hbt⟩ := tabN (s := TAB) (n := n) (by show n < 256; omega)
 refine yV (kq 22 (.index 9 (.const (.string ⟨#[0, 1, 2, 2, 3, 3, 3, 3, 4, 4, 4, 4, 4, 4, 4, 4, 5, 5, 5, 5, 5, 5, 5, 5, 5, 5, 5, 5, 5, 5, 5, 5, 6, 6, 6, 6, 6, 6, 6, 6, 6, 6, 6, 6, 6, 6, 6, 6, 6, 6, 6, 6, 6, 6, 6, 6, 6, 6, 6, 6, 6, 6, 6, 6, 7, 7, 7, 7, 7, 7, 7, 7, 7, 7, 7, 7, 7, 7, 7, 7, 7, 7, 7, 7, 7, 7, 7, 7, 7, 7, 7, 7, 7, 7, 7, 7, 7, 7, 7, 7, 7, 7, 7, 7, 7, 7, 7, 7, 7, 7, 7, 7, 7, 7, 7, 7, 7, 7, 7, 7, 7, 7, 7, 7, 7, 7, 7, 7, 8, 8, 8, 8, 8, 8, 8, 8, 8, 8, 8, 8, 8, 8, 8, 8, 8, 8, 8, 8, 8, 8, 8, 8, 8, 8, 8, 8, 8, 8, 8, 8, 8, 8, 8, 8, 8, 8, 8, 8, 8, 8, 8, 8, 8, 8, 8, 8, 8, 8, 8, 8, 8, 8, 8, 8, 8, 8, 8, 8, 8, 8, 8, 8, 8, 8, 8, 8, 8, 8, 8, 8, 8, 8, 8, 8, 8, 8, 8, 8, 8, 8, 8, 8, 8, 8, 8, 8, 8, 8, 8, 8, 8, 8, 8, 8, 8, 8, 8, 8, 8, 8, 8, 8, 8, 8, 8, 8, 8, 8, 8, 8, 8, 8, 8, 8, 8, 8, 8, 8, 8, 8, 8, 8, 8, 8, 8, 8]⟩)) (.tmp 21))) (fun _ => val_idxS rfl rfl Tryz.underlying9 hbt) ?_
 refine yV (kq 23 (.convert 5 3 (.tmp 22))) (fun _ => val_conv_int rfl ⟨_, Tryz.underlying5⟩ Tryz.underlying3) ?_
 refine yV (kq 24 (.binOp .add 3 (.tmp 19) (.tmp 23) 3)) (fun _ => val_add rfl rfl) ?_
 refine yA 2 24 ?_
 refine Sch.nil ?_
 refine rt1 Tryz.func156 Tryz.results156 ?_
 exact ⟨⟨_, rfl⟩, rfl⟩
namespace F138
def c0 := bodyOf Tryz.f138
end F138
theorem len_ok {n : Nat} (hn : n ≤ 12) (w₀ : World) : Calls Tryz.prog 138 #[.int .u64 n] w₀ (Ret fun v w' => (∃ m, v = .int .i64 m) ∧ w' = w₀) := by
 refine c_st F138.c0 8 [.int .u64 n] Tryz.func138 ?_
 show Run _ _ _ _ [(0, .int .u64 n)] _ _
 refine run_sq (run_pl [yy 0] ?_)
 refine yAc 2 (.int .i64 0) ?_
 refine Sch.nil (run_sq ?_)
 refine run_ckF (by kernel_rfl) ?_
 refine run_sk (run_sq (run_pl [yy 0, nn 1, yy 2] ?_))
 refine yM 6 0 ?_
 refine cG 7 156 [6] [66] Tryz.call156 rfl (len64_ok hn _) ?_
 rintro vw1 w1 ⟨⟨m, rfl⟩, e⟩
 obtain rfl := e.symm
 refine yA 2 7 ?_
 refine Sch.nil ?_
 refine rt1 Tryz.func138 Tryz.results138 ?_
 exact ⟨⟨_, rfl⟩, rfl⟩
namespace F111
def c0 := bodyOf Tryz.f111
end F111
theorem sortL_ok {w₀ : World} {C : Nat → Nat} {j : Nat} {v : Value} {ys : List (List Couple)} (hF : Lim w₀ C) (hj : j ≠ 0) (ho : OwnL w₀ C j 53 v ys) (hPy : ∀ x ∈ ys, 0 < x.length) (hlen : ys.length ≤ 12) :
    Calls Tryz.prog 111 #[v, .func (.func 112) #[] #[]] w₀ (Ret fun u w' => u = .tuple #[] ∧ ∃ zs, StS cmpH ys zs ∧ Stp [j] w₀ C w' C ∧ OwnL w' C j 53 v zs ∧ Lim w' C) := by
 have hT := Stp.refl [j] w₀ C
 refine c_st F111.c0 14 [v, .func (.func 112) #[] #[]] Tryz.func111 ?_
 show Run _ _ _ _ [(0, v), (1, .func (.func 112) #[] #[])] _ _
 refine run_sq (run_pl [yy 0, yy 1, yy 2] ?_)
 refine yM 5 0 ?_
 refine yS (kq 6 (.call { callee := .builtin .len, args := #[(.tmp 5)], argTypes := #[25] })) rfl rfl (fun w' hS => ho.lenV rfl Tryz.underlying25 w' ) ?_
 refine yA 4 6 ?_
 refine Sch.nil (run_pl [yy 0, yy 1, yy 2, yy 3, nn 4, yy 5, nn 6] ?_)
 refine yM 7 0 ?_
 refine yM 8 4 ?_
 refine yM 9 4 ?_
 refine yV (kq 10 (.convert 3 70 (.tmp 9))) (fun _ => val_convE (r := (ys.length : Int)) rfl ⟨_, Tryz.underlying3⟩ Tryz.underlying70 (wrap_u64n (by omega))) ?_
 refine cG 11 138 [10] [70] Tryz.call138 rfl (len_ok hlen _) ?_
 rintro vw1 w1 ⟨⟨m, rfl⟩, rfl⟩
 refine yM 12 1 ?_
 refine cT (kq 13 (.call { callee := .value (.func 137), args := #[(.tmp 7), (.const (.int .i64 0)), (.tmp 8), (.tmp 11), (.tmp 12)], argTypes := #[25, 3, 3, 3, 149] })) rfl rfl (ent Tryz.call137 rfl) (pdqL_ok hF hj ho hPy hlen) ?_
 rintro vw2 w2 ⟨rfl, zs, hSt, s_1, ho, hF⟩
 replace hT := hT.trans s_1 (by simp <;> omega)
 refine Sch.nil ?_
 refine run_end0 Tryz.func111 rfl ?_
 exact ⟨rfl, zs, hSt, hT, ho, hF⟩
namespace F71
def c0 := bodyOf Tryz.f71
end F71
theorem sorted_ok {w₀ : World} {C : Nat → Nat} {j : Nat} {v : Value} {ys : List (List Couple)} (hF : Lim w₀ C) (hj : j ≠ 0) (ho : OwnL w₀ C j 53 v ys) (hPy : ∀ x ∈ ys, 0 < x.length) (hlen : ys.length ≤ 12) :
    Calls Tryz.prog 71 #[v] w₀ (Ret fun u w' => u = v ∧ ∃ zs, StS cmpH ys zs ∧ Stp [j] w₀ C w' C ∧ OwnL w' C j 53 v zs ∧ Lim w' C) := by
 have hT := Stp.refl [j] w₀ C
 refine c_st F71.c0 6 [v] Tryz.func71 ?_
 show Run _ _ _ _ [(0, v)] _ _
 refine run_sq (run_pl [yy 0] ?_)
 refine yV (kq 2 (.assign (.const (.slice none 0 0)))) (fun _ => val_assign rfl) ?_
 refine Sch.nil (run_sq (run_pl [yy 0, nn 1] ?_))
 refine yM 3 0 ?_
 refine cT (kq 4 (.call { callee := .value (.func 111), args := #[(.tmp 3), (.func 112)], argTypes := #[25, 149] })) rfl rfl (ent Tryz.call111 rfl) (sortL_ok hF hj ho hPy hlen) ?_
 rintro vw1 w1 ⟨rfl, zs, hSt, s_1, ho, hF⟩
 replace hT := hT.trans s_1 (by simp <;> omega)
 refine Sch.nil (run_sq (run_pl [yy 0, yy 1] ?_))
 refine yM 5 0 ?_
 refine yA 2 5 ?_
 refine Sch.nil ?_
 refine rt1 Tryz.func71 Tryz.results71 ?_
 exact ⟨rfl, zs, hSt, hT, ho, hF⟩
end
end Go.Proofs.YtdmgmlmlielfbaaGreat
