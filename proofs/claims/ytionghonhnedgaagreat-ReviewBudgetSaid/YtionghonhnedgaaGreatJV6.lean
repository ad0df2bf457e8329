/- Steps through functions of the program. -/
import Derived.Test.YtionghonhnedgaaGreatJV5
import Derived.Test.YtionghonhnedgaaGreatL1
set_option linter.unusedVariables false
set_option linter.unusedSimpArgs false
set_option maxRecDepth 100000
set_option maxHeartbeats 4000000
namespace Go.Proofs.YtionghonhnedgaaGreat
open Go.K Go.K.Rep

namespace F87
noncomputable def c0 := bodyOf Tryz.f87
end F87
theorem cmpG_ok {w₀ : World} {C : Nat → Nat} {x y : Couple} (hF : Lim w₀ C) : Calls Tryz.prog 87 #[.agg #[.int .i64 x.a, .int .i64 x.b], .agg #[.int .i64 y.a, .int .i64 y.b]] w₀ (Ret fun v w' => v = .int .i64 (cmpG x y) ∧ Stp [] w₀ C w' C) := by
 have hF0 := hF
 have hT := Stp.refl [2, 3, 4, 5, 6, 7, 8, 9] w₀ (col1 C)
 replace hF := hF.col1
 refine calls_start (c := F87.c0) (N := 10) [.agg #[.int .i64 x.a, .int .i64 x.b], .agg #[.int .i64 y.a, .int .i64 y.b]] Tryz.func87 (by kernel_rfl) (by kernel_rfl) (by kernel_rfl) ?_
 show Run _ _ _ _ [(0, .agg #[.int .i64 x.a, .int .i64 x.b]), (1, .agg #[.int .i64 y.a, .int .i64 y.b])] _ _
 refine run_sq ?_
 refine run_pl [nn 0, nn 1, yy 2] ?_
 refine aS (kq 2 (.box 98 (.tmp 0))) rfl rfl (a_box (cs := [.int .i64 x.a, .int .i64 x.b]) hF 3 rfl rfl) ?_
 rintro _ w1 ⟨Cw1, bw1, rfl, hs, hx, hF⟩
 refine ⟨trivial, ?_⟩
 replace hT := hT.t hs
 refine aS (kq 3 (.box 98 (.tmp 1))) rfl rfl (a_box (cs := [.int .i64 y.a, .int .i64 y.b]) hF 3 rfl rfl) ?_
 rintro _ w2 ⟨Cw2, bw2, rfl, hs, hy, hF⟩
 refine ⟨trivial, ?_⟩
 replace hT := hT.t hs; replace hx := hx.t hs
 refine yAc 4 (.int .i64 0) ?_
 refine Sch.nil ?_
 refine run_sq ?_
 refine run_pl [yy 0, nn 1, yy 2, nn 3, nn 4, yy 5] ?_
 refine yF 5 98 3 1 1 ?_
 refine nS (kq 6 (.load 3 (.tmp 5))) rfl rfl trivial (val_loadOwn hy.at_ (by kernel_rfl) rfl rfl) ?_
 refine yF 7 98 2 1 1 ?_
 refine nS (kq 8 (.load 3 (.tmp 7))) rfl rfl trivial (val_loadOwn hx.at_ (by kernel_rfl) rfl rfl) ?_
 refine cS (kq 9 (.call { callee := .value (.func 79), args := #[(.tmp 6), (.tmp 8)], argTypes := #[3, 3] })) rfl rfl (ent Tryz.call79 rfl) (cmpI_ok _ _ _) ?_
 rintro vw3 w3 ⟨rfl, rfl⟩
 refine ⟨trivial, ?_⟩
 refine yA 4 9 ?_
 refine Sch.nil ?_
 refine run_ret1 (by kernel_rfl) Tryz.func87 Tryz.results87 rfl ?_
 exact ⟨rfl, hT.out1 (by decide)⟩
namespace F129
noncomputable def c0 := bodyOf Tryz.f129
noncomputable def c6 := (cl (cl (cl (cl (cr c0)))))
noncomputable def c7 := (cr (cl (cl (cl (cr c0)))))
noncomputable def c11 := (cl (cr (cl (cl (cr c0)))))
noncomputable def c17 := (cl (cl (cl (cr (cl c11)))))
noncomputable def o4 := rops (cl c17)
noncomputable def c22 := (cr (cl (cl (cr (cl c11)))))
noncomputable def o6 := rops (cl (cl c22))
noncomputable def c26 := (cr (cr (cl (cl (cr c0)))))
end F129
/-- Insertion sort. -/
theorem insG_ok {w₀ : World} {C : Nat → Nat} {j a b : Nat} {v : Value} {ys : List Couple} (hF : Lim w₀ C) (hj : j ≠ 0) (ho : OwnL w₀ C j 98 v ys) (hab : a ≤ b) (hb : b ≤ ys.length) (hlen : ys.length ≤ 140737488355328) :
    Calls Tryz.prog 129 #[v, .int .i64 a, .int .i64 b, .func (.func 87) #[] #[]] w₀ (Ret fun u w' => u = .tuple #[] ∧ ∃ zs σ, PL ys σ zs ∧ Within σ a b ∧ Asc (ordT cmpG ys) σ a b ∧ Stp [j] w₀ C w' C ∧ OwnL w' C j 98 v zs ∧ Lim w' C) := by
 have hT := Stp.refl [j] w₀ C
 refine calls_start (c := F129.c0) (N := 53) [v, .int .i64 a, .int .i64 b, .func (.func 87) #[] #[]] Tryz.func129 (by kernel_rfl) (by kernel_rfl) (by kernel_rfl) ?_
 show Run _ _ _ _ [(0, v), (1, .int .i64 a), (2, .int .i64 b), (3, .func (.func 87) #[] #[])] _ _
 refine run_sq ?_
 refine run_pl [yy 0, yy 1, yy 2] ?_
 refine yM 10 1 ?_
 refine yV (kq 11 (.binOp .add 3 (.tmp 10) (.const (.int .i64 1)) 3)) (fun _ => val_addi rfl rfl (by omega) (by omega)) ?_
 refine yA 8 11 ?_
 refine Sch.nil ?_
 refine run_bk 0 ?_
 
 refine run_lp (ι := Nat × (List Couple) × (Nat → Nat)) (I := fun x w => a + 1 ≤ x.1 ∧ x.1 ≤ max (a + 1) b ∧ PL ys x.2.2 x.2.1 ∧ Within x.2.2 a x.1 ∧ Asc (ordT cmpG ys) x.2.2 a x.1 ∧ Lim w C ∧ Stp [j] w₀ C w C ∧ OwnL w C j 98 v x.2.1) (e := fun x => [(0, v), (1, .int .i64 a), (2, .int .i64 b), (3, .func (.func 87) #[] #[]), (8, .int .i64 x.1)]) (m := fun x => b - x.1) (x₀ := (a + 1, ys, fun i => i)) (sr 0 (sr 1 (sr 2 (sr 3 (sub_cons 8 rfl (eq_int (by simp)) (sub_nil _)))))) ?_ ?_
 · exact ⟨Nat.le_refl _, by omega, PL.id ys, Within.id _ _, fun p q h1 h2 h3 => by omega, hF, hT, ho⟩
 intro ⟨i, zs, σ⟩ w1 hI next
 obtain ⟨hi1, hi2, hPL, hWi, hAs, hF, hT, ho⟩ := hI
 try simp only at hi1 hi2 hPL hWi hAs hF hT ho
 have next1 := next
 clear next
 show Run _ _ _ _ [(0, v), (1, .int .i64 a), (2, .int .i64 b), (3, .func (.func 87) #[] #[]), (8, .int .i64 i)] _ _
 have hzl := hPL.len
 refine run_sq ?_
 refine run_sq ?_
 refine run_pl [yy 0, yy 1, yy 2] ?_
 refine yM 12 8 ?_
 refine yM 13 2 ?_
 refine yV (kq 14 (.binOp .lss 3 (.tmp 12) (.tmp 13) 3)) (fun _ => val_lss rfl rfl) ?_
 refine Sch.nil ?_
 refine run_i 14 rfl (fun h14 => ?_) (fun h14 => ?_)
 ·
  have hib : i < b := by omega
  have hil : i < ys.length := by omega
  refine run_sk ?_
  refine run_sq ?_
  refine run_bk 1 ?_
  refine run_sq ?_
  refine run_pl [yy 0, yy 1] ?_
  refine yM 17 8 ?_
  refine yA 9 17 ?_
  refine Sch.nil ?_
  refine run_bk 2 ?_
  
  refine run_lp (ι := Nat × (List Couple) × (Nat → Nat)) (I := fun x w => PL ys x.2.2 x.2.1 ∧ InsI cmpG ys x.2.2 a i x.1 ∧ Lim w C ∧ Stp [j] w₀ C w C ∧ OwnL w C j 98 v x.2.1) (e := fun x => [(0, v), (1, .int .i64 a), (2, .int .i64 b), (3, .func (.func 87) #[] #[]), (8, .int .i64 i), (9, .int .i64 x.1)]) (m := fun x => x.1) (x₀ := (i, zs, σ)) (sr 0 (sr 1 (sr 2 (sr 3 (sr 8 (sr 9 (sub_nil _))))))) ?_ ?_
  · exact ⟨hPL, InsI.start hWi (by omega) hAs, hF, hT, ho⟩
  intro ⟨q, zs, σ⟩ w2 hI next
  obtain ⟨hPL, hI, hF, hT, ho⟩ := hI
  try simp only at hPL hI hF hT ho
  have next2 := next
  clear next
  show Run _ _ _ _ [(0, v), (1, .int .i64 a), (2, .int .i64 b), (3, .func (.func 87) #[] #[]), (8, .int .i64 i), (9, .int .i64 q)] _ _
  have hzl := hPL.len
  have hle := hI.le
  refine run_sq ?_
  refine run_sq ?_
  by_cases hA : (a : Int) < q
  ·
   refine run_draw (id := 4) (ops := F129.o4) [] (C) [yy 0, yy 1, yy 2, yy 3, yy 4, yy 5, yy 6, yy 7, yy 8, yy 9, yy 10, yy 11, yy 12, yy 13, nn 14, yy 15, yy 16] Tryz_mixed (by kernel_rfl) (by kernel_rfl) (by kernel_rfl) ?_
   intro w3 hs
   replace hF := hF.st hs
   replace hT := hT.t hs; replace ho := ho.t hs
   have hR := Stp.refl [] w3 (C)
   refine yM 18 9 ?_
   refine yM 19 1 ?_
   refine yV (kq 20 (.binOp .gtr 3 (.tmp 18) (.tmp 19) 3)) (fun _ => val_T (val_gtr rfl rfl) hA) ?_
   refine yM 21 20 ?_
   refine yMg 22 3 3 true ?_
   refine yMg 23 0 3 true ?_
   refine yMg 24 9 3 true ?_
   refine oI (e' := 98) (kg 25 (.indexAddr 95 (.tmp 23) (.tmp 24)) 3 true) rfl rfl ho rfl (by kernel_rfl) rfl (by omega) (by first | omega | (simp only [List.length_set]; omega)) ?_
   intro g25 hg25
   try simp only [Int.toNat_natCast]
   refine oSA (I := []) (kg 26 (.load 98 (.tmp 25)) 3 true) rfl rfl ho hg25 (fun w' hS => ho.sy hg25 hS) (by first | omega | (simp only [List.length_set]; omega)) (by kernel_rfl) (by kernel_rfl) rfl rfl ?_
   intro v26 g26
   try simp only [Int.toNat_natCast] at g26
   obtain rfl := rv_couple.1 g26
   refine yMg 27 0 3 true ?_
   refine yMg 28 9 3 true ?_
   refine yV (kg 29 (.binOp .sub 3 (.tmp 28) (.const (.int .i64 1)) 3) 3 true) (fun _ => val_subi rfl rfl (by omega) (by omega)) ?_
   refine oI (e' := 98) (kg 30 (.indexAddr 95 (.tmp 27) (.tmp 29)) 3 true) rfl rfl ho rfl (by kernel_rfl) rfl (by omega) (by first | omega | (simp only [List.length_set]; omega)) ?_
   intro g30 hg30
   try simp only [Int.toNat_natCast]
   refine oSA (I := []) (kg 31 (.load 98 (.tmp 30)) 3 true) rfl rfl ho hg30 (fun w' hS => ho.sy hg30 hS) (by first | omega | (simp only [List.length_set]; omega)) (by kernel_rfl) (by kernel_rfl) rfl rfl ?_
   intro v31 g31
   try simp only [Int.toNat_natCast] at g31
   have eq1 : ((q : Int) - 1).toNat = q - 1 := by omega
   simp only [eq1] at g31
   obtain rfl := rv_couple.1 g31
   refine cS (kg 32 (.call { callee := .value (.tmp 22), args := #[(.tmp 26), (.tmp 31)], argTypes := #[98, 98] }) 3 true) rfl rfl (enters_func (fun args w => Tryz.call87 args w) rfl rfl) (cmpG_ok hF) ?_
   rintro vw4 w4 ⟨rfl, hs⟩
   refine ⟨(hR.trans hs (by simp)).ext, ?_⟩
   replace hF := hF.st hs
   replace hT := hT.t hs; replace ho := ho.t hs; replace hR := hR.t hs
   refine yV (kg 33 (.binOp .lss 3 (.tmp 32) (.const (.int .i64 0)) 3) 3 true) (fun _ => val_lss rfl rfl) ?_
   refine yAt 34 21 33 ?_
   refine Sch.nil ?_
   refine run_i 34 rfl (fun h34 => ?_) (fun h34 => ?_)
   ·
    have hord := (hI.ord cmpG_3 (fun x _ => trivial) hPL (by omega) hil (by omega) (by omega)).2 h34
    refine run_sk ?_
    refine run_sq ?_
    refine run_bk 3 ?_
    refine run_tree (id := 6) (ops := F129.o6) [j] (C) 17 (.fork [0, 1, 2, 3, 4, 5, 6, 7, 8, 10, 11, 12] 9 (.run [nn 13, yy 14, nn 15, yy 16, nn 17]) 13 (.run [nn 9, yy 14, nn 15, yy 16, nn 17])) Tryz_mixed (by kernel_rfl) (by kernel_rfl) (by kernel_rfl) ?_
    intro w5 hs
    replace hF := hF.st hs
    replace hT := hT.t hs; replace ho := ho.t hs
    have hR := Stp.refl [j] w5 (C)
    refine tr_fork ?_
    show SchQ _ _ _ _ _ [yy 0, yy 1, yy 2, yy 3, yy 4, yy 5, yy 6, yy 7, yy 8, yy 10, yy 11, yy 12] _ _
    refine yM 37 0 ?_
    refine yM 38 9 ?_
    refine yM 39 0 ?_
    refine yM 40 9 ?_
    refine yV (kq 41 (.binOp .sub 3 (.tmp 40) (.const (.int .i64 1)) 3)) (fun _ => val_subi rfl rfl (by omega) (by omega)) ?_
    refine yM 42 0 ?_
    refine yM 43 9 ?_
    refine yV (kq 44 (.binOp .sub 3 (.tmp 43) (.const (.int .i64 1)) 3)) (fun _ => val_subi rfl rfl (by omega) (by omega)) ?_
    refine oI (e' := 98) (kq 45 (.indexAddr 95 (.tmp 42) (.tmp 44))) rfl rfl ho rfl (by kernel_rfl) rfl (by omega) (by first | omega | (simp only [List.length_set]; omega)) ?_
    intro g45 hg45
    try simp only [Int.toNat_natCast]
    refine yM 47 0 ?_
    refine yM 48 9 ?_
    refine oI (e' := 98) (kq 49 (.indexAddr 95 (.tmp 47) (.tmp 48))) rfl rfl ho rfl (by kernel_rfl) rfl (by omega) (by first | omega | (simp only [List.length_set]; omega)) ?_
    intro g49 hg49
    try simp only [Int.toNat_natCast]
    refine tr_do2 ?_ ?_
    ·
     show SchQ _ _ _ _ _ [nn 9] _ _
     refine oNA (kq 46 (.load 98 (.tmp 45))) rfl rfl hR.ext ho hg45 (by first | omega | (simp only [List.length_set]; omega)) (by kernel_rfl) (by kernel_rfl) rfl rfl ?_
     intro v46 g46
     try simp only [Int.toNat_natCast] at g46
     have eq1 : ((q : Int) - 1).toNat = q - 1 := by omega
     simp only [eq1] at g46
     refine tr_next hR.ext ?_
     refine tr_run ?_
     show SchQ _ _ _ _ _ [nn 13, yy 14, nn 15, yy 16, nn 17] _ _
     refine oNA (kq 50 (.load 98 (.tmp 49))) rfl rfl hR.ext ho hg49 (by first | omega | (simp only [List.length_set]; omega)) (by kernel_rfl) (by kernel_rfl) rfl rfl ?_
     intro v50 g50
     try simp only [Int.toNat_natCast] at g50
     refine oI (e' := 98) (kq 51 (.indexAddr 95 (.tmp 37) (.tmp 38))) rfl rfl ho rfl (by kernel_rfl) rfl (by omega) (by first | omega | (simp only [List.length_set]; omega)) ?_
     intro g51 hg51
     try simp only [Int.toNat_natCast]
     refine aN (k0 (.store 98 (.tmp 51) (.tmp 46))) rfl (a_storeO ho hg51 (by first | omega | (simp only [List.length_set]; omega)) rfl rfl (by kernel_rfl) g46) ?_
     rintro _ w6 ⟨rfl, hs, ho⟩
     refine ⟨(hR.trans hs (by simp)).ext, ?_⟩
     replace hF := hF.st hs
     replace hT := hT.trans hs (by simp <;> omega)
     replace hR := hR.trans hs (by simp <;> omega)
     replace g46 := g46.t hs; replace g50 := g50.t hs
     refine oI (e' := 98) (kq 52 (.indexAddr 95 (.tmp 39) (.tmp 41))) rfl rfl ho rfl (by kernel_rfl) rfl (by omega) (by first | omega | (simp only [List.length_set]; omega)) ?_
     intro g52 hg52
     try simp only [Int.toNat_natCast]
     refine Sch.free rfl ?_
     refine aN (k0 (.store 98 (.tmp 52) (.tmp 50))) rfl (a_storeO ho hg52 (by first | omega | (simp only [List.length_set]; omega)) rfl rfl (by kernel_rfl) g50) ?_
     rintro _ w7 ⟨rfl, hs, ho⟩
     refine ⟨trivial, ?_⟩
     replace hF := hF.st hs
     replace hT := hT.trans hs (by simp <;> omega)
     replace g46 := g46.t hs; replace g50 := g50.t hs
     refine Sch.nil ?_
     refine run_inBlock ?_
     refine run_pl [yy 0, yy 1, yy 2] ?_
     refine yM 35 9 ?_
     refine yV (kq 36 (.binOp .sub 3 (.tmp 35) (.const (.int .i64 1)) 3)) (fun _ => val_subi rfl rfl (by omega) (by omega)) ?_
     refine yA 9 36 ?_
     refine Sch.nil ?_
     try simp only [show ((q : Int) - 1).toNat = q - 1 from by omega, Int.toNat_natCast] at ho
     refine kp (sub_cons 0 rfl rfl (sub_cons 1 rfl rfl (sub_cons 2 rfl rfl (sub_cons 3 rfl rfl (sub_cons 8 rfl rfl (sub_cons 9 rfl (eq_int (by simp only; omega)) (sub_nil _))))))) (next2 (q - 1, ((zs.set q (zs[q - 1]'(by omega))).set (q - 1) (zs[q]'(by omega))), (swF σ q (q - 1))) _ ⟨(hPL.swap (by omega) (by omega) rfl rfl), (hI.step (by omega) hord), hF, hT, ho⟩ (by first | omega | (simp only; omega)))
    ·
     show SchQ _ _ _ _ _ [nn 13] _ _
     refine oNA (kq 50 (.load 98 (.tmp 49))) rfl rfl hR.ext ho hg49 (by first | omega | (simp only [List.length_set]; omega)) (by kernel_rfl) (by kernel_rfl) rfl rfl ?_
     intro v50 g50
     try simp only [Int.toNat_natCast] at g50
     refine tr_next hR.ext ?_
     refine tr_run ?_
     show SchQ _ _ _ _ _ [nn 9, yy 14, nn 15, yy 16, nn 17] _ _
     refine oNA (kq 46 (.load 98 (.tmp 45))) rfl rfl hR.ext ho hg45 (by first | omega | (simp only [List.length_set]; omega)) (by kernel_rfl) (by kernel_rfl) rfl rfl ?_
     intro v46 g46
     try simp only [Int.toNat_natCast] at g46
     have eq1 : ((q : Int) - 1).toNat = q - 1 := by omega
     simp only [eq1] at g46
     refine oI (e' := 98) (kq 51 (.indexAddr 95 (.tmp 37) (.tmp 38))) rfl rfl ho rfl (by kernel_rfl) rfl (by omega) (by first | omega | (simp only [List.length_set]; omega)) ?_
     intro g51 hg51
     try simp only [Int.toNat_natCast]
     refine aN (k0 (.store 98 (.tmp 51) (.tmp 46))) rfl (a_storeO ho hg51 (by first | omega | (simp only [List.length_set]; omega)) rfl rfl (by kernel_rfl) g46) ?_
     rintro _ w8 ⟨rfl, hs, ho⟩
     refine ⟨(hR.trans hs (by simp)).ext, ?_⟩
     replace hF := hF.st hs
     replace hT := hT.trans hs (by simp <;> omega)
     replace hR := hR.trans hs (by simp <;> omega)
     replace g50 := g50.t hs; replace g46 := g46.t hs
     refine oI (e' := 98) (kq 52 (.indexAddr 95 (.tmp 39) (.tmp 41))) rfl rfl ho rfl (by kernel_rfl) rfl (by omega) (by first | omega | (simp only [List.length_set]; omega)) ?_
     intro g52 hg52
     try simp only [Int.toNat_natCast]
     refine Sch.free rfl ?_
     refine aN (k0 (.store 98 (.tmp 52) (.tmp 50))) rfl (a_storeO ho hg52 (by first | omega | (simp only [List.length_set]; omega)) rfl rfl (by kernel_rfl) g50) ?_
     rintro _ w9 ⟨rfl, hs, ho⟩
     refine ⟨trivial, ?_⟩
     replace hF := hF.st hs
     replace hT := hT.trans hs (by simp <;> omega)
     replace g50 := g50.t hs; replace g46 := g46.t hs
     refine Sch.nil ?_
     refine run_inBlock ?_
     refine run_pl [yy 0, yy 1, yy 2] ?_
     refine yM 35 9 ?_
     refine yV (kq 36 (.binOp .sub 3 (.tmp 35) (.const (.int .i64 1)) 3)) (fun _ => val_subi rfl rfl (by omega) (by omega)) ?_
     refine yA 9 36 ?_
     refine Sch.nil ?_
     try simp only [show ((q : Int) - 1).toNat = q - 1 from by omega, Int.toNat_natCast] at ho
     refine kp (sub_cons 0 rfl rfl (sub_cons 1 rfl rfl (sub_cons 2 rfl rfl (sub_cons 3 rfl rfl (sub_cons 8 rfl rfl (sub_cons 9 rfl (eq_int (by simp only; omega)) (sub_nil _))))))) (next2 (q - 1, ((zs.set q (zs[q - 1]'(by omega))).set (q - 1) (zs[q]'(by omega))), (swF σ q (q - 1))) _ ⟨(hPL.swap (by omega) (by omega) rfl rfl), (hI.step (by omega) hord), hF, hT, ho⟩ (by first | omega | (simp only; omega)))
   ·
    have hord : q = a ∨ ¬ ordT cmpG ys i (σ (q - 1)) := .inr (fun e => h34 ((hI.ord cmpG_3 (fun x _ => trivial) hPL (by omega) hil (by omega) (by omega)).1 e))
    refine run_ex 2 ?_
    refine run_inBlock ?_
    refine run_pl [yy 0, yy 1, yy 2] ?_
    skip
    refine yM 15 8 ?_
    refine yV (kq 16 (.binOp .add 3 (.tmp 15) (.const (.int .i64 1)) 3)) (fun _ => val_addi rfl rfl (by omega) (by omega)) ?_
    refine yA 8 16 ?_
    refine Sch.nil ?_
    have hord2 : q = a ∨ ¬ ordT cmpG ys i (σ (q - 1)) := hord
    obtain ⟨hw2, ha2⟩ := hI.done cmpG_3 (fun x _ => trivial) hil hord2
    refine kp (sub_cons 0 rfl rfl (sub_cons 1 rfl rfl (sub_cons 2 rfl rfl (sub_cons 3 rfl rfl (sub_cons 8 rfl (eq_int (by simp)) (sub_nil _)))))) (next1 (i + 1, zs, σ) _ ⟨(by first | omega | (simp only; omega)), (by first | omega | (simp only; omega)), (by first | omega | (simp only; omega)), hw2, ha2, hF, hT, ho⟩ (by first | omega | (simp only; omega)))
  ·
   refine run_draw (id := 4) (ops := F129.o4) [] (C) [yy 0, yy 1, yy 2, yy 3, yy 4, yy 5, yy 6, yy 7, yy 8, yy 9, yy 10, yy 11, yy 12, yy 13, nn 14, yy 15, yy 16] Tryz_mixed (by kernel_rfl) (by kernel_rfl) (by kernel_rfl) ?_
   intro w10 hs
   replace hF := hF.st hs
   replace hT := hT.t hs; replace ho := ho.t hs
   have hR := Stp.refl [] w10 (C)
   refine yM 18 9 ?_
   refine yM 19 1 ?_
   refine yV (kq 20 (.binOp .gtr 3 (.tmp 18) (.tmp 19) 3)) (fun _ => val_F (val_gtr rfl rfl) hA) ?_
   refine yM 21 20 ?_
   refine pX 22 3 true ?_
   refine pX 23 3 true ?_
   refine pX 24 3 true ?_
   refine pX 25 3 true ?_
   refine pX 26 3 true ?_
   refine pX 27 3 true ?_
   refine pX 28 3 true ?_
   refine pX 29 3 true ?_
   refine pX 30 3 true ?_
   refine pX 31 3 true ?_
   refine pW (kg 32 (.call { callee := .value (.tmp 22), args := #[(.tmp 26), (.tmp 31)], argTypes := #[98, 98] }) 3 true) rfl rfl hR.ext ?_
   refine pX 33 3 true ?_
   refine yAf 34 21 33 ?_
   refine Sch.nil ?_
   refine run_cF 34 ?_
   refine run_ex 2 ?_
   refine run_inBlock ?_
   refine run_pl [yy 0, yy 1, yy 2] ?_
   skip
   refine yM 15 8 ?_
   refine yV (kq 16 (.binOp .add 3 (.tmp 15) (.const (.int .i64 1)) 3)) (fun _ => val_addi rfl rfl (by omega) (by omega)) ?_
   refine yA 8 16 ?_
   refine Sch.nil ?_
   have hord2 : q = a ∨ ¬ ordT cmpG ys i (σ (q - 1)) := .inl (by omega)
   obtain ⟨hw2, ha2⟩ := hI.done cmpG_3 (fun x _ => trivial) hil hord2
   refine kp (sub_cons 0 rfl rfl (sub_cons 1 rfl rfl (sub_cons 2 rfl rfl (sub_cons 3 rfl rfl (sub_cons 8 rfl (eq_int (by simp)) (sub_nil _)))))) (next1 (i + 1, zs, σ) _ ⟨(by first | omega | (simp only; omega)), (by first | omega | (simp only; omega)), (by first | omega | (simp only; omega)), hw2, ha2, hF, hT, ho⟩ (by first | omega | (simp only; omega)))
 ·
  have hib : b ≤ i := by omega
  refine run_ex 0 ?_
  refine run_end0 Tryz.func129 rfl ?_
  refine ⟨rfl, zs, σ, hPL, ?_, ?_, hT, ho, hF⟩
  · by_cases e : i = a + 1
    · subst e; exact hWi.thin hab
    · rw [show b = i by omega]; exact hWi
  · exact fun p q h1 h2 h3 => hAs p q h1 h2 (by omega)
end Go.Proofs.YtionghonhnedgaaGreat
