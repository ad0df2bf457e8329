/- Steps through functions of the program. -/
import Derived.Test.YtionghonhnedgaaGreatJV7
set_option linter.unusedVariables false
set_option linter.unusedSimpArgs false
set_option maxRecDepth 100000
set_option maxHeartbeats 4000000
namespace Go.Proofs.YtionghonhnedgaaGreat
open Go.K Go.K.Rep

namespace F115
noncomputable def c0 := bodyOf Tryz.f115
end F115
theorem lessI_ok (x y : Int) (w : World) : Calls Tryz.prog 115 #[.int .i64 x, .int .i64 y] w (Ret fun v w' => v = .bool (decide (x < y)) ∧ w' = w) := by
 refine calls_start (c := F115.c0) (N := 17) [.int .i64 x, .int .i64 y] Tryz.func115 (by kernel_rfl) (by kernel_rfl) (by kernel_rfl) ?_
 show Run _ _ _ _ [(0, .int .i64 x), (1, .int .i64 y)] _ _
 refine run_sq ?_
 refine run_pl [yy 0] ?_
 refine yAc 4 (.bool false) ?_
 refine Sch.nil ?_
 refine run_sq ?_
 refine run_pl [yy 0, nn 1, yy 2, yy 3, nn 4, yy 5, yy 6, yy 7, yy 8, yy 9, yy 10, yy 11, yy 12] ?_
 refine yM 5 0 ?_
 refine cS (kq 6 (.call { callee := .value (.func 107), args := #[(.tmp 5)], argTypes := #[3] })) rfl rfl (ent Tryz.call107 rfl) (isNaN_ok _ _) ?_
 rintro vw1 w1 ⟨rfl, rfl⟩
 refine ⟨trivial, ?_⟩
 refine yM 7 6 ?_
 refine pX 8 2 true ?_
 refine pW (kg 9 (.call { callee := .value (.func 107), args := #[(.tmp 8)], argTypes := #[3] }) 2 true) rfl rfl trivial ?_
 refine pX 10 2 true ?_
 refine yAf 11 7 10 ?_
 refine yM 12 11 ?_
 refine yMg 13 0 7 false ?_
 refine yMg 14 1 7 false ?_
 refine yV (kg 15 (.binOp .lss 3 (.tmp 13) (.tmp 14) 3) 7 false) (fun _ => val_lss rfl rfl) ?_
 refine yOf 16 12 15 ?_
 refine yA 4 16 ?_
 refine Sch.nil ?_
 refine run_ret1 (by kernel_rfl) Tryz.func115 Tryz.results115 rfl ?_
 exact ⟨rfl, rfl⟩
namespace F109
noncomputable def c0 := bodyOf Tryz.f109
noncomputable def c6 := (cl (cl (cl (cl (cr c0)))))
noncomputable def c7 := (cr (cl (cl (cl (cr c0)))))
noncomputable def c11 := (cl (cr (cl (cl (cr c0)))))
noncomputable def c17 := (cl (cl (cl (cr (cl c11)))))
noncomputable def o4 := rops (cl c17)
noncomputable def c22 := (cr (cl (cl (cr (cl c11)))))
noncomputable def o6 := rops (cl (cl c22))
noncomputable def c26 := (cr (cr (cl (cl (cr c0)))))
end F109
/-- Insertion sort of numbers. -/
theorem insI_ok {w₀ : World} {C : Nat → Nat} {j a b : Nat} {v : Value} {ys : List Int} (hF : Lim w₀ C) (hj : j ≠ 0) (ho : OwnL w₀ C j 3 v ys) (hab : a ≤ b) (hb : b ≤ ys.length) (hlen : ys.length ≤ 140737488355328) :
    Calls Tryz.prog 109 #[v, .int .i64 a, .int .i64 b] w₀ (Ret fun u w' => u = .tuple #[] ∧ ∃ zs σ, PL ys σ zs ∧ Within σ a b ∧ Asc (ordT cmpI ys) σ a b ∧ Stp [j] w₀ C w' C ∧ OwnL w' C j 3 v zs ∧ Lim w' C) := by
 have hT := Stp.refl [j] w₀ C
 refine calls_start (c := F109.c0) (N := 49) [v, .int .i64 a, .int .i64 b] Tryz.func109 (by kernel_rfl) (by kernel_rfl) (by kernel_rfl) ?_
 show Run _ _ _ _ [(0, v), (1, .int .i64 a), (2, .int .i64 b)] _ _
 refine run_sq ?_
 refine run_pl [yy 0, yy 1, yy 2] ?_
 refine yM 8 1 ?_
 refine yV (kq 9 (.binOp .add 3 (.tmp 8) (.const (.int .i64 1)) 3)) (fun _ => val_addi rfl rfl (by omega) (by omega)) ?_
 refine yA 6 9 ?_
 refine Sch.nil ?_
 refine run_bk 0 ?_
 
 refine run_lp (ι := Nat × (List Int) × (Nat → Nat)) (I := fun x w => a + 1 ≤ x.1 ∧ x.1 ≤ max (a + 1) b ∧ PL ys x.2.2 x.2.1 ∧ Within x.2.2 a x.1 ∧ Asc (ordT cmpI ys) x.2.2 a x.1 ∧ Lim w C ∧ Stp [j] w₀ C w C ∧ OwnL w C j 3 v x.2.1) (e := fun x => [(0, v), (1, .int .i64 a), (2, .int .i64 b), (6, .int .i64 x.1)]) (m := fun x => b - x.1) (x₀ := (a + 1, ys, fun i => i)) (sr 0 (sr 1 (sr 2 (sub_cons 6 rfl (eq_int (by simp)) (sub_nil _))))) ?_ ?_
 · exact ⟨Nat.le_refl _, by omega, PL.id ys, Within.id _ _, fun p q h1 h2 h3 => by omega, hF, hT, ho⟩
 intro ⟨i, zs, σ⟩ w1 hI next
 obtain ⟨hi1, hi2, hPL, hWi, hAs, hF, hT, ho⟩ := hI
 try simp only at hi1 hi2 hPL hWi hAs hF hT ho
 have next1 := next
 clear next
 show Run _ _ _ _ [(0, v), (1, .int .i64 a), (2, .int .i64 b), (6, .int .i64 i)] _ _
 have hzl := hPL.len
 refine run_sq ?_
 refine run_sq ?_
 refine run_pl [yy 0, yy 1, yy 2] ?_
 refine yM 10 6 ?_
 refine yM 11 2 ?_
 refine yV (kq 12 (.binOp .lss 3 (.tmp 10) (.tmp 11) 3)) (fun _ => val_lss rfl rfl) ?_
 refine Sch.nil ?_
 refine run_i 12 rfl (fun h12 => ?_) (fun h12 => ?_)
 ·
  have hib : i < b := by omega
  have hil : i < ys.length := by omega
  refine run_sk ?_
  refine run_sq ?_
  refine run_bk 1 ?_
  refine run_sq ?_
  refine run_pl [yy 0, yy 1] ?_
  refine yM 15 6 ?_
  refine yA 7 15 ?_
  refine Sch.nil ?_
  refine run_bk 2 ?_
  
  refine run_lp (ι := Nat × (List Int) × (Nat → Nat)) (I := fun x w => PL ys x.2.2 x.2.1 ∧ InsI cmpI ys x.2.2 a i x.1 ∧ Lim w C ∧ Stp [j] w₀ C w C ∧ OwnL w C j 3 v x.2.1) (e := fun x => [(0, v), (1, .int .i64 a), (2, .int .i64 b), (6, .int .i64 i), (7, .int .i64 x.1)]) (m := fun x => x.1) (x₀ := (i, zs, σ)) (sr 0 (sr 1 (sr 2 (sr 6 (sr 7 (sub_nil _)))))) ?_ ?_
  · exact ⟨hPL, InsI.start hWi (by omega) hAs, hF, hT, ho⟩
  intro ⟨q, zs, σ⟩ w2 hI next
  obtain ⟨hPL, hI, hF, hT, ho⟩ := hI
  try simp only at hPL hI hF hT ho
  have next2 := next
  clear next
  show Run _ _ _ _ [(0, v), (1, .int .i64 a), (2, .int .i64 b), (6, .int .i64 i), (7, .int .i64 q)] _ _
  have hzl := hPL.len
  have hle := hI.le
  refine run_sq ?_
  refine run_sq ?_
  by_cases hA : (a : Int) < q
  ·
   refine run_draw (id := 4) (ops := F109.o4) [] (C) [yy 0, yy 1, yy 2, yy 3, yy 4, yy 5, yy 6, yy 7, yy 8, yy 9, yy 10, yy 11, yy 12, nn 13, yy 14] Tryz_mixed (by kernel_rfl) (by kernel_rfl) (by kernel_rfl) ?_
   intro w3 hs
   replace hF := hF.st hs
   replace hT := hT.t hs; replace ho := ho.t hs
   have hR := Stp.refl [] w3 (C)
   refine yM 16 7 ?_
   refine yM 17 1 ?_
   refine yV (kq 18 (.binOp .gtr 3 (.tmp 16) (.tmp 17) 3)) (fun _ => val_T (val_gtr rfl rfl) hA) ?_
   refine yM 19 18 ?_
   refine yMg 20 0 3 true ?_
   refine yMg 21 7 3 true ?_
   refine oI (e' := 3) (kg 22 (.indexAddr 22 (.tmp 20) (.tmp 21)) 3 true) rfl rfl ho rfl (by kernel_rfl) rfl (by omega) (by first | omega | (simp only [List.length_set]; omega)) ?_
   intro g22 hg22
   try simp only [Int.toNat_natCast]
   refine oS (I := []) (kg 23 (.load 3 (.tmp 22)) 3 true) rfl rfl ho hg22 (fun w' hS => ho.sy hg22 hS) (by first | omega | (simp only [List.length_set]; omega)) (by kernel_rfl) rfl rfl ?_
   intro v23 g23
   try simp only [Int.toNat_natCast] at g23
   first | (obtain rfl := rv_nat.1 g23) | (obtain rfl := rv_int.1 g23)
   refine yMg 24 0 3 true ?_
   refine yMg 25 7 3 true ?_
   refine yV (kg 26 (.binOp .sub 3 (.tmp 25) (.const (.int .i64 1)) 3) 3 true) (fun _ => val_subi rfl rfl (by omega) (by omega)) ?_
   refine oI (e' := 3) (kg 27 (.indexAddr 22 (.tmp 24) (.tmp 26)) 3 true) rfl rfl ho rfl (by kernel_rfl) rfl (by omega) (by first | omega | (simp only [List.length_set]; omega)) ?_
   intro g27 hg27
   try simp only [Int.toNat_natCast]
   refine oS (I := []) (kg 28 (.load 3 (.tmp 27)) 3 true) rfl rfl ho hg27 (fun w' hS => ho.sy hg27 hS) (by first | omega | (simp only [List.length_set]; omega)) (by kernel_rfl) rfl rfl ?_
   intro v28 g28
   try simp only [Int.toNat_natCast] at g28
   first | (obtain rfl := rv_nat.1 g28) | (obtain rfl := rv_int.1 g28)
   have eq1 : ((q : Int) - 1).toNat = q - 1 := by omega
   try simp only [eq1]
   refine cS (kg 29 (.call { callee := .value (.func 115), args := #[(.tmp 23), (.tmp 28)], argTypes := #[3, 3] }) 3 true) rfl rfl (ent Tryz.call115 rfl) (lessI_ok _ _ _) ?_
   rintro vw4 w4 ⟨rfl, rfl⟩
   refine ⟨hR.ext, ?_⟩
   refine yAt 30 19 29 ?_
   refine Sch.nil ?_
   refine run_i 30 rfl (fun h30 => ?_) (fun h30 => ?_)
   ·
    have hord := (hI.ord cmpI_3 (fun x _ => trivial) hPL (by omega) hil (by omega) (by omega)).2 (cmpI_lt.2 h30)
    refine run_sk ?_
    refine run_sq ?_
    refine run_bk 3 ?_
    refine run_tree (id := 6) (ops := F109.o6) [j] (C) 17 (.fork [0, 1, 2, 3, 4, 5, 6, 7, 8, 10, 11, 12] 9 (.run [nn 13, yy 14, nn 15, yy 16, nn 17]) 13 (.run [nn 9, yy 14, nn 15, yy 16, nn 17])) Tryz_mixed (by kernel_rfl) (by kernel_rfl) (by kernel_rfl) ?_
    intro w5 hs
    replace hF := hF.st hs
    replace hT := hT.t hs; replace ho := ho.t hs
    have hR := Stp.refl [j] w5 (C)
    refine tr_fork ?_
    show SchQ _ _ _ _ _ [yy 0, yy 1, yy 2, yy 3, yy 4, yy 5, yy 6, yy 7, yy 8, yy 10, yy 11, yy 12] _ _
    refine yM 33 0 ?_
    refine yM 34 7 ?_
    refine yM 35 0 ?_
    refine yM 36 7 ?_
    refine yV (kq 37 (.binOp .sub 3 (.tmp 36) (.const (.int .i64 1)) 3)) (fun _ => val_subi rfl rfl (by omega) (by omega)) ?_
    refine yM 38 0 ?_
    refine yM 39 7 ?_
    refine yV (kq 40 (.binOp .sub 3 (.tmp 39) (.const (.int .i64 1)) 3)) (fun _ => val_subi rfl rfl (by omega) (by omega)) ?_
    refine oI (e' := 3) (kq 41 (.indexAddr 22 (.tmp 38) (.tmp 40))) rfl rfl ho rfl (by kernel_rfl) rfl (by omega) (by first | omega | (simp only [List.length_set]; omega)) ?_
    intro g41 hg41
    try simp only [Int.toNat_natCast]
    refine yM 43 0 ?_
    refine yM 44 7 ?_
    refine oI (e' := 3) (kq 45 (.indexAddr 22 (.tmp 43) (.tmp 44))) rfl rfl ho rfl (by kernel_rfl) rfl (by omega) (by first | omega | (simp only [List.length_set]; omega)) ?_
    intro g45 hg45
    try simp only [Int.toNat_natCast]
    refine tr_do2 ?_ ?_
    ·
     show SchQ _ _ _ _ _ [nn 9] _ _
     refine oN (kq 42 (.load 3 (.tmp 41))) rfl rfl hR.ext ho hg41 (by first | omega | (simp only [List.length_set]; omega)) (by kernel_rfl) rfl rfl ?_
     intro v42 g42
     try simp only [Int.toNat_natCast] at g42
     first | (obtain rfl := rv_nat.1 g42) | (obtain rfl := rv_int.1 g42)
     have eq1 : ((q : Int) - 1).toNat = q - 1 := by omega
     try simp only [eq1]
     refine tr_next hR.ext ?_
     refine tr_run ?_
     show SchQ _ _ _ _ _ [nn 13, yy 14, nn 15, yy 16, nn 17] _ _
     refine oN (kq 46 (.load 3 (.tmp 45))) rfl rfl hR.ext ho hg45 (by first | omega | (simp only [List.length_set]; omega)) (by kernel_rfl) rfl rfl ?_
     intro v46 g46
     try simp only [Int.toNat_natCast] at g46
     first | (obtain rfl := rv_nat.1 g46) | (obtain rfl := rv_int.1 g46)
     refine oI (e' := 3) (kq 47 (.indexAddr 22 (.tmp 33) (.tmp 34))) rfl rfl ho rfl (by kernel_rfl) rfl (by omega) (by first | omega | (simp only [List.length_set]; omega)) ?_
     intro g47 hg47
     try simp only [Int.toNat_natCast]
     refine aN (k0 (.store 3 (.tmp 47) (.tmp 42))) rfl (a_storeO ho hg47 (by first | omega | (simp only [List.length_set]; omega)) rfl rfl (by kernel_rfl) (rv_int.2 rfl)) ?_
     rintro _ w6 ⟨rfl, hs, ho⟩
     refine ⟨(hR.trans hs (by simp)).ext, ?_⟩
     replace hF := hF.st hs
     replace hT := hT.trans hs (by simp <;> omega)
     replace hR := hR.trans hs (by simp <;> omega)
     refine oI (e' := 3) (kq 48 (.indexAddr 22 (.tmp 35) (.tmp 37))) rfl rfl ho rfl (by kernel_rfl) rfl (by omega) (by first | omega | (simp only [List.length_set]; omega)) ?_
     intro g48 hg48
     try simp only [Int.toNat_natCast]
     refine Sch.free rfl ?_
     refine aN (k0 (.store 3 (.tmp 48) (.tmp 46))) rfl (a_storeO ho hg48 (by first | omega | (simp only [List.length_set]; omega)) rfl rfl (by kernel_rfl) (rv_int.2 rfl)) ?_
     rintro _ w7 ⟨rfl, hs, ho⟩
     refine ⟨trivial, ?_⟩
     replace hF := hF.st hs
     replace hT := hT.trans hs (by simp <;> omega)
     refine Sch.nil ?_
     refine run_inBlock ?_
     refine run_pl [yy 0, yy 1, yy 2] ?_
     refine yM 31 7 ?_
     refine yV (kq 32 (.binOp .sub 3 (.tmp 31) (.const (.int .i64 1)) 3)) (fun _ => val_subi rfl rfl (by omega) (by omega)) ?_
     refine yA 7 32 ?_
     refine Sch.nil ?_
     try simp only [show ((q : Int) - 1).toNat = q - 1 from by omega, Int.toNat_natCast] at ho
     refine kp (sub_cons 0 rfl rfl (sub_cons 1 rfl rfl (sub_cons 2 rfl rfl (sub_cons 6 rfl rfl (sub_cons 7 rfl (eq_int (by simp only; omega)) (sub_nil _)))))) (next2 (q - 1, ((zs.set q (zs[q - 1]'(by omega))).set (q - 1) (zs[q]'(by omega))), (swF σ q (q - 1))) _ ⟨(hPL.swap (by omega) (by omega) rfl rfl), (hI.step (by omega) hord), hF, hT, ho⟩ (by first | omega | (simp only; omega)))
    ·
     show SchQ _ _ _ _ _ [nn 13] _ _
     refine oN (kq 46 (.load 3 (.tmp 45))) rfl rfl hR.ext ho hg45 (by first | omega | (simp only [List.length_set]; omega)) (by kernel_rfl) rfl rfl ?_
     intro v46 g46
     try simp only [Int.toNat_natCast] at g46
     first | (obtain rfl := rv_nat.1 g46) | (obtain rfl := rv_int.1 g46)
     refine tr_next hR.ext ?_
     refine tr_run ?_
     show SchQ _ _ _ _ _ [nn 9, yy 14, nn 15, yy 16, nn 17] _ _
     refine oN (kq 42 (.load 3 (.tmp 41))) rfl rfl hR.ext ho hg41 (by first | omega | (simp only [List.length_set]; omega)) (by kernel_rfl) rfl rfl ?_
     intro v42 g42
     try simp only [Int.toNat_natCast] at g42
     first | (obtain rfl := rv_nat.1 g42) | (obtain rfl := rv_int.1 g42)
     have eq1 : ((q : Int) - 1).toNat = q - 1 := by omega
     try simp only [eq1]
     refine oI (e' := 3) (kq 47 (.indexAddr 22 (.tmp 33) (.tmp 34))) rfl rfl ho rfl (by kernel_rfl) rfl (by omega) (by first | omega | (simp only [List.length_set]; omega)) ?_
     intro g47 hg47
     try simp only [Int.toNat_natCast]
     refine aN (k0 (.store 3 (.tmp 47) (.tmp 42))) rfl (a_storeO ho hg47 (by first | omega | (simp only [List.length_set]; omega)) rfl rfl (by kernel_rfl) (rv_int.2 rfl)) ?_
     rintro _ w8 ⟨rfl, hs, ho⟩
     refine ⟨(hR.trans hs (by simp)).ext, ?_⟩
     replace hF := hF.st hs
     replace hT := hT.trans hs (by simp <;> omega)
     replace hR := hR.trans hs (by simp <;> omega)
     refine oI (e' := 3) (kq 48 (.indexAddr 22 (.tmp 35) (.tmp 37))) rfl rfl ho rfl (by kernel_rfl) rfl (by omega) (by first | omega | (simp only [List.length_set]; omega)) ?_
     intro g48 hg48
     try simp only [Int.toNat_natCast]
     refine Sch.free rfl ?_
     refine aN (k0 (.store 3 (.tmp 48) (.tmp 46))) rfl (a_storeO ho hg48 (by first | omega | (simp only [List.length_set]; omega)) rfl rfl (by kernel_rfl) (rv_int.2 rfl)) ?_
     rintro _ w9 ⟨rfl, hs, ho⟩
     refine ⟨trivial, ?_⟩
     replace hF := hF.st hs
     replace hT := hT.trans hs (by simp <;> omega)
     refine Sch.nil ?_
     refine run_inBlock ?_
     refine run_pl [yy 0, yy 1, yy 2] ?_
     refine yM 31 7 ?_
     refine yV (kq 32 (.binOp .sub 3 (.tmp 31) (.const (.int .i64 1)) 3)) (fun _ => val_subi rfl rfl (by omega) (by omega)) ?_
     refine yA 7 32 ?_
     refine Sch.nil ?_
     try simp only [show ((q : Int) - 1).toNat = q - 1 from by omega, Int.toNat_natCast] at ho
     refine kp (sub_cons 0 rfl rfl (sub_cons 1 rfl rfl (sub_cons 2 rfl rfl (sub_cons 6 rfl rfl (sub_cons 7 rfl (eq_int (by simp only; omega)) (sub_nil _)))))) (next2 (q - 1, ((zs.set q (zs[q - 1]'(by omega))).set (q - 1) (zs[q]'(by omega))), (swF σ q (q - 1))) _ ⟨(hPL.swap (by omega) (by omega) rfl rfl), (hI.step (by omega) hord), hF, hT, ho⟩ (by first | omega | (simp only; omega)))
   ·
    have hord : q = a ∨ ¬ ordT cmpI ys i (σ (q - 1)) := .inr (fun e => h30 (cmpI_lt.1 ((hI.ord cmpI_3 (fun x _ => trivial) hPL (by omega) hil (by omega) (by omega)).1 e)))
    refine run_ex 2 ?_
    refine run_inBlock ?_
    refine run_pl [yy 0, yy 1, yy 2] ?_
    refine yM 13 6 ?_
    refine yV (kq 14 (.binOp .add 3 (.tmp 13) (.const (.int .i64 1)) 3)) (fun _ => val_addi rfl rfl (by omega) (by omega)) ?_
    refine yA 6 14 ?_
    refine Sch.nil ?_
    have hord2 : q = a ∨ ¬ ordT cmpI ys i (σ (q - 1)) := hord
    obtain ⟨hw2, ha2⟩ := hI.done cmpI_3 (fun x _ => trivial) hil hord2
    refine kp (sub_cons 0 rfl rfl (sub_cons 1 rfl rfl (sub_cons 2 rfl rfl (sub_cons 6 rfl (eq_int (by simp)) (sub_nil _))))) (next1 (i + 1, zs, σ) _ ⟨(by first | omega | (simp only; omega)), (by first | omega | (simp only; omega)), (by first | omega | (simp only; omega)), hw2, ha2, hF, hT, ho⟩ (by first | omega | (simp only; omega)))
  ·
   refine run_draw (id := 4) (ops := F109.o4) [] (C) [yy 0, yy 1, yy 2, yy 3, yy 4, yy 5, yy 6, yy 7, yy 8, yy 9, yy 10, yy 11, yy 12, nn 13, yy 14] Tryz_mixed (by kernel_rfl) (by kernel_rfl) (by kernel_rfl) ?_
   intro w10 hs
   replace hF := hF.st hs
   replace hT := hT.t hs; replace ho := ho.t hs
   have hR := Stp.refl [] w10 (C)
   refine yM 16 7 ?_
   refine yM 17 1 ?_
   refine yV (kq 18 (.binOp .gtr 3 (.tmp 16) (.tmp 17) 3)) (fun _ => val_F (val_gtr rfl rfl) hA) ?_
   refine yM 19 18 ?_
   refine pX 20 3 true ?_
   refine pX 21 3 true ?_
   refine pX 22 3 true ?_
   refine pX 23 3 true ?_
   refine pX 24 3 true ?_
   refine pX 25 3 true ?_
   refine pX 26 3 true ?_
   refine pX 27 3 true ?_
   refine pX 28 3 true ?_
   refine pW (kg 29 (.call { callee := .value (.func 115), args := #[(.tmp 23), (.tmp 28)], argTypes := #[3, 3] }) 3 true) rfl rfl hR.ext ?_
   refine yAf 30 19 29 ?_
   refine Sch.nil ?_
   refine run_cF 30 ?_
   refine run_ex 2 ?_
   refine run_inBlock ?_
   refine run_pl [yy 0, yy 1, yy 2] ?_
   refine yM 13 6 ?_
   refine yV (kq 14 (.binOp .add 3 (.tmp 13) (.const (.int .i64 1)) 3)) (fun _ => val_addi rfl rfl (by omega) (by omega)) ?_
   refine yA 6 14 ?_
   refine Sch.nil ?_
   have hord2 : q = a ∨ ¬ ordT cmpI ys i (σ (q - 1)) := .inl (by omega)
   obtain ⟨hw2, ha2⟩ := hI.done cmpI_3 (fun x _ => trivial) hil hord2
   refine kp (sub_cons 0 rfl rfl (sub_cons 1 rfl rfl (sub_cons 2 rfl rfl (sub_cons 6 rfl (eq_int (by simp)) (sub_nil _))))) (next1 (i + 1, zs, σ) _ ⟨(by first | omega | (simp only; omega)), (by first | omega | (simp only; omega)), (by first | omega | (simp only; omega)), hw2, ha2, hF, hT, ho⟩ (by first | omega | (simp only; omega)))
 ·
  have hib : b ≤ i := by omega
  refine run_ex 0 ?_
  refine run_end0 Tryz.func109 rfl ?_
  refine ⟨rfl, zs, σ, hPL, ?_, ?_, hT, ho, hF⟩
  · by_cases e : i = a + 1
    · subst e; exact hWi.thin hab
    · rw [show b = i by omega]; exact hWi
  · exact fun p q h1 h2 h3 => hAs p q h1 h2 (by omega)
namespace F88
noncomputable def c0 := bodyOf Tryz.f88
noncomputable def c7 := (cl (cl (cl (cr (cr c0)))))
noncomputable def c14 := (cl (cl (cr (cl (cr c7)))))
noncomputable def c21 := (cl (cr (cl (cr (cr c7)))))
noncomputable def c27 := (cl (cl (cr (cr (cr c7)))))
noncomputable def c28 := (cr (cl (cr (cr (cr c7)))))
noncomputable def c34 := (cl (cr (cr (cr (cr c7)))))
noncomputable def c35 := (cr (cr (cr (cr (cr c7)))))
noncomputable def c42 := (cl (cr (cl (cr (cl c35)))))
noncomputable def c43 := (cr (cr (cl (cr (cl c35)))))
noncomputable def c50 := (cl (cl (cr (cl (cr c35)))))
noncomputable def c51 := (cr (cl (cr (cl (cr c35)))))
noncomputable def o17 := rops (cl (cl (cr (cr c35))))
noncomputable def c59 := (cl (cr (cl (cr (cr c35)))))
noncomputable def c68 := (cl (cr (cr (cr (cr c35)))))
noncomputable def c69 := (cr (cr (cr (cr (cr c35)))))
noncomputable def c77 := (cl (cl (cr (cr (cr c69)))))
noncomputable def c78 := (cr (cl (cr (cr (cr c69)))))
noncomputable def c82 := (cl (cr (cr (cr (cr c69)))))
noncomputable def c83 := (cr (cr (cr (cr (cr c69)))))
end F88
theorem pdqI_ok {w₀ : World} {C : Nat → Nat} {j : Nat} {v : Value} {ys : List Int} {m : Int} (hF : Lim w₀ C) (hj : j ≠ 0) (ho : OwnL w₀ C j 3 v ys) (hlen : ys.length ≤ 12) :
    Calls Tryz.prog 88 #[v, .int .i64 0, .int .i64 ys.length, .int .i64 m] w₀ (Ret fun u w' => u = .tuple #[] ∧ ∃ zs, StS cmpI ys zs ∧ Stp [j] w₀ C w' C ∧ OwnL w' C j 3 v zs ∧ Lim w' C) := by
 have hT := Stp.refl [j] w₀ C
 refine calls_start (c := F88.c0) (N := 134) [v, .int .i64 0, .int .i64 ys.length, .int .i64 m] Tryz.func88 (by kernel_rfl) (by kernel_rfl) (by kernel_rfl) ?_
 show Run _ _ _ _ [(0, v), (1, .int .i64 0), (2, .int .i64 ys.length), (3, .int .i64 m)] _ _
 refine run_sq ?_
 refine run_pl [yy 0] ?_
 refine yAc 8 (.bool true) ?_
 refine Sch.nil ?_
 refine run_sq ?_
 refine run_pl [yy 0] ?_
 refine yAc 9 (.bool true) ?_
 refine Sch.nil ?_
 refine run_bk 0 ?_
 
 refine run_lp (ι := Nat) (I := fun x w => Lim w C ∧ Stp [j] w₀ C w C ∧ OwnL w C j 3 v ys) (e := fun x => [(0, v), (1, .int .i64 0), (2, .int .i64 ys.length)]) (m := fun x => 0) (x₀ := 0) (sr 0 (sr 1 (sr 2 (sub_nil _)))) ?_ ?_
 · exact ⟨hF, hT, ho⟩
 intro z w1 hI next
 obtain ⟨hF, hT, ho⟩ := hI
 try simp only at hF hT ho
 have next1 := next
 clear next
 show Run _ _ _ _ [(0, v), (1, .int .i64 0), (2, .int .i64 ys.length)] _ _
 refine run_bk 1 ?_
 refine run_sq ?_
 refine run_pl [yy 0, yy 1, yy 2, yy 3] ?_
 refine yM 19 2 ?_
 refine yM 20 1 ?_
 refine yV (kq 21 (.binOp .sub 3 (.tmp 19) (.tmp 20) 3)) (fun _ => val_subi rfl rfl (by omega) (by omega)) ?_
 refine yA 10 21 ?_
 refine Sch.nil ?_
 refine run_sq ?_
 refine run_sq ?_
 refine run_pl [yy 0, yy 1] ?_
 refine yM 22 10 ?_
 refine yV (kq 23 (.binOp .leq 3 (.tmp 22) (.const (.int .i64 12)) 3)) (fun _ => val_is (val_leq rfl rfl) (show _ = Value.bool true from congrArg Value.bool (decide_eq_true (by omega)))) ?_
 refine Sch.nil ?_
 refine run_cT 23 ?_
 refine run_sq ?_
 refine run_pl [yy 0, yy 1, yy 2, nn 3] ?_
 refine yM 24 0 ?_
 refine yM 25 1 ?_
 refine yM 26 2 ?_
 refine cS (kq 27 (.call { callee := .value (.func 109), args := #[(.tmp 24), (.tmp 25), (.tmp 26)], argTypes := #[22, 3, 3] })) rfl rfl (ent Tryz.call109 rfl) (insI_ok (a := 0) (b := ys.length) hF hj ho (Nat.zero_le _) (Nat.le_refl _) (by omega)) ?_
 rintro vw2 w2 ⟨rfl, zs, σ, hPL, hWi, hAs, hs, ho, hF⟩
 refine ⟨trivial, ?_⟩
 replace hT := hT.trans hs (by simp <;> omega)
 refine Sch.nil ?_
 refine run_ret0 (by kernel_rfl) Tryz.func88 Tryz.results88 ?_
 exact ⟨rfl, zs, ⟨σ, hPL, hWi, hAs⟩, hT, ho, hF⟩
def TAB : ByteArray := ⟨#[0, 1, 2, 2, 3, 3, 3, 3, 4, 4, 4, 4, 4, 4, 4, 4, 5, 5, 5, 5, 5, 5, 5, 5, 5, 5, 5, 5, 5, 5, 5, 5, 6, 6, 6, 6, 6, 6, 6, 6, 6, 6, 6, 6, 6, 6, 6, 6, 6, 6, 6, 6, 6, 6, 6, 6, 6, 6, 6, 6, 6, 6, 6, 6, 7, 7, 7, 7, 7, 7, 7, 7, 7, 7, 7, 7, 7, 7, 7, 7, 7, 7, 7, 7, 7, 7, 7, 7, 7, 7, 7, 7, 7, 7, 7, 7, 7, 7, 7, 7, 7, 7, 7, 7, 7, 7, 7, 7, 7, 7, 7, 7, 7, 7, 7, 7, 7, 7, 7, 7, 7, 7, 7, 7, 7, 7, 7, 7, 8, 8, 8, 8, 8, 8, 8, 8, 8, 8, 8, 8, 8, 8, 8, 8, 8, 8, 8, 8, 8, 8, 8, 8, 8, 8, 8, 8, 8, 8, 8, 8, 8, 8, 8, 8, 8, 8, 8, 8, 8, 8, 8, 8, 8, 8, 8, 8, 8, 8, 8, 8, 8, 8, 8, 8, 8, 8, 8, 8, 8, 8, 8, 8, 8, 8, 8, 8, 8, 8, 8, 8, 8, 8, 8, 8, 8, 8, 8, 8, 8, 8, 8, 8, 8, 8, 8, 8, 8, 8, 8, 8, 8, 8, 8, 8, 8, 8, 8, 8, 8, 8, 8, 8, 8, 8, 8, 8, 8, 8, 8, 8, 8, 8, 8, 8, 8, 8, 8, 8, 8, 8, 8, 8, 8, 8, 8, 8]⟩
namespace F119
noncomputable def c0 := bodyOf Tryz.f119
noncomputable def c7 := (cl (cl (cr (cl (cr c0)))))
noncomputable def c8 := (cr (cl (cr (cl (cr c0)))))
noncomputable def c14 := (cl (cr (cl (cr (cr c0)))))
noncomputable def c20 := (cl (cl (cr (cr (cr c0)))))
noncomputable def c21 := (cr (cl (cr (cr (cr c0)))))
noncomputable def c27 := (cl (cr (cr (cr (cr c0)))))
end F119
theorem len64_ok {n : Nat} (hn : n ≤ 12) (w₀ : World) : Calls Tryz.prog 119 #[.int .u64 n] w₀ (Ret fun v w' => (∃ m, v = .int .i64 m) ∧ w' = w₀) := by
 refine calls_start (c := F119.c0) (N := 25) [.int .u64 n] Tryz.func119 (by kernel_rfl) (by kernel_rfl) (by kernel_rfl) ?_
 show Run _ _ _ _ [(0, .int .u64 n)] _ _
 refine run_sq ?_
 refine run_pl [yy 0] ?_
 refine yAc 2 (.int .i64 0) ?_
 refine Sch.nil ?_
 refine run_sq ?_
 refine run_sq ?_
 refine run_pl [yy 0, yy 1] ?_
 refine yM 3 0 ?_
 refine yV (kq 4 (.binOp .geq 77 (.tmp 3) (.const (.int .u64 4294967296)) 77)) (fun _ => val_is (val_geq rfl rfl) (show _ = Value.bool false from congrArg Value.bool (decide_eq_false (by omega)))) ?_
 refine Sch.nil ?_
 refine run_cF 4 ?_
 refine run_sk ?_
 refine run_sq ?_
 refine run_sq ?_
 refine run_pl [yy 0, yy 1] ?_
 refine yM 7 0 ?_
 refine yV (kq 8 (.binOp .geq 77 (.tmp 7) (.const (.int .u64 65536)) 77)) (fun _ => val_is (val_geq rfl rfl) (show _ = Value.bool false from congrArg Value.bool (decide_eq_false (by omega)))) ?_
 refine Sch.nil ?_
 refine run_cF 8 ?_
 refine run_sk ?_
 refine run_sq ?_
 refine run_sq ?_
 refine run_pl [yy 0, yy 1] ?_
 refine yM 13 0 ?_
 refine yV (kq 14 (.binOp .geq 77 (.tmp 13) (.const (.int .u64 256)) 77)) (fun _ => val_is (val_geq rfl rfl) (show _ = Value.bool false from congrArg Value.bool (decide_eq_false (by omega)))) ?_
 refine Sch.nil ?_
 refine run_cF 14 ?_
 refine run_sk ?_
 refine run_sq ?_
 refine run_pl [yy 0, yy 1, yy 2, yy 3, yy 4, yy 5, yy 6] ?_
 refine yM 19 2 ?_
 refine yM 20 0 ?_
 refine yV (kq 21 (.convert 77 5 (.tmp 20))) (fun _ => val_convE (r := (n : Int)) rfl ⟨_, Tryz.underlying77⟩ Tryz.underlying5 (wrap_u8n hn)) ?_
 obtain ⟨bt, hbt⟩ := tabN (s := TAB) (n := n) (by show n < 256; omega)
 refine yV (kq 22 (.index 9 (.const (.string ⟨#[0, 1, 2, 2, 3, 3, 3, 3, 4, 4, 4, 4, 4, 4, 4, 4, 5, 5, 5, 5, 5, 5, 5, 5, 5, 5, 5, 5, 5, 5, 5, 5, 6, 6, 6, 6, 6, 6, 6, 6, 6, 6, 6, 6, 6, 6, 6, 6, 6, 6, 6, 6, 6, 6, 6, 6, 6, 6, 6, 6, 6, 6, 6, 6, 7, 7, 7, 7, 7, 7, 7, 7, 7, 7, 7, 7, 7, 7, 7, 7, 7, 7, 7, 7, 7, 7, 7, 7, 7, 7, 7, 7, 7, 7, 7, 7, 7, 7, 7, 7, 7, 7, 7, 7, 7, 7, 7, 7, 7, 7, 7, 7, 7, 7, 7, 7, 7, 7, 7, 7, 7, 7, 7, 7, 7, 7, 7, 7, 8, 8, 8, 8, 8, 8, 8, 8, 8, 8, 8, 8, 8, 8, 8, 8, 8, 8, 8, 8, 8, 8, 8, 8, 8, 8, 8, 8, 8, 8, 8, 8, 8, 8, 8, 8, 8, 8, 8, 8, 8, 8, 8, 8, 8, 8, 8, 8, 8, 8, 8, 8, 8, 8, 8, 8, 8, 8, 8, 8, 8, 8, 8, 8, 8, 8, 8, 8, 8, 8, 8, 8, 8, 8, 8, 8, 8, 8, 8, 8, 8, 8, 8, 8, 8, 8, 8, 8, 8, 8, 8, 8, 8, 8, 8, 8, 8, 8, 8, 8, 8, 8, 8, 8, 8, 8, 8, 8, 8, 8, 8, 8, 8, 8, 8, 8, 8, 8, 8, 8, 8, 8, 8, 8, 8, 8, 8, 8]⟩)) (.tmp 21))) (fun _ => val_idxS rfl rfl Tryz.underlying9 hbt) ?_
 refine yV (kq 23 (.convert 5 3 (.tmp 22))) (fun _ => val_conv_int rfl ⟨_, Tryz.underlying5⟩ Tryz.underlying3) ?_
 refine yV (kq 24 (.binOp .add 3 (.tmp 19) (.tmp 23) 3)) (fun _ => val_add rfl rfl) ?_
 refine yA 2 24 ?_
 refine Sch.nil ?_
 refine run_ret1 (by kernel_rfl) Tryz.func119 Tryz.results119 rfl ?_
 exact ⟨⟨_, rfl⟩, rfl⟩
namespace F89
noncomputable def c0 := bodyOf Tryz.f89
end F89
theorem len_ok {n : Nat} (hn : n ≤ 12) (w₀ : World) : Calls Tryz.prog 89 #[.int .u64 n] w₀ (Ret fun v w' => (∃ m, v = .int .i64 m) ∧ w' = w₀) := by
 refine calls_start (c := F89.c0) (N := 8) [.int .u64 n] Tryz.func89 (by kernel_rfl) (by kernel_rfl) (by kernel_rfl) ?_
 show Run _ _ _ _ [(0, .int .u64 n)] _ _
 refine run_sq ?_
 refine run_pl [yy 0] ?_
 refine yAc 2 (.int .i64 0) ?_
 refine Sch.nil ?_
 refine run_sq ?_
 refine run_ckF (by kernel_rfl) ?_
 refine run_sk ?_
 refine run_sq ?_
 refine run_pl [yy 0, nn 1, yy 2] ?_
 refine yM 6 0 ?_
 refine cS (kq 7 (.call { callee := .value (.func 119), args := #[(.tmp 6)], argTypes := #[77] })) rfl rfl (ent Tryz.call119 rfl) (len64_ok hn _) ?_
 rintro vw1 w1 ⟨⟨m, rfl⟩, e⟩
 obtain rfl := e.symm
 refine ⟨trivial, ?_⟩
 refine yA 2 7 ?_
 refine Sch.nil ?_
 refine run_ret1 (by kernel_rfl) Tryz.func89 Tryz.results89 rfl ?_
 exact ⟨⟨_, rfl⟩, rfl⟩
namespace F53
noncomputable def c0 := bodyOf Tryz.f53
end F53
/-- 'slices.Sort' of at most twelve numbers. -/
theorem sortI_ok {w₀ : World} {C : Nat → Nat} {j : Nat} {v : Value} {ys : List Int} (hF : Lim w₀ C) (hj : j ≠ 0) (ho : OwnL w₀ C j 3 v ys) (hlen : ys.length ≤ 12) :
    Calls Tryz.prog 53 #[v] w₀ (Ret fun u w' => u = .tuple #[] ∧ ∃ zs, StS cmpI ys zs ∧ Stp [j] w₀ C w' C ∧ OwnL w' C j 3 v zs ∧ Lim w' C) := by
 have hT := Stp.refl [j] w₀ C
 refine calls_start (c := F53.c0) (N := 11) [v] Tryz.func53 (by kernel_rfl) (by kernel_rfl) (by kernel_rfl) ?_
 show Run _ _ _ _ [(0, v)] _ _
 refine run_sq ?_
 refine run_pl [yy 0, yy 1, yy 2] ?_
 refine yM 3 0 ?_
 refine yS (kq 4 (.call { callee := .builtin .len, args := #[(.tmp 3)], argTypes := #[22] })) rfl rfl (fun w' hS => ho.lenV rfl Tryz.underlying22 w' ) ?_
 refine yA 2 4 ?_
 refine Sch.nil ?_
 refine run_pl [yy 0, yy 1, yy 2, yy 3, nn 4, nn 5] ?_
 refine yM 5 0 ?_
 refine yM 6 2 ?_
 refine yM 7 2 ?_
 refine yV (kq 8 (.convert 3 73 (.tmp 7))) (fun _ => val_convE (r := (ys.length : Int)) rfl ⟨_, Tryz.underlying3⟩ Tryz.underlying73 (wrap_u64n (by omega))) ?_
 refine cS (kq 9 (.call { callee := .value (.func 89), args := #[(.tmp 8)], argTypes := #[73] })) rfl rfl (ent Tryz.call89 rfl) (len_ok hlen _) ?_
 rintro vw1 w1 ⟨⟨m, rfl⟩, rfl⟩
 refine ⟨trivial, ?_⟩
 refine cS (kq 10 (.call { callee := .value (.func 88), args := #[(.tmp 5), (.const (.int .i64 0)), (.tmp 6), (.tmp 9)], argTypes := #[22, 3, 3, 3] })) rfl rfl (ent Tryz.call88 rfl) (pdqI_ok hF hj ho hlen) ?_
 rintro vw2 w2 ⟨rfl, zs, hSt, hs, ho, hF⟩
 refine ⟨trivial, ?_⟩
 replace hT := hT.trans hs (by simp <;> omega)
 refine Sch.nil ?_
 refine run_end0 Tryz.func53 rfl ?_
 exact ⟨rfl, zs, hSt, hT, ho, hF⟩
end Go.Proofs.YtionghonhnedgaaGreat
