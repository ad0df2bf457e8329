/- Steps through functions of the program. -/
import Derived.Test.YtdmgmlmlielfbaaGreatJC8
import Derived.Test.YtdmgmlmlielfbaaGreatL2
set_option linter.unusedVariables false
set_option linter.unusedSimpArgs false
set_option maxRecDepth 100000
set_option maxHeartbeats 4000000
namespace Go.Proofs.YtdmgmlmlielfbaaGreat
open Go.K Go.K.Rep
noncomputable section
namespace F73
def c0 := bodyOf Tryz.f73
end F73
theorem cloneB_ok {w₀ : World} {C : Nat → Nat} {xs : List Bond} {px : Value} (hF : Lim w₀ C) (hw : RV w₀ (Mc C) xs px) (hne : xs ≠ []) (hlen : xs.length ≤ 1000000) (j : Nat) (hj : j ≠ 0) : Calls Tryz.prog 73 #[px] w₀ (Ret fun v w' => ∃ C', Stp [] w₀ C w' C' ∧ Lim w' C' ∧ OwnL w' C' j 49 v xs) := by
 have hF0 := hF
 have hT := Stp.refl [2, 3, 4, 5, 6, 7, 8, 9] w₀ (col1 C)
 replace hF := hF.col1
 replace hw := hw.c1
 obtain ⟨a0, c0, he0, hcc, _, hs0⟩ := rv_list.1 hw
 obtain ⟨b0, rfl⟩ : ∃ b, a0 = some b := by
   rcases hs0 with h | ⟨b, o, rfl, _⟩
   · exact absurd h hne
   exact ⟨_, rfl⟩
 clear hs0
 refine c_st F73.c0 8 [px] Tryz.func73 ?_
 show Run _ _ _ _ [(0, px)] _ _
 refine run_sq (run_pl [yy 0] ?_)
 refine yV (kq 2 (.assign (.const (.slice none 0 0)))) (fun _ => val_assign rfl) ?_
 refine Sch.nil (run_sq (run_sq (run_pl [yy 0, yy 1] ?_)))
 refine yM 3 0 ?_
 refine yV (kq 4 (.binOp .eql 23 (.tmp 3) (.const (.slice none 0 0)) 23)) (fun _ => val_eqNilX ((show _ = some px from rfl).trans (congrArg some he0)) Tryz.underlying23) ?_
 refine Sch.nil (run_cF 4 (run_sk (run_sq (run_pl [nn 0, yy 1, nn 2, yy 3] ?_))))
 refine aT (kq 5 (.buildSlice 23 0 #[])) rfl rfl (a_buildEmptyX (n := 5) (e := 49) (bytes := 40) hF (by kernel_rfl)) ?_
 rintro _ w1 ⟨⟨a5, rfl⟩, s_1, hF⟩
 refine yM 6 0 ?_
 replace hw := hw.t s_1
 refine aT (kq 7 (.call { callee := .builtin .append, args := #[(.tmp 5), (.tmp 6)], argTypes := #[23, 23] })) rfl rfl (a_appendR (j := 5) (e := 49) (bytes := 40) (ys := ([] : List Bond)) hF (by decide) rfl rfl (by kernel_rfl) (by decide) rv_empX hw hne (by simp only [List.length_nil]; omega) (by simp only [List.length_nil]; omega)) ?_
 rintro v7 w2 ⟨Cw2, s_2, hn, hF⟩
 refine yA 2 7 ?_
 refine Sch.nil ?_
 simp only [List.nil_append] at hn
 refine rt1 Tryz.func73 Tryz.results73 ?_
 replace hT := (hT.t s_1).t s_2
 obtain ⟨Cg, hcg, hFg, hmg, hog⟩ := hn.give hT hF0 (Mc_col1 C) (fun b _ => col1_lt C (by decide) b) (by decide) j hj
 exact ⟨Cg, (hT.out1 (by decide)).give hcg, hFg, hog⟩
namespace F75
def c0 := bodyOf Tryz.f75
end F75
theorem weighs_ok {w₀ : World} {C : Nat → Nat} {x y : Bond} (hF : Lim w₀ C) : Calls Tryz.prog 75 #[.agg (encB x).toArray, .agg (encB y).toArray] w₀ (Ret fun v w' => v = .int .i64 (cmpW x y) ∧ Stp [] w₀ C w' C) := by
 have hF0 := hF
 have hT := Stp.refl [2, 3, 4, 5, 6, 7, 8, 9] w₀ (col1 C)
 replace hF := hF.col1
 refine c_st F75.c0 10 [.agg (encB x).toArray, .agg (encB y).toArray] Tryz.func75 ?_
 show Run _ _ _ _ [(0, .agg (encB x).toArray), (1, .agg (encB y).toArray)] _ _
 refine run_sq (run_pl [nn 0, nn 1, yy 2] ?_)
 refine aT (kq 2 (.box 49 (.tmp 0))) rfl rfl (a_box (cs := encB x) hF 3 rfl rfl) ?_
 rintro _ w1 ⟨Cw1, bw1, rfl, s_1, hx, hF⟩
 refine aT (kq 3 (.box 49 (.tmp 1))) rfl rfl (a_box (cs := encB y) hF 3 rfl rfl) ?_
 rintro _ w2 ⟨Cw2, bw2, rfl, s_2, hy, hF⟩
 refine yAc 4 (.int .i64 0) ?_
 refine Sch.nil (run_sq (run_pl [yy 0, nn 1, yy 2, nn 3, nn 4, yy 5] ?_))
 refine yF 5 49 3 2 4 ?_
 refine nO 6 3 5 hy.at_ rfl rfl ?_
 refine yF 7 49 2 2 4 ?_
 replace hx := hx.t s_2
 refine nO 8 3 7 hx.at_ rfl rfl ?_
 refine cG 9 76 [6, 8] [3, 3] Tryz.call76 rfl (cmpI_ok _ _ _) ?_
 rintro vw3 w3 ⟨rfl, rfl⟩
 refine yA 4 9 ?_
 refine Sch.nil ?_
 refine rt1 Tryz.func75 Tryz.results75 ?_
 replace hT := (hT.t s_1).t s_2
 exact ⟨rfl, hT.out1 (by decide)⟩
namespace F140
def c0 := bodyOf Tryz.f140
def c11 := (cl (cr (cl (cl (cr c0)))))
def c17 := (cl (cl (cl (cr (cl c11)))))
def o4 := rops (cl c17)
def c22 := (cr (cl (cl (cr (cl c11)))))
def o6 := rops (cl (cl c22))
end F140
theorem insW_ok {w₀ : World} {C : Nat → Nat} {j a b : Nat} {v : Value} {ys : List Bond} (hF : Lim w₀ C) (hj : j ≠ 0) (ho : OwnL w₀ C j 49 v ys) (hab : a ≤ b) (hb : b ≤ ys.length) (hlen : ys.length ≤ 140737488355328) :
    Calls Tryz.prog 140 #[v, .int .i64 a, .int .i64 b, .func (.func 75) #[] #[]] w₀ (Ret fun u w' => u = .tuple #[] ∧ ∃ zs σ, PL ys σ zs ∧ Within σ a b ∧ Asc (ordT cmpW ys) σ a b ∧ Stp [j] w₀ C w' C ∧ OwnL w' C j 49 v zs ∧ Lim w' C) := by
 have hT := Stp.refl [j] w₀ C
 refine c_st F140.c0 53 [v, .int .i64 a, .int .i64 b, .func (.func 75) #[] #[]] Tryz.func140 ?_
 show Run _ _ _ _ [(0, v), (1, .int .i64 a), (2, .int .i64 b), (3, .func (.func 75) #[] #[])] _ _
 refine run_sq (run_pl [yy 0, yy 1, yy 2] ?_)
 refine yM 10 1 ?_
 refine yI 11 3 10 1 ?_
 refine yA 8 11 ?_
 refine Sch.nil (run_bk 0 ?_)
 refine run_lp (ι := Nat × (List Bond) × (Nat → Nat)) (I := fun x w => a + 1 ≤ x.1 ∧ x.1 ≤ max (a + 1) b ∧ PL ys x.2.2 x.2.1 ∧ Within x.2.2 a x.1 ∧ Asc (ordT cmpW ys) x.2.2 a x.1 ∧ Lim w C ∧ Stp [j] w₀ C w C ∧ OwnL w C j 49 v x.2.1) (e := fun x => [(0, v), (1, .int .i64 a), (2, .int .i64 b), (3, .func (.func 75) #[] #[]), (8, .int .i64 x.1)]) (m := fun x => b - x.1) (x₀ := (a + 1, ys, fun i => i)) (sr 0 (sr 1 (sr 2 (sr 3 (sub_cons 8 rfl (eq_int (by simp)) (sub_nil _)))))) ?_ ?_
 · exact ⟨Nat.le_refl _, by omega, PL.id ys, Within.id _ _, fun p q h1 h2 h3 => by omega, hF, hT, ho⟩
 intro ⟨i, zs, σ⟩ w1 hI next1
 obtain ⟨hi1, hi2, hPL, hWi, hAs, hF, hT, ho⟩ := hI
 try simp only at hi1 hi2 hPL hWi hAs hF hT ho
 show Run _ _ _ _ [(0, v), (1, .int .i64 a), (2, .int .i64 b), (3, .func (.func 75) #[] #[]), (8, .int .i64 i)] _ _
 have hzl := hPL.len
 refine run_sq (run_sq (run_pl [yy 0, yy 1, yy 2] ?_))
 refine yM 12 8 ?_
 refine yM 13 2 ?_
 refine yL 14 3 12 13 ?_
 refine Sch.nil ?_
 refine run_i 14 rfl (fun h14 => ?_) (fun h14 => ?_)
 ·
  have hib : i < b := by omega
  have hil : i < ys.length := by omega
  refine run_sk (run_sq (run_bk 1 (run_sq (run_pl [yy 0, yy 1] ?_))))
  refine yM 17 8 ?_
  refine yA 9 17 ?_
  refine Sch.nil (run_bk 2 ?_)
  refine run_lp (ι := Nat × (List Bond) × (Nat → Nat)) (I := fun x w => PL ys x.2.2 x.2.1 ∧ InsI cmpW ys x.2.2 a i x.1 ∧ Lim w C ∧ Stp [j] w₀ C w C ∧ OwnL w C j 49 v x.2.1) (e := fun x => [(0, v), (1, .int .i64 a), (2, .int .i64 b), (3, .func (.func 75) #[] #[]), (8, .int .i64 i), (9, .int .i64 x.1)]) (m := fun x => x.1) (x₀ := (i, zs, σ)) (sr 0 (sr 1 (sr 2 (sr 3 (sr 8 (sr 9 (sub_nil _))))))) ?_ ?_
  · exact ⟨hPL, InsI.start hWi (by omega) hAs, hF, hT, ho⟩
  intro ⟨q, zs, σ⟩ w2 hI next2
  obtain ⟨hPL, hI, hF, hT, ho⟩ := hI
  try simp only at hPL hI hF hT ho
  show Run _ _ _ _ [(0, v), (1, .int .i64 a), (2, .int .i64 b), (3, .func (.func 75) #[] #[]), (8, .int .i64 i), (9, .int .i64 q)] _ _
  have hzl := hPL.len
  have hle := hI.le
  refine run_sq (run_sq ?_)
  by_cases hA : (a : Int) < q
  ·
   refine run_draw (id := 4) (ops := F140.o4) [] (C) [yy 0, yy 1, yy 2, yy 3, yy 4, yy 5, yy 6, yy 7, yy 8, yy 9, yy 10, yy 11, yy 12, yy 13, nn 14, yy 15, yy 16] Tryz_mixed (by kernel_rfl) (by kernel_rfl) (by kernel_rfl) ?_
   intro w3 s_1
   have hR := Stp.refl [] w3 (C)
   refine yM 18 9 ?_
   refine yM 19 1 ?_
   refine yV (kq 20 (.binOp .gtr 3 (.tmp 18) (.tmp 19) 3)) (fun _ => val_T (val_gtr rfl rfl) hA) ?_
   refine yM 21 20 ?_
   refine yMg 22 3 3 true ?_
   refine yMg 23 0 3 true ?_
   refine yMg 24 9 3 true ?_
   replace ho := ho.t s_1
   refine oI (e' := 49) (kg 25 (.indexAddr 23 (.tmp 23) (.tmp 24)) 3 true) rfl rfl ho rfl (by kernel_rfl) rfl (by omega) (by first | omega | (simp only [List.length_set]; omega)) ?_
   intro g25 hg25
   try simp only [Int.toNat_natCast]
   refine oSA (I := []) (kg 26 (.load 49 (.tmp 25)) 3 true) rfl rfl ho hg25 (fun w' hS => ho.sy hg25 hS) (by first | omega | (simp only [List.length_set]; omega)) (by kernel_rfl) (by kernel_rfl) rfl rfl ?_
   intro v26 g26
   try simp only [Int.toNat_natCast] at g26
   obtain rfl := rv_bond.1 g26
   refine yMg 27 0 3 true ?_
   refine yMg 28 9 3 true ?_
   refine yV (kg 29 (.binOp .sub 3 (.tmp 28) (.const (.int .i64 1)) 3) 3 true) (fun _ => val_subi rfl rfl (by omega) (by omega)) ?_
   refine oI (e' := 49) (kg 30 (.indexAddr 23 (.tmp 27) (.tmp 29)) 3 true) rfl rfl ho rfl (by kernel_rfl) rfl (by omega) (by first | omega | (simp only [List.length_set]; omega)) ?_
   intro g30 hg30
   try simp only [Int.toNat_natCast]
   refine oSA (I := []) (kg 31 (.load 49 (.tmp 30)) 3 true) rfl rfl ho hg30 (fun w' hS => ho.sy hg30 hS) (by first | omega | (simp only [List.length_set]; omega)) (by kernel_rfl) (by kernel_rfl) rfl rfl ?_
   intro v31 g31
   try simp only [Int.toNat_natCast] at g31
   have eq1 : ((q : Int) - 1).toNat = q - 1 := by omega
   simp only [eq1] at g31
   obtain rfl := rv_bond.1 g31
   replace hF := hF.st s_1
   refine cS (kg 32 (.call { callee := .value (.tmp 22), args := #[(.tmp 26), (.tmp 31)], argTypes := #[49, 49] }) 3 true) rfl rfl (enters_func (fun args w => Tryz.call75 args w) rfl rfl) (weighs_ok hF) ?_
   rintro vw4 w4 ⟨rfl, s_2⟩
   refine ⟨(hR.trans s_2 (by simp)).ext, ?_⟩
   refine yV (kg 33 (.binOp .lss 3 (.tmp 32) (.const (.int .i64 0)) 3) 3 true) (fun _ => val_lss rfl rfl) ?_
   refine yAt 34 21 33 ?_
   refine Sch.nil ?_
   refine run_i 34 rfl (fun h34 => ?_) (fun h34 => ?_)
   ·
    have hord := (hI.ord cmpW_3 (fun x _ => trivial) hPL (by omega) hil (by omega) (by omega)).2 h34
    refine run_sk (run_sq (run_bk 3 ?_))
    refine run_tree (id := 6) (ops := F140.o6) [j] (C) 17 (.fork [0, 1, 2, 3, 4, 5, 6, 7, 8, 10, 11, 12] 9 (.run [nn 13, yy 14, nn 15, yy 16, nn 17]) 13 (.run [nn 9, yy 14, nn 15, yy 16, nn 17])) Tryz_mixed (by kernel_rfl) (by kernel_rfl) (by kernel_rfl) ?_
    intro w5 s_3
    have hR := Stp.refl [j] w5 (C)
    refine tr_fork ?_
    show SchQ _ _ _ _ _ [yy 0, yy 1, yy 2, yy 3, yy 4, yy 5, yy 6, yy 7, yy 8, yy 10, yy 11, yy 12] _ _
    refine yM 37 0 ?_
    refine yM 38 9 ?_
    refine yM 39 0 ?_
    refine yM 40 9 ?_
    refine yV (kq 41 (.binOp .sub 3 (.tmp 40) (.const (.int .i64 1)) 3)) (fun _ => val_subi rfl rfl (by omega) (by omega)) ?_
    refine yM 42 0 ?_
    refine yM 43 9 ?_
    refine yV (kq 44 (.binOp .sub 3 (.tmp 43) (.const (.int .i64 1)) 3)) (fun _ => val_subi rfl rfl (by omega) (by omega)) ?_
    replace ho := (ho.t s_2).t s_3
    refine oR 49 45 23 42 44 ho rfl (by first | omega | (simp only [List.length_set]; omega)) (h := ?_)
    intro g45 hg45
    try simp only [Int.toNat_natCast]
    refine yM 47 0 ?_
    refine yM 48 9 ?_
    refine oR 49 49 23 47 48 ho rfl (by first | omega | (simp only [List.length_set]; omega)) (h := ?_)
    intro g49 hg49
    try simp only [Int.toNat_natCast]
    refine tr_do2 ?_ ?_
    ·
     show SchQ _ _ _ _ _ [nn 9] _ _
     refine oNA (kq 46 (.load 49 (.tmp 45))) rfl rfl hR.ext ho hg45 (by first | omega | (simp only [List.length_set]; omega)) (by kernel_rfl) (by kernel_rfl) rfl rfl ?_
     intro v46 g46
     try simp only [Int.toNat_natCast] at g46
     have eq1 : ((q : Int) - 1).toNat = q - 1 := by omega
     simp only [eq1] at g46
     refine tr_next hR.ext ?_
     refine tr_run ?_
     show SchQ _ _ _ _ _ [nn 13, yy 14, nn 15, yy 16, nn 17] _ _
     refine oNA (kq 50 (.load 49 (.tmp 49))) rfl rfl hR.ext ho hg49 (by first | omega | (simp only [List.length_set]; omega)) (by kernel_rfl) (by kernel_rfl) rfl rfl ?_
     intro v50 g50
     try simp only [Int.toNat_natCast] at g50
     refine oR 49 51 23 37 38 ho rfl (by first | omega | (simp only [List.length_set]; omega)) (h := ?_)
     intro g51 hg51
     try simp only [Int.toNat_natCast]
     refine aN (k0 (.store 49 (.tmp 51) (.tmp 46))) rfl (a_storeO ho hg51 (by first | omega | (simp only [List.length_set]; omega)) rfl rfl (by kernel_rfl) g46) ?_
     rintro _ w6 ⟨rfl, s_4, ho⟩
     refine ⟨(hR.trans s_4 (by simp)).ext, ?_⟩
     replace hT := ((hT.t s_1).t s_2).t s_3
     replace hT := hT.trans s_4 (by simp <;> omega)
     replace hR := hR.trans s_4 (by simp <;> omega)
     refine oR 49 52 23 39 41 ho rfl (by first | omega | (simp only [List.length_set]; omega)) (h := ?_)
     intro g52 hg52
     try simp only [Int.toNat_natCast]
     refine Sch.free rfl ?_
     replace g50 := g50.t s_4
     refine aU (k0 (.store 49 (.tmp 52) (.tmp 50))) rfl (a_storeO ho hg52 (by first | omega | (simp only [List.length_set]; omega)) rfl rfl (by kernel_rfl) g50) ?_
     rintro _ w7 ⟨rfl, s_5, ho⟩
     replace hT := hT.trans s_5 (by simp <;> omega)
     refine Sch.nil (run_inBlock (run_pl [yy 0, yy 1, yy 2] ?_))
     refine yM 35 9 ?_
     refine yV (kq 36 (.binOp .sub 3 (.tmp 35) (.const (.int .i64 1)) 3)) (fun _ => val_subi rfl rfl (by omega) (by omega)) ?_
     refine yA 9 36 ?_
     refine Sch.nil ?_
     try simp only [show ((q : Int) - 1).toNat = q - 1 from by omega, Int.toNat_natCast] at ho
     replace hF := (((hF.st s_2).st s_3).st s_4).st s_5
     refine kp (sr 0 (sr 1 (sr 2 (sr 3 (sr 8 (sub_cons 9 rfl (eq_int (by simp only; omega)) (sub_nil _))))))) (next2 (q - 1, ((zs.set q (zs[q - 1]'(by omega))).set (q - 1) (zs[q]'(by omega))), (swF σ q (q - 1))) _ ⟨(hPL.swap (by omega) (by omega) rfl rfl), (hI.step (by omega) hord), hF, hT, ho⟩ (by first | omega | (simp only; omega)))
    show SchQ _ _ _ _ _ [nn 13] _ _
    refine oNA (kq 50 (.load 49 (.tmp 49))) rfl rfl hR.ext ho hg49 (by first | omega | (simp only [List.length_set]; omega)) (by kernel_rfl) (by kernel_rfl) rfl rfl ?_
    intro v50 g50
    try simp only [Int.toNat_natCast] at g50
    refine tr_next hR.ext ?_
    refine tr_run ?_
    show SchQ _ _ _ _ _ [nn 9, yy 14, nn 15, yy 16, nn 17] _ _
    refine oNA (kq 46 (.load 49 (.tmp 45))) rfl rfl hR.ext ho hg45 (by first | omega | (simp only [List.length_set]; omega)) (by kernel_rfl) (by kernel_rfl) rfl rfl ?_
    intro v46 g46
    try simp only [Int.toNat_natCast] at g46
    have eq1 : ((q : Int) - 1).toNat = q - 1 := by omega
    simp only [eq1] at g46
    refine oR 49 51 23 37 38 ho rfl (by first | omega | (simp only [List.length_set]; omega)) (h := ?_)
    intro g51 hg51
    try simp only [Int.toNat_natCast]
    refine aN (k0 (.store 49 (.tmp 51) (.tmp 46))) rfl (a_storeO ho hg51 (by first | omega | (simp only [List.length_set]; omega)) rfl rfl (by kernel_rfl) g46) ?_
    rintro _ w8 ⟨rfl, s_6, ho⟩
    refine ⟨(hR.trans s_6 (by simp)).ext, ?_⟩
    replace hT := ((hT.t s_1).t s_2).t s_3
    replace hT := hT.trans s_6 (by simp <;> omega)
    replace hR := hR.trans s_6 (by simp <;> omega)
    refine oR 49 52 23 39 41 ho rfl (by first | omega | (simp only [List.length_set]; omega)) (h := ?_)
    intro g52 hg52
    try simp only [Int.toNat_natCast]
    refine Sch.free rfl ?_
    replace g50 := g50.t s_6
    refine aU (k0 (.store 49 (.tmp 52) (.tmp 50))) rfl (a_storeO ho hg52 (by first | omega | (simp only [List.length_set]; omega)) rfl rfl (by kernel_rfl) g50) ?_
    rintro _ w9 ⟨rfl, s_7, ho⟩
    replace hT := hT.trans s_7 (by simp <;> omega)
    refine Sch.nil (run_inBlock (run_pl [yy 0, yy 1, yy 2] ?_))
    refine yM 35 9 ?_
    refine yV (kq 36 (.binOp .sub 3 (.tmp 35) (.const (.int .i64 1)) 3)) (fun _ => val_subi rfl rfl (by omega) (by omega)) ?_
    refine yA 9 36 ?_
    refine Sch.nil ?_
    try simp only [show ((q : Int) - 1).toNat = q - 1 from by omega, Int.toNat_natCast] at ho
    replace hF := (((hF.st s_2).st s_3).st s_6).st s_7
    refine kp (sr 0 (sr 1 (sr 2 (sr 3 (sr 8 (sub_cons 9 rfl (eq_int (by simp only; omega)) (sub_nil _))))))) (next2 (q - 1, ((zs.set q (zs[q - 1]'(by omega))).set (q - 1) (zs[q]'(by omega))), (swF σ q (q - 1))) _ ⟨(hPL.swap (by omega) (by omega) rfl rfl), (hI.step (by omega) hord), hF, hT, ho⟩ (by first | omega | (simp only; omega)))
   have hord : q = a ∨ ¬ ordT cmpW ys i (σ (q - 1)) := .inr (fun e => h34 ((hI.ord cmpW_3 (fun x _ => trivial) hPL (by omega) hil (by omega) (by omega)).1 e))
   refine run_ex 2 ?_
   refine run_inBlock (run_pl [yy 0, yy 1, yy 2] ?_)
   skip
   refine yM 15 8 ?_
   refine yI 16 3 15 1 ?_
   refine yA 8 16 ?_
   refine Sch.nil ?_
   have hord2 : q = a ∨ ¬ ordT cmpW ys i (σ (q - 1)) := hord
   obtain ⟨hw2, ha2⟩ := hI.done cmpW_3 (fun x _ => trivial) hil hord2
   replace hT := (hT.t s_1).t s_2; replace hF := hF.st s_2; replace ho := ho.t s_2
   refine kp (sr 0 (sr 1 (sr 2 (sr 3 (sub_cons 8 rfl (eq_int (by simp)) (sub_nil _)))))) (next1 (i + 1, zs, σ) _ ⟨(by first | omega | (simp only; omega)), (by first | omega | (simp only; omega)), (by first | omega | (simp only; omega)), hw2, ha2, hF, hT, ho⟩ (by first | omega | (simp only; omega)))
  refine run_draw (id := 4) (ops := F140.o4) [] (C) [yy 0, yy 1, yy 2, yy 3, yy 4, yy 5, yy 6, yy 7, yy 8, yy 9, yy 10, yy 11, yy 12, yy 13, nn 14, yy 15, yy 16] Tryz_mixed (by kernel_rfl) (by kernel_rfl) (by kernel_rfl) ?_
  intro w10 s_8
  have hR := Stp.refl [] w10 (C)
  refine yM 18 9 ?_
  refine yM 19 1 ?_
  refine yV (kq 20 (.binOp .gtr 3 (.tmp 18) (.tmp 19) 3)) (fun _ => val_F (val_gtr rfl rfl) hA) ?_
  refine yM 21 20 ?_
  refine pX 22 3 true ?_
  refine pX 23 3 true ?_
  refine pX 24 3 true ?_
  refine pX 25 3 true ?_
  refine pX 26 3 true ?_
  refine pX 27 3 true ?_
  refine pX 28 3 true ?_
  refine pX 29 3 true ?_
  refine pX 30 3 true ?_
  refine pX 31 3 true ?_
  refine pW (kg 32 (.call { callee := .value (.tmp 22), args := #[(.tmp 26), (.tmp 31)], argTypes := #[49, 49] }) 3 true) rfl rfl hR.ext ?_
  refine pX 33 3 true ?_
  refine yAf 34 21 33 ?_
  refine Sch.nil (run_cF 34 (run_ex 2 ?_))
  refine run_inBlock (run_pl [yy 0, yy 1, yy 2] ?_)
  skip
  refine yM 15 8 ?_
  refine yI 16 3 15 1 ?_
  refine yA 8 16 ?_
  refine Sch.nil ?_
  have hord2 : q = a ∨ ¬ ordT cmpW ys i (σ (q - 1)) := .inl (by omega)
  obtain ⟨hw2, ha2⟩ := hI.done cmpW_3 (fun x _ => trivial) hil hord2
  replace hF := hF.st s_8; replace hT := hT.t s_8; replace ho := ho.t s_8
  refine kp (sr 0 (sr 1 (sr 2 (sr 3 (sub_cons 8 rfl (eq_int (by simp)) (sub_nil _)))))) (next1 (i + 1, zs, σ) _ ⟨(by first | omega | (simp only; omega)), (by first | omega | (simp only; omega)), (by first | omega | (simp only; omega)), hw2, ha2, hF, hT, ho⟩ (by first | omega | (simp only; omega)))
 have hib : b ≤ i := by omega
 refine run_ex 0 ?_
 refine run_end0 Tryz.func140 rfl ?_
 refine ⟨rfl, zs, σ, hPL, ?_, ?_, hT, ho, hF⟩
 · by_cases e : i = a + 1
   · subst e; exact hWi.thin hab
   rw [show b = i by omega]; exact hWi
 exact fun p q h1 h2 h3 => hAs p q h1 h2 (by omega)
namespace F115
def c0 := bodyOf Tryz.f115
end F115
theorem stableW_ok {w₀ : World} {C : Nat → Nat} {j n : Nat} {v : Value} {ys : List Bond} (hF : Lim w₀ C) (hj : j ≠ 0) (ho : OwnL w₀ C j 49 v ys) (hn : n = ys.length) (hlen : ys.length < 20) :
    Calls Tryz.prog 115 #[v, .int .i64 n, .func (.func 75) #[] #[]] w₀ (Ret fun u w' => u = .tuple #[] ∧ ∃ zs, StS cmpW ys zs ∧ Stp [j] w₀ C w' C ∧ OwnL w' C j 49 v zs ∧ Lim w' C) := by
 have hT := Stp.refl [j] w₀ C
 refine c_st F115.c0 63 [v, .int .i64 n, .func (.func 75) #[] #[]] Tryz.func115 ?_
 show Run _ _ _ _ [(0, v), (1, .int .i64 n), (2, .func (.func 75) #[] #[])] _ _
 refine run_sq (run_pl [yy 0] ?_)
 refine yAc 6 (.int .i64 20) ?_
 refine Sch.nil (run_sq (run_pl [yy 0, yy 1, yy 2] ?_))
 refine yM 10 6 ?_
 refine yAc 7 (.int .i64 0) ?_
 refine yA 8 10 ?_
 refine Sch.nil (run_sq (run_bk 0 ?_))
 refine run_lp (ι := Nat) (I := fun x w => Lim w C ∧ Stp [j] w₀ C w C ∧ OwnL w C j 49 v ys) (e := fun x => [(0, v), (1, .int .i64 n), (2, .func (.func 75) #[] #[]), (6, .int .i64 20), (7, .int .i64 0), (8, .int .i64 20)]) (m := fun x => 0) (x₀ := 0) (sr 0 (sr 1 (sr 2 (sr 6 (sr 7 (sr 8 (sub_nil _))))))) ?_ ?_
 · exact ⟨hF, hT, ho⟩
 intro z w1 hI next1
 obtain ⟨hF, hT, ho⟩ := hI
 try simp only at hF hT ho
 show Run _ _ _ _ [(0, v), (1, .int .i64 n), (2, .func (.func 75) #[] #[]), (6, .int .i64 20), (7, .int .i64 0), (8, .int .i64 20)] _ _
 refine run_sq (run_sq (run_pl [yy 0, yy 1, yy 2] ?_))
 refine yM 11 8 ?_
 refine yM 12 1 ?_
 refine yV (kq 13 (.binOp .leq 3 (.tmp 11) (.tmp 12) 3)) (fun _ => val_is (val_leq rfl rfl) (show _ = Value.bool false from congrArg Value.bool (decide_eq_false (by omega)))) ?_
 refine Sch.nil (run_cF 13 (run_ex 0 ?_))
 refine run_sq (run_pl [yy 0, yy 1, yy 2, yy 3, nn 4] ?_)
 refine yM 23 0 ?_
 refine yM 24 7 ?_
 refine yM 25 1 ?_
 refine yM 26 2 ?_
 refine cG 27 140 [23, 24, 25, 26] [23, 3, 3, 112] Tryz.call140 rfl (insW_ok (a := 0) (b := n) hF hj ho (Nat.zero_le _) (by omega) (by omega)) ?_
 rintro vw2 w2 ⟨rfl, zs, σ, hPL, hWi, hAs, s_1, ho, hF⟩
 replace hT := hT.trans s_1 (by simp <;> omega)
 refine Sch.nil (run_bk 2 ?_)
 refine run_lp (ι := Nat) (I := fun x w => Lim w C ∧ Stp [j] w₀ C w C ∧ OwnL w C j 49 v zs) (e := fun x => [(0, v), (1, .int .i64 n), (2, .func (.func 75) #[] #[]), (6, .int .i64 20)]) (m := fun x => 0) (x₀ := 0) (sr 0 (sr 1 (sr 2 (sr 6 (sub_nil _))))) ?_ ?_
 · exact ⟨hF, hT, ho⟩
 intro z w3 hI next2
 obtain ⟨hF, hT, ho⟩ := hI
 try simp only at hF hT ho
 show Run _ _ _ _ [(0, v), (1, .int .i64 n), (2, .func (.func 75) #[] #[]), (6, .int .i64 20)] _ _
 refine run_sq (run_sq (run_pl [yy 0, yy 1, yy 2] ?_))
 refine yM 28 6 ?_
 refine yM 29 1 ?_
 refine yV (kq 30 (.binOp .lss 3 (.tmp 28) (.tmp 29) 3)) (fun _ => val_is (val_lss rfl rfl) (show _ = Value.bool false from congrArg Value.bool (decide_eq_false (by omega)))) ?_
 refine Sch.nil (run_cF 30 (run_ex 2 ?_))
 refine run_end0 Tryz.func115 rfl ?_
 subst hn
 exact ⟨rfl, zs, ⟨σ, hPL, hWi, hAs⟩, hT, ho, hF⟩
namespace F74
def c0 := bodyOf Tryz.f74
end F74
theorem sortW_ok {w₀ : World} {C : Nat → Nat} {j : Nat} {v : Value} {ys : List Bond} (hF : Lim w₀ C) (hj : j ≠ 0) (ho : OwnL w₀ C j 49 v ys) (hlen : ys.length < 20) :
    Calls Tryz.prog 74 #[v, .func (.func 75) #[] #[]] w₀ (Ret fun u w' => u = .tuple #[] ∧ ∃ zs, StS cmpW ys zs ∧ Stp [j] w₀ C w' C ∧ OwnL w' C j 49 v zs ∧ Lim w' C) := by
 have hT := Stp.refl [j] w₀ C
 refine c_st F74.c0 9 [v, .func (.func 75) #[] #[]] Tryz.func74 ?_
 show Run _ _ _ _ [(0, v), (1, .func (.func 75) #[] #[])] _ _
 refine run_pl [yy 0, yy 1, yy 2, yy 3, nn 4] ?_
 refine yM 4 0 ?_
 refine yM 5 0 ?_
 refine yS (kq 6 (.call { callee := .builtin .len, args := #[(.tmp 5)], argTypes := #[23] })) rfl rfl (fun w' hS => ho.lenV rfl Tryz.underlying23 w' ) ?_
 refine yM 7 1 ?_
 refine cG 8 115 [4, 6, 7] [23, 3, 112] Tryz.call115 rfl (stableW_ok (n := ys.length) hF hj ho rfl hlen) ?_
 rintro vw1 w1 ⟨rfl, zs, hSt, s_1, ho, hF⟩
 replace hT := hT.trans s_1 (by simp <;> omega)
 refine Sch.nil ?_
 refine run_end0 Tryz.func74 rfl ?_
 exact ⟨rfl, zs, hSt, hT, ho, hF⟩
end
end Go.Proofs.YtdmgmlmlielfbaaGreat
