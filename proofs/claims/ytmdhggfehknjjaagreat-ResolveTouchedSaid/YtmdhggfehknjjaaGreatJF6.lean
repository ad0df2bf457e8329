/- Steps through functions of the program. -/
import Derived.Test.YtmdhggfehknjjaaGreatJC8
import Derived.Test.YtmdhggfehknjjaaGreatL2
set_option linter.unusedVariables false
set_option linter.unusedSimpArgs false
set_option maxRecDepth 100000
set_option maxHeartbeats 4000000
namespace Go.Proofs.YtmdhggfehknjjaaGreat
open Go.K Go.K.Rep
noncomputable section
namespace F42
def c0 := bodyOf Tryz.f42
end F42
theorem cloneB_ok {w₀ : World} {C : Nat → Nat} {xs : List Bond} {px : Value} (hF : Lim w₀ C) (hw : RV w₀ (Mc C) xs px) (hne : xs ≠ []) (hlen : xs.length ≤ 1000000) (j : Nat) (hj : j ≠ 0) : Calls Tryz.prog 42 #[px] w₀ (Ret fun v w' => ∃ C', Stp [] w₀ C w' C' ∧ Lim w' C' ∧ OwnL w' C' j 58 v xs) := by
 have hF0 := hF
 have hT := Stp.refl [2, 3, 4, 5, 6, 7, 8, 9] w₀ (col1 C)
 replace hF := hF.col1
 replace hw := hw.c1
 obtain ⟨a0, c0, he0, hcc, _, hs0⟩ := rv_list.1 hw
 obtain ⟨b0, rfl⟩ : ∃ b, a0 = some b := by
   rcases hs0 with h | ⟨b, o, rfl, _⟩
   · exact absurd h hne
   exact ⟨_, rfl⟩
 clear hs0
 refine c_st F42.c0 8 [px] Tryz.func42 ?_
 show Run _ _ _ _ [(0, px)] _ _
 refine run_sq (run_pl [yy 0] ?_)
 refine yV (kq 2 (.assign (.const (.slice none 0 0)))) (fun _ => val_assign rfl) ?_
 refine Sch.nil (run_sq (run_sq (run_pl [yy 0, yy 1] ?_)))
 refine yM 3 0 ?_
 refine yV (kq 4 (.binOp .eql 23 (.tmp 3) (.const (.slice none 0 0)) 23)) (fun _ => val_eqNilX ((show _ = some px from rfl).trans (congrArg some he0)) Tryz.underlying23) ?_
 refine Sch.nil (run_cF 4 (run_sk (run_sq (run_pl [nn 0, yy 1, nn 2, yy 3] ?_))))
 refine aT (kq 5 (.buildSlice 23 0 #[])) rfl rfl (a_buildEmptyX (n := 5) (e := 58) (bytes := 40) hF (by kernel_rfl)) ?_
 rintro _ w1 ⟨⟨a5, rfl⟩, s_1, hF⟩
 refine yM 6 0 ?_
 replace hw := hw.t s_1
 refine aT (kq 7 (.call { callee := .builtin .append, args := #[(.tmp 5), (.tmp 6)], argTypes := #[23, 23] })) rfl rfl (a_appendR (j := 5) (e := 58) (bytes := 40) (ys := ([] : List Bond)) hF (by decide) rfl rfl (by kernel_rfl) (by decide) rv_empX hw hne (by simp only [List.length_nil]; omega) (by simp only [List.length_nil]; omega)) ?_
 rintro v7 w2 ⟨Cw2, s_2, hn, hF⟩
 refine yA 2 7 ?_
 refine Sch.nil ?_
 simp only [List.nil_append] at hn
 refine rt1 Tryz.func42 Tryz.results42 ?_
 replace hT := (hT.t s_1).t s_2
 obtain ⟨Cg, hcg, hFg, hmg, hog⟩ := hn.give hT hF0 (Mc_col1 C) (fun b _ => col1_lt C (by decide) b) (by decide) j hj
 exact ⟨Cg, (hT.out1 (by decide)).give hcg, hFg, hog⟩
namespace F133
def c0 := bodyOf Tryz.f133
end F133
theorem weighs_ok {w₀ : World} {C : Nat → Nat} {x y : Bond} (hF : Lim w₀ C) : Calls Tryz.prog 133 #[.agg (encB x).toArray, .agg (encB y).toArray] w₀ (Ret fun v w' => v = .int .i64 (cmpW x y) ∧ Stp [] w₀ C w' C) := by
 have hF0 := hF
 have hT := Stp.refl [2, 3, 4, 5, 6, 7, 8, 9] w₀ (col1 C)
 replace hF := hF.col1
 refine c_st F133.c0 10 [.agg (encB x).toArray, .agg (encB y).toArray] Tryz.func133 ?_
 show Run _ _ _ _ [(0, .agg (encB x).toArray), (1, .agg (encB y).toArray)] _ _
 refine run_sq (run_pl [nn 0, nn 1, yy 2] ?_)
 refine aT (kq 2 (.box 58 (.tmp 0))) rfl rfl (a_box (cs := encB x) hF 3 rfl rfl) ?_
 rintro _ w1 ⟨Cw1, bw1, rfl, s_1, hx, hF⟩
 refine aT (kq 3 (.box 58 (.tmp 1))) rfl rfl (a_box (cs := encB y) hF 3 rfl rfl) ?_
 rintro _ w2 ⟨Cw2, bw2, rfl, s_2, hy, hF⟩
 refine yAc 4 (.int .i64 0) ?_
 refine Sch.nil (run_sq (run_pl [yy 0, nn 1, yy 2, nn 3, nn 4, yy 5] ?_))
 refine yF 5 58 3 2 4 ?_
 refine nO 6 3 5 hy.at_ rfl rfl ?_
 refine yF 7 58 2 2 4 ?_
 replace hx := hx.t s_2
 refine nO 8 3 7 hx.at_ rfl rfl ?_
 refine cG 9 97 [6, 8] [3, 3] Tryz.call97 rfl (cmpI_ok _ _ _) ?_
 rintro vw3 w3 ⟨rfl, rfl⟩
 refine yA 4 9 ?_
 refine Sch.nil ?_
 refine rt1 Tryz.func133 Tryz.results133 ?_
 replace hT := (hT.t s_1).t s_2
 exact ⟨rfl, hT.out1 (by decide)⟩
namespace F219
def c0 := bodyOf Tryz.f219
def c11 := (cl (cr (cl (cl (cr c0)))))
def c17 := (cl (cl (cl (cr (cl c11)))))
def o4 := rops (cl c17)
def c22 := (cr (cl (cl (cr (cl c11)))))
def o6 := rops (cl (cl c22))
end F219
theorem insW_ok {w₀ : World} {C : Nat → Nat} {j a b : Nat} {v : Value} {ys : List Bond} (hF : Lim w₀ C) (hj : j ≠ 0) (ho : OwnL w₀ C j 58 v ys) (hab : a ≤ b) (hb : b ≤ ys.length) (hlen : ys.length ≤ 140737488355328) :
    Calls Tryz.prog 219 #[v, .int .i64 a, .int .i64 b, .func (.func 133) #[] #[]] w₀ (Ret fun u w' => u = .tuple #[] ∧ ∃ zs σ, PL ys σ zs ∧ Within σ a b ∧ Asc (ordT cmpW ys) σ a b ∧ Stp [j] w₀ C w' C ∧ OwnL w' C j 58 v zs ∧ Lim w' C) := by
 have hT := Stp.refl [j] w₀ C
 refine c_st F219.c0 53 [v, .int .i64 a, .int .i64 b, .func (.func 133) #[] #[]] Tryz.func219 ?_
 show Run _ _ _ _ [(0, v), (1, .int .i64 a), (2, .int .i64 b), (3, .func (.func 133) #[] #[])] _ _
 refine run_sq (run_pl [yy 0, yy 1, yy 2] ?_)
 refine yM 10 1 ?_
 refine yI 11 3 10 1 ?_
 refine yA 8 11 ?_
 refine Sch.nil (run_bk 0 ?_)
 refine run_lp (ι := Nat × (List Bond) × (Nat → Nat)) (I := fun x w => a + 1 ≤ x.1 ∧ x.1 ≤ max (a + 1) b ∧ PL ys x.2.2 x.2.1 ∧ Within x.2.2 a x.1 ∧ Asc (ordT cmpW ys) x.2.2 a x.1 ∧ Lim w C ∧ Stp [j] w₀ C w C ∧ OwnL w C j 58 v x.2.1) (e := fun x => [(0, v), (1, .int .i64 a), (2, .int .i64 b), (3, .func (.func 133) #[] #[]), (8, .int .i64 x.1)]) (m := fun x => b - x.1) (x₀ := (a + 1, ys, fun i => i)) (sr 0 (sr 1 (sr 2 (sr 3 (sub_cons 8 rfl (eq_int (by simp)) (sub_nil _)))))) ?_ ?_
 · exact ⟨Nat.le_refl _, by omega, PL.id ys, Within.id _ _, fun p q h1 h2 h3 => by omega, hF, hT, ho⟩
 intro ⟨i, zs, σ⟩ w1 hI next1
 obtain ⟨hi1, hi2, hPL, hWi, hAs, hF, hT, ho⟩ := hI
 try simp only at hi1 hi2 hPL hWi hAs hF hT ho
 show Run _ _ _ _ [(0, v), (1, .int .i64 a), (2, .int .i64 b), (3, .func (.func 133) #[] #[]), (8, .int .i64 i)] _ _
 have hzl := hPL.len
 refine run_sq (run_sq (run_pl [yy 0, yy 1, yy 2] ?_))
 refine yM 12 8 ?_
 refine yM 13 2 ?_
 refine yL 14 3 12 13 ?_
 refine Sch.nil ?_
 refine run_i 14 rfl (fun h14 => ?_) (fun h14 => ?_)
 ·
  have hib : i < b := by omega
  have hil : i < ys.length := by omega
  refine run_sk (run_sq (run_bk 1 (run_sq (run_pl [yy 0, yy 1] ?_))))
  refine yM 17 8 ?_
  refine yA 9 17 ?_
  refine Sch.nil (run_bk 2 ?_)
  refine run_lp (ι := Nat × (List Bond) × (Nat → Nat)) (I := fun x w => PL ys x.2.2 x.2.1 ∧ InsI cmpW ys x.2.2 a i x.1 ∧ Lim w C ∧ Stp [j] w₀ C w C ∧ OwnL w C j 58 v x.2.1) (e := fun x => [(0, v), (1, .int .i64 a), (2, .int .i64 b), (3, .func (.func 133) #[] #[]), (8, .int .i64 i), (9, .int .i64 x.1)]) (m := fun x => x.1) (x₀ := (i, zs, σ)) (sr 0 (sr 1 (sr 2 (sr 3 (sr 8 (sr 9 (sub_nil _))))))) ?_ ?_
  · exact ⟨hPL, InsI.start hWi (by omega) hAs, hF, hT, ho⟩
  intro ⟨q, zs, σ⟩ w2 hI next2
  obtain ⟨hPL, hI, hF, hT, ho⟩ := hI
  try simp only at hPL hI hF hT ho
  show Run _ _ _ _ [(0, v), (1, .int .i64 a), (2, .int .i64 b), (3, .func (.func 133) #[] #[]), (8, .int .i64 i), (9, .int .i64 q)] _ _
  have hzl := hPL.len
  have hle := hI.le
  refine run_sq (run_sq ?_)
  by_cases hA : (a : Int) < q
  ·
   refine run_draw (id := 4) (ops := F219.o4) [] (C) [yy 0, yy 1, yy 2, yy 3, yy 4, yy 5, yy 6, yy 7, yy 8, yy 9, yy 10, yy 11, yy 12, yy 13, nn 14, yy 15, yy 16] Tryz_mixed (by kernel_rfl) (by kernel_rfl) (by kernel_rfl) ?_
   intro w3 s_1
   have hR := Stp.refl [] w3 (C)
   refine yM 18 9 ?_
   refine yM 19 1 ?_
   refine yV (kq 20 (.binOp .gtr 3 (.tmp 18) (.tmp 19) 3)) (fun _ => val_T (val_gtr rfl rfl) hA) ?_
   refine yM 21 20 ?_
   refine yMg 22 3 3 true ?_
   refine yMg 23 0 3 true ?_
   refine yMg 24 9 3 true ?_
   replace ho := ho.t s_1
   refine oI (e' := 58) (kg 25 (.indexAddr 23 (.tmp 23) (.tmp 24)) 3 true) rfl rfl ho rfl (by kernel_rfl) rfl (by omega) (by first | omega | (simp only [List.length_set]; omega)) ?_
   intro g25 hg25
   try simp only [Int.toNat_natCast]
   refine oSA (I := []) (kg 26 (.load 58 (.tmp 25)) 3 true) rfl rfl ho hg25 (fun w' hS => ho.sy hg25 hS) (by first | omega | (simp only [List.length_set]; omega)) (by kernel_rfl) (by kernel_rfl) rfl rfl ?_
   intro v26 g26
   try simp only [Int.toNat_natCast] at g26
   obtain rfl := rv_bond.1 g26
   refine yMg 27 0 3 true ?_
   refine yMg 28 9 3 true ?_
   refine yV (kg 29 (.binOp .sub 3 (.tmp 28) (.const (.int .i64 1)) 3) 3 true) (fun _ => val_subi rfl rfl (by omega) (by omega)) ?_
   refine oI (e' := 58) (kg 30 (.indexAddr 23 (.tmp 27) (.tmp 29)) 3 true) rfl rfl ho rfl (by kernel_rfl) rfl (by omega) (by first | omega | (simp only [List.length_set]; omega)) ?_
   intro g30 hg30
   try simp only [Int.toNat_natCast]
   refine oSA (I := []) (kg 31 (.load 58 (.tmp 30)) 3 true) rfl rfl ho hg30 (fun w' hS => ho.sy hg30 hS) (by first | omega | (simp only [List.length_set]; omega)) (by kernel_rfl) (by kernel_rfl) rfl rfl ?_
   intro v31 g31
   try simp only [Int.toNat_natCast] at g31
   have eq1 : ((q : Int) - 1).toNat = q - 1 := by omega
   simp only [eq1] at g31
   obtain rfl := rv_bond.1 g31
   replace hF := hF.st s_1
   refine cS (kg 32 (.call { callee := .value (.tmp 22), args := #[(.tmp 26), (.tmp 31)], argTypes := #[58, 58] }) 3 true) rfl rfl (enters_func (fun args w => Tryz.call133 args w) rfl rfl) (weighs_ok hF) ?_
   rintro vw4 w4 ⟨rfl, s_2⟩
   refine ⟨(hR.trans s_2 (by simp)).ext, ?_⟩
   refine yV (kg 33 (.binOp .lss 3 (.tmp 32) (.const (.int .i64 0)) 3) 3 true) (fun _ => val_lss rfl rfl) ?_
   refine yAt 34 21 33 ?_
   refine Sch.nil ?_
   refine run_i 34 rfl (fun h34 => ?_) (fun h34 => ?_)
   ·
    have hord := (hI.ord cmpW_3 (fun x _ => trivial) hPL (by omega) hil (by omega) (by omega)).2 h34
    refine run_sk (run_sq (run_bk 3 ?_))
    refine run_tree (id := 6) (ops := F219.o6) [j] (C) 17 (.fork [0, 1, 2, 3, 4, 5, 6, 7, 8, 10, 11, 12] 9 (.run [nn 13, yy 14, nn 15, yy 16, nn 17]) 13 (.run [nn 9, yy 14, nn 15, yy 16, nn 17])) Tryz_mixed (by kernel_rfl) (by kernel_rfl) (by kernel_rfl) ?_
    intro w5 s_3
    have hR := Stp.refl [j] w5 (C)
    refine tr_fork ?_
    show SchQ _ _ _ _ _ [yy 0, yy 1, yy 2, yy 3, yy 4, yy 5, yy 6, yy 7, yy 8, yy 10, yy 11, yy 12] _ _
    refine yM 37 0 ?_
    refine yM 38 9 ?_
    refine yM 39 0 ?_
    refine yM 40 9 ?_
    refine yV (kq 41 (.binOp .sub 3 (.tmp 40) (.const (.int .i64 1)) 3)) (fun _ => val_subi rfl rfl (by omega) (by omega)) ?_
    refine yM 42 0 ?_
    refine yM 43 9 ?_
    refine yV (kq 44 (.binOp .sub 3 (.tmp 43) (.const (.int .i64 1)) 3)) (fun _ => val_subi rfl rfl (by omega) (by omega)) ?_
    replace ho := (ho.t s_2).t s_3
    refine oR 58 45 23 42 44 ho rfl (by first | omega | (simp only [List.length_set]; omega)) (h := ?_)
    intro g45 hg45
    try simp only [Int.toNat_natCast]
    refine yM 47 0 ?_
    refine yM 48 9 ?_
    refine oR 58 49 23 47 48 ho rfl (by first | omega | (simp only [List.length_set]; omega)) (h := ?_)
    intro g49 hg49
    try simp only [Int.toNat_natCast]
    refine tr_do2 ?_ ?_
    ·
     show SchQ _ _ _ _ _ [nn 9] _ _
     refine oNA (kq 46 (.load 58 (.tmp 45))) rfl rfl hR.ext ho hg45 (by first | omega | (simp only [List.length_set]; omega)) (by kernel_rfl) (by kernel_rfl) rfl rfl ?_
     intro v46 g46
     try simp only [Int.toNat_natCast] at g46
     have eq1 : ((q : Int) - 1).toNat = q - 1 := by omega
     simp only [eq1] at g46
     refine tr_next hR.ext ?_
     refine tr_run ?_
     show SchQ _ _ _ _ _ [nn 13, yy 14, nn 15, yy 16, nn 17] _ _
     refine oNA (kq 50 (.load 58 (.tmp 49))) rfl rfl hR.ext ho hg49 (by first | omega | (simp only [List.length_set]; omega)) (by kernel_rfl) (by kernel_rfl) rfl rfl ?_
     intro v50 g50
     try simp only [Int.toNat_natCast] at g50
     refine oR 58 51 23 37 38 ho rfl (by first | omega | (simp only [List.length_set]; omega)) (h := ?_)
     intro g51 hg51
     try simp only [Int.toNat_natCast]
     refine aN (k0 (.store 58 (.tmp 51) (.tmp 46))) rfl (a_storeO ho hg51 (by first | omega | (simp only [List.length_set]; omega)) rfl rfl (by kernel_rfl) g46) ?_
     rintro _ w6 ⟨rfl, s_4, ho⟩
     refine ⟨(hR.trans s_4 (by simp)).ext, ?_⟩
     replace hT := ((hT.t s_1).t s_2).t s_3
     replace hT := hT.trans s_4 (by simp <;> omega)
     replace hR := hR.trans s_4 (by simp <;> omega)
     refine oR 58 52 23 39 41 ho rfl (by first | omega | (simp only [List.length_set]; omega)) (h := ?_)
     intro g52 hg52
     try simp only [Int.toNat_natCast]
     refine Sch.free rfl ?_
     replace g50 := g50.t s_4
     refine aU (k0 (.store 58 (.tmp 52) (.tmp 50))) rfl (a_storeO ho hg52 (by first | omega | (simp only [List.length_set]; omega)) rfl rfl (by kernel_rfl) g50) ?_
     rintro _ w7 ⟨rfl, s_5, ho⟩
     replace hT := hT.trans s_5 (by simp <;> omega)
     refine Sch.nil (run_inBlock (run_pl [yy 0, yy 1, yy 2] ?_))
     refine yM 35 9 ?_
     refine yV (kq 36 (.binOp .sub 3 (.tmp 35) (.const (.int .i64 1)) 3)) (fun _ => val_subi rfl rfl (by omega) (by omega)) ?_
     refine yA 9 36 ?_
     refine Sch.nil ?_
     try simp only [show ((q : Int) - 1).toNat = q - 1 from by omega, Int.toNat_natCast] at ho
     replace hF := (((hF.st s_2).st s_3).st s_4).st s_5
     refine kp (sr 0 (sr 1 (sr 2 (sr 3 (sr 8 (sub_cons 9 rfl (eq_int (by simp only; omega)) (sub_nil _))))))) (next2 (q - 1, ((zs.set q (zs[q - 1]'(by omega))).set (q - 1) (zs[q]'(by omega))), (swF σ q (q - 1))) _ ⟨(hPL.swap (by omega) (by omega) rfl rfl), (hI.step (by omega) hord), hF, hT, ho⟩ (by first | omega | (simp only; omega)))
    show SchQ _ _ _ _ _ [nn 13] _ _
    refine oNA (kq 50 (.load 58 (.tmp 49))) rfl rfl hR.ext ho hg49 (by first | omega | (simp only [List.length_set]; omega)) (by kernel_rfl) (by kernel_rfl) rfl rfl ?_
    intro v50 g50
    try simp only [Int.toNat_natCast] at g50
    refine tr_next hR.ext ?_
    refine tr_run ?_
    show SchQ _ _ _ _ _ [nn 9, yy 14, nn 15, yy 16, nn 17] _ _
    refine oNA (kq 46 (.load 58 (.tmp 45))) rfl rfl hR.ext ho hg45 (by first | omega | (simp only [List.length_set]; omega)) (by kernel_rfl) (by kernel_rfl) rfl rfl ?_
    intro v46 g46
    try simp only [Int.toNat_natCast] at g46
    have eq1 : ((q : Int) - 1).toNat = q - 1 := by omega
    simp only [eq1] at g46
    refine oR 58 51 23 37 38 ho rfl (by first | omega | (simp only [List.length_set]; omega)) (h := ?_)
    intro g51 hg51
    try simp only [Int.toNat_natCast]
    refine aN (k0 (.store 58 (.tmp 51) (.tmp 46))) rfl (a_storeO ho hg51 (by first | omega | (simp only [List.length_set]; omega)) rfl rfl (by kernel_rfl) g46) ?_
    rintro _ w8 ⟨rfl, s_6, ho⟩
    refine ⟨(hR.trans s_6 (by simp)).ext, ?_⟩
    replace hT := ((hT.t s_1).t s_2).t s_3
    replace hT := hT.trans s_6 (by simp <;> omega)
    replace hR := hR.trans s_6 (by simp <;> omega)
    refine oR 58 52 23 39 41 ho rfl (by first | omega | (simp only [List.length_set]; omega)) (h := ?_)
    intro g52 hg52
    try simp only [Int.toNat_natCast]
    refine Sch.free rfl ?_
    replace g50 := g50.t s_6
    refine aU (k0 (.store 58 (.tmp 52) (.tmp 50))) rfl (a_storeO ho hg52 (by first | omega | (simp only [List.length_set]; omega)) rfl rfl (by kernel_rfl) g50) ?_
    rintro _ w9 ⟨rfl, s_7, ho⟩
    replace hT := hT.trans s_7 (by simp <;> omega)
    refine Sch.nil (run_inBlock (run_pl [yy 0, yy 1, yy 2] ?_))
    refine yM 35 9 ?_
    refine yV (kq 36 (.binOp .sub 3 (.tmp 35) (.const (.int .i64 1)) 3)) (fun _ => val_subi rfl rfl (by omega) (by omega)) ?_
    refine yA 9 36 ?_
    refine Sch.nil ?_
    try simp only [show ((q : Int) - 1).toNat = q - 1 from by omega, Int.toNat_natCast] at ho
    replace hF := (((hF.st s_2).st s_3).st s_6).st s_7
    refine kp (sr 0 (sr 1 (sr 2 (sr 3 (sr 8 (sub_cons 9 rfl (eq_int (by simp only; omega)) (sub_nil _))))))) (next2 (q - 1, ((zs.set q (zs[q - 1]'(by omega))).set (q - 1) (zs[q]'(by omega))), (swF σ q (q - 1))) _ ⟨(hPL.swap (by omega) (by omega) rfl rfl), (hI.step (by omega) hord), hF, hT, ho⟩ (by first | omega | (simp only; omega)))
   have hord : q = a ∨ ¬ ordT cmpW ys i (σ (q - 1)) := .inr (fun e => h34 ((hI.ord cmpW_3 (fun x _ => trivial) hPL (by omega) hil (by omega) (by omega)).1 e))
   refine run_ex 2 ?_
   refine run_inBlock (run_pl [yy 0, yy 1, yy 2] ?_)
   skip
   refine yM 15 8 ?_
   refine yI 16 3 15 1 ?_
   refine yA 8 16 ?_
   refine Sch.nil ?_
   have hord2 : q = a ∨ ¬ ordT cmpW ys i (σ (q - 1)) := hord
   obtain ⟨hw2, ha2⟩ := hI.done cmpW_3 (fun x _ => trivial) hil hord2
   replace hT := (hT.t s_1).t s_2; replace hF := hF.st s_2; replace ho := ho.t s_2
   refine kp (sr 0 (sr 1 (sr 2 (sr 3 (sub_cons 8 rfl (eq_int (by simp)) (sub_nil _)))))) (next1 (i + 1, zs, σ) _ ⟨(by first | omega | (simp only; omega)), (by first | omega | (simp only; omega)), (by first | omega | (simp only; omega)), hw2, ha2, hF, hT, ho⟩ (by first | omega | (simp only; omega)))
  refine run_draw (id := 4) (ops := F219.o4) [] (C) [yy 0, yy 1, yy 2, yy 3, yy 4, yy 5, yy 6, yy 7, yy 8, yy 9, yy 10, yy 11, yy 12, yy 13, nn 14, yy 15, yy 16] Tryz_mixed (by kernel_rfl) (by kernel_rfl) (by kernel_rfl) ?_
  intro w10 s_8
  have hR := Stp.refl [] w10 (C)
  refine yM 18 9 ?_
  refine yM 19 1 ?_
  refine yV (kq 20 (.binOp .gtr 3 (.tmp 18) (.tmp 19) 3)) (fun _ => val_F (val_gtr rfl rfl) hA) ?_
  refine yM 21 20 ?_
  refine pX 22 3 true ?_
  refine pX 23 3 true ?_
  refine pX 24 3 true ?_
  refine pX 25 3 true ?_
  refine pX 26 3 true ?_
  refine pX 27 3 true ?_
  refine pX 28 3 true ?_
  refine pX 29 3 true ?_
  refine pX 30 3 true ?_
  refine pX 31 3 true ?_
  refine pW (kg 32 (.call { callee := .value (.tmp 22), args := #[(.tmp 26), (.tmp 31)], argTypes := #[58, 58] }) 3 true) rfl rfl hR.ext ?_
  refine pX 33 3 true ?_
  refine yAf 34 21 33 ?_
  refine Sch.nil (run_cF 34 (run_ex 2 ?_))
  refine run_inBlock (run_pl [yy 0, yy 1, yy 2] ?_)
  skip
  refine yM 15 8 ?_
  refine yI 16 3 15 1 ?_
  refine yA 8 16 ?_
  refine Sch.nil ?_
  have hord2 : q = a ∨ ¬ ordT cmpW ys i (σ (q - 1)) := .inl (by omega)
  obtain ⟨hw2, ha2⟩ := hI.done cmpW_3 (fun x _ => trivial) hil hord2
  replace hF := hF.st s_8; replace hT := hT.t s_8; replace ho := ho.t s_8
  refine kp (sr 0 (sr 1 (sr 2 (sr 3 (sub_cons 8 rfl (eq_int (by simp)) (sub_nil _)))))) (next1 (i + 1, zs, σ) _ ⟨(by first | omega | (simp only; omega)), (by first | omega | (simp only; omega)), (by first | omega | (simp only; omega)), hw2, ha2, hF, hT, ho⟩ (by first | omega | (simp only; omega)))
 have hib : b ≤ i := by omega
 refine run_ex 0 ?_
 refine run_end0 Tryz.func219 rfl ?_
 refine ⟨rfl, zs, σ, hPL, ?_, ?_, hT, ho, hF⟩
 · by_cases e : i = a + 1
   · subst e; exact hWi.thin hab
   rw [show b = i by omega]; exact hWi
 exact fun p q h1 h2 h3 => hAs p q h1 h2 (by omega)
theorem halfN {i j : Nat} (h1 : (i : Int) ≤ 4611686018427387904) (h2 : (j : Int) ≤ 4611686018427387904) : IntKind.i64.wrap ((IntKind.u64.wrap ((i : Int) + j)).fdiv (2 ^ min (1 : Int).toNat IntKind.u64.bits)) = (((i + j) / 2 : Nat) : Int) := by
  rw [wrap_u64 (by omega) (by omega), show min (1 : Int).toNat IntKind.u64.bits = 1 from by decide, show (2 : Int) ^ 1 = 2 from rfl, Int.fdiv_eq_ediv_of_nonneg _ (by decide), wrap_i64 (by omega) (by omega)]
  omega
namespace F265
def c0 := bodyOf Tryz.f265
def c11 := (cl (cr (cl (cl (cr c0)))))
def o3 := rops (cl c11)
end F265
theorem swapRWL_ok {w₀ : World} {C : Nat → Nat} {j a b n : Nat} {v : Value} {zs : List Bond} (hF : Lim w₀ C) (hj : j ≠ 0) (ho : OwnL w₀ C j 58 v zs) (hlen : zs.length ≤ 140737488355328) (h1 : a + n ≤ b) (h2 : b + n ≤ zs.length) : Calls Tryz.prog 265 #[v, .int .i64 a, .int .i64 b, .int .i64 n, .func (.func 133) #[] #[]] w₀ (Ret fun u w' => u = .tuple #[] ∧ ∃ us, PL zs (swR a b n) us ∧ Stp [j] w₀ C w' C ∧ OwnL w' C j 58 v us ∧ Lim w' C) := by
 have hT := Stp.refl [j] w₀ C
 refine c_st F265.c0 38 [v, .int .i64 a, .int .i64 b, .int .i64 n, .func (.func 133) #[] #[]] Tryz.func265 ?_
 show Run _ _ _ _ [(0, v), (1, .int .i64 a), (2, .int .i64 b), (3, .int .i64 n), (4, .func (.func 133) #[] #[])] _ _
 refine run_sq (run_pl [yy 0] ?_)
 refine yAc 10 (.int .i64 0) ?_
 refine Sch.nil (run_bk 0 ?_)
 refine run_lp (ι := Nat × (List Bond)) (I := fun x w => x.1 ≤ n ∧ PL zs (swR a b x.1) x.2 ∧ Lim w C ∧ Stp [j] w₀ C w C ∧ OwnL w C j 58 v x.2) (e := fun x => [(0, v), (1, .int .i64 a), (2, .int .i64 b), (3, .int .i64 n), (4, .func (.func 133) #[] #[]), (10, .int .i64 x.1)]) (m := fun x => n - x.1) (x₀ := (0, zs)) (sr 0 (sr 1 (sr 2 (sr 3 (sr 4 (sr 10 (sub_nil _))))))) ?_ ?_
 · exact ⟨Nat.zero_le _, (PL.id zs).congr fun x => swR_zero.symm, hF, hT, ho⟩
 intro ⟨k, us⟩ w1 hI next1
 obtain ⟨hk, hPL, hF, hT, ho⟩ := hI
 try simp only at hk hPL hF hT ho
 show Run _ _ _ _ [(0, v), (1, .int .i64 a), (2, .int .i64 b), (3, .int .i64 n), (4, .func (.func 133) #[] #[]), (10, .int .i64 k)] _ _
 have hul := hPL.len
 refine run_sq (run_sq (run_pl [yy 0, yy 1, yy 2] ?_))
 refine yM 11 10 ?_
 refine yM 12 3 ?_
 refine yL 13 3 11 12 ?_
 refine Sch.nil ?_
 refine run_i 13 rfl (fun h13 => ?_) (fun h13 => ?_)
 ·
  have hkn : k < n := by omega
  refine run_sk (run_sq (run_bk 1 ?_))
  refine run_tree (id := 3) (ops := F265.o3) [j] (C) 23 (.fork [0, 1, 2, 3, 4, 5, 6, 7, 8, 9, 10, 11, 12, 14, 15, 16, 17, 18] 13 (.run [nn 19, yy 20, nn 21, yy 22, nn 23]) 19 (.run [nn 13, yy 20, nn 21, yy 22, nn 23])) Tryz_mixed (by kernel_rfl) (by kernel_rfl) (by kernel_rfl) ?_
  intro w2 s_1
  have hR := Stp.refl [j] w2 (C)
  refine tr_fork ?_
  show SchQ _ _ _ _ _ [yy 0, yy 1, yy 2, yy 3, yy 4, yy 5, yy 6, yy 7, yy 8, yy 9, yy 10, yy 11, yy 12, yy 14, yy 15, yy 16, yy 17, yy 18] _ _
  refine yM 16 0 ?_
  refine yM 17 1 ?_
  refine yM 18 10 ?_
  refine yV (kq 19 (.binOp .add 3 (.tmp 17) (.tmp 18) 3)) (fun _ => val_is (val_addi rfl rfl (by omega) (by omega)) (congrArg (Value.int .i64) (show ((a : Int) + (k : Int) : Int) = ((a + k : Nat) : Int) from by omega))) ?_
  refine yM 20 0 ?_
  refine yM 21 2 ?_
  refine yM 22 10 ?_
  refine yV (kq 23 (.binOp .add 3 (.tmp 21) (.tmp 22) 3)) (fun _ => val_is (val_addi rfl rfl (by omega) (by omega)) (congrArg (Value.int .i64) (show ((b : Int) + (k : Int) : Int) = ((b + k : Nat) : Int) from by omega))) ?_
  refine yM 24 0 ?_
  refine yM 25 2 ?_
  refine yM 26 10 ?_
  refine yV (kq 27 (.binOp .add 3 (.tmp 25) (.tmp 26) 3)) (fun _ => val_is (val_addi rfl rfl (by omega) (by omega)) (congrArg (Value.int .i64) (show ((b : Int) + (k : Int) : Int) = ((b + k : Nat) : Int) from by omega))) ?_
  replace ho := ho.t s_1
  refine oR 58 28 23 24 27 ho rfl (by first | omega | (simp only [List.length_set]; omega)) (h := ?_)
  intro g28 hg28
  try simp only [Int.toNat_natCast]
  refine yM 30 0 ?_
  refine yM 31 1 ?_
  refine yM 32 10 ?_
  refine yV (kq 33 (.binOp .add 3 (.tmp 31) (.tmp 32) 3)) (fun _ => val_is (val_addi rfl rfl (by omega) (by omega)) (congrArg (Value.int .i64) (show ((a : Int) + (k : Int) : Int) = ((a + k : Nat) : Int) from by omega))) ?_
  refine oR 58 34 23 30 33 ho rfl (by first | omega | (simp only [List.length_set]; omega)) (h := ?_)
  intro g34 hg34
  try simp only [Int.toNat_natCast]
  refine tr_do2 ?_ ?_
  ·
   show SchQ _ _ _ _ _ [nn 13] _ _
   refine oNA (kq 29 (.load 58 (.tmp 28))) rfl rfl hR.ext ho hg28 (by first | omega | (simp only [List.length_set]; omega)) (by kernel_rfl) (by kernel_rfl) rfl rfl ?_
   intro v29 g29
   try simp only [Int.toNat_natCast] at g29
   refine tr_next hR.ext ?_
   refine tr_run ?_
   show SchQ _ _ _ _ _ [nn 19, yy 20, nn 21, yy 22, nn 23] _ _
   refine oNA (kq 35 (.load 58 (.tmp 34))) rfl rfl hR.ext ho hg34 (by first | omega | (simp only [List.length_set]; omega)) (by kernel_rfl) (by kernel_rfl) rfl rfl ?_
   intro v35 g35
   try simp only [Int.toNat_natCast] at g35
   refine oR 58 36 23 16 19 ho rfl (by first | omega | (simp only [List.length_set]; omega)) (h := ?_)
   intro g36 hg36
   try simp only [Int.toNat_natCast]
   refine aN (k0 (.store 58 (.tmp 36) (.tmp 29))) rfl (a_storeO ho hg36 (by first | omega | (simp only [List.length_set]; omega)) rfl rfl (by kernel_rfl) g29) ?_
   rintro _ w3 ⟨rfl, s_2, ho⟩
   refine ⟨(hR.trans s_2 (by simp)).ext, ?_⟩
   replace hT := hT.t s_1
   replace hT := hT.trans s_2 (by simp <;> omega)
   replace hR := hR.trans s_2 (by simp <;> omega)
   refine oR 58 37 23 20 23 ho rfl (by first | omega | (simp only [List.length_set]; omega)) (h := ?_)
   intro g37 hg37
   try simp only [Int.toNat_natCast]
   refine Sch.free rfl ?_
   replace g35 := g35.t s_2
   refine aU (k0 (.store 58 (.tmp 37) (.tmp 35))) rfl (a_storeO ho hg37 (by first | omega | (simp only [List.length_set]; omega)) rfl rfl (by kernel_rfl) g35) ?_
   rintro _ w4 ⟨rfl, s_3, ho⟩
   replace hT := hT.trans s_3 (by simp <;> omega)
   refine Sch.nil (run_inBlock (run_pl [yy 0, yy 1, yy 2] ?_))
   refine yM 14 10 ?_
   refine yI 15 3 14 1 ?_
   refine yA 10 15 ?_
   refine Sch.nil ?_
   replace hF := ((hF.st s_1).st s_2).st s_3
   refine kp (sr 0 (sr 1 (sr 2 (sr 3 (sr 4 (sub_cons 10 rfl (eq_int (by simp)) (sub_nil _))))))) (next1 (k + 1, ((us.set (a + k) (us[b + k]'(by omega))).set (b + k) (us[a + k]'(by omega)))) _ ⟨(by first | omega | (simp only; omega)), ((hPL.swap (by omega) (by omega) rfl rfl).congr fun x => swR_step (by omega)), hF, hT, ho⟩ (by first | omega | (simp only; omega)))
  show SchQ _ _ _ _ _ [nn 19] _ _
  refine oNA (kq 35 (.load 58 (.tmp 34))) rfl rfl hR.ext ho hg34 (by first | omega | (simp only [List.length_set]; omega)) (by kernel_rfl) (by kernel_rfl) rfl rfl ?_
  intro v35 g35
  try simp only [Int.toNat_natCast] at g35
  refine tr_next hR.ext ?_
  refine tr_run ?_
  show SchQ _ _ _ _ _ [nn 13, yy 20, nn 21, yy 22, nn 23] _ _
  refine oNA (kq 29 (.load 58 (.tmp 28))) rfl rfl hR.ext ho hg28 (by first | omega | (simp only [List.length_set]; omega)) (by kernel_rfl) (by kernel_rfl) rfl rfl ?_
  intro v29 g29
  try simp only [Int.toNat_natCast] at g29
  refine oR 58 36 23 16 19 ho rfl (by first | omega | (simp only [List.length_set]; omega)) (h := ?_)
  intro g36 hg36
  try simp only [Int.toNat_natCast]
  refine aN (k0 (.store 58 (.tmp 36) (.tmp 29))) rfl (a_storeO ho hg36 (by first | omega | (simp only [List.length_set]; omega)) rfl rfl (by kernel_rfl) g29) ?_
  rintro _ w5 ⟨rfl, s_4, ho⟩
  refine ⟨(hR.trans s_4 (by simp)).ext, ?_⟩
  replace hT := hT.t s_1
  replace hT := hT.trans s_4 (by simp <;> omega)
  replace hR := hR.trans s_4 (by simp <;> omega)
  refine oR 58 37 23 20 23 ho rfl (by first | omega | (simp only [List.length_set]; omega)) (h := ?_)
  intro g37 hg37
  try simp only [Int.toNat_natCast]
  refine Sch.free rfl ?_
  replace g35 := g35.t s_4
  refine aU (k0 (.store 58 (.tmp 37) (.tmp 35))) rfl (a_storeO ho hg37 (by first | omega | (simp only [List.length_set]; omega)) rfl rfl (by kernel_rfl) g35) ?_
  rintro _ w6 ⟨rfl, s_5, ho⟩
  replace hT := hT.trans s_5 (by simp <;> omega)
  refine Sch.nil (run_inBlock (run_pl [yy 0, yy 1, yy 2] ?_))
  refine yM 14 10 ?_
  refine yI 15 3 14 1 ?_
  refine yA 10 15 ?_
  refine Sch.nil ?_
  replace hF := ((hF.st s_1).st s_4).st s_5
  refine kp (sr 0 (sr 1 (sr 2 (sr 3 (sr 4 (sub_cons 10 rfl (eq_int (by simp)) (sub_nil _))))))) (next1 (k + 1, ((us.set (a + k) (us[b + k]'(by omega))).set (b + k) (us[a + k]'(by omega)))) _ ⟨(by first | omega | (simp only; omega)), ((hPL.swap (by omega) (by omega) rfl rfl).congr fun x => swR_step (by omega)), hF, hT, ho⟩ (by first | omega | (simp only; omega)))
 obtain rfl : n = k := by omega
 refine run_ex 0 ?_
 refine run_end0 Tryz.func265 rfl ?_
 exact ⟨rfl, us, hPL, hT, ho, hF⟩
namespace F252
def c0 := bodyOf Tryz.f252
end F252
theorem rotateWL_ok {w₀ : World} {C : Nat → Nat} {j a m b : Nat} {v : Value} {zs : List Bond} (hF : Lim w₀ C) (hj : j ≠ 0) (ho : OwnL w₀ C j 58 v zs) (hlen : zs.length ≤ 140737488355328) (hab : a < m) (hmb : m < b) (hbl : b ≤ zs.length) : Calls Tryz.prog 252 #[v, .int .i64 a, .int .i64 m, .int .i64 b, .func (.func 133) #[] #[]] w₀ (Ret fun u w' => u = .tuple #[] ∧ ∃ us, PL zs (ro a m b) us ∧ Stp [j] w₀ C w' C ∧ OwnL w' C j 58 v us ∧ Lim w' C) := by
 have hT := Stp.refl [j] w₀ C
 refine c_st F252.c0 58 [v, .int .i64 a, .int .i64 m, .int .i64 b, .func (.func 133) #[] #[]] Tryz.func252 ?_
 show Run _ _ _ _ [(0, v), (1, .int .i64 a), (2, .int .i64 m), (3, .int .i64 b), (4, .func (.func 133) #[] #[])] _ _
 refine run_sq (run_pl [yy 0, yy 1, yy 2, yy 3] ?_)
 refine yM 12 2 ?_
 refine yM 13 1 ?_
 refine yV (kq 14 (.binOp .sub 3 (.tmp 12) (.tmp 13) 3)) (fun _ => val_subi rfl rfl (by omega) (by omega)) ?_
 refine yA 10 14 ?_
 refine Sch.nil (run_sq (run_pl [yy 0, yy 1, yy 2, yy 3] ?_))
 refine yM 15 3 ?_
 refine yM 16 2 ?_
 refine yV (kq 17 (.binOp .sub 3 (.tmp 15) (.tmp 16) 3)) (fun _ => val_subi rfl rfl (by omega) (by omega)) ?_
 refine yA 11 17 ?_
 refine Sch.nil (run_sq (run_bk 0 ?_))
 refine run_lp (ι := Nat × Nat × (List Bond)) (I := fun x w => RotI zs x.2.2 a m b x.1 x.2.1 ∧ Lim w C ∧ Stp [j] w₀ C w C ∧ OwnL w C j 58 v x.2.2) (e := fun x => [(0, v), (1, .int .i64 a), (2, .int .i64 m), (3, .int .i64 b), (4, .func (.func 133) #[] #[]), (10, .int .i64 x.1), (11, .int .i64 x.2.1)]) (m := fun x => x.1 + x.2.1) (x₀ := (m - a, b - m, zs)) (sr 0 (sr 1 (sr 2 (sr 3 (sr 4 (sub_cons 10 rfl (eq_int (by simp only; omega)) (sub_cons 11 rfl (eq_int (by simp only; omega)) (sub_nil _)))))))) ?_ ?_
 · exact ⟨RotI.start hab hmb, hF, hT, ho⟩
 intro ⟨p, q, us⟩ w1 hI next1
 obtain ⟨hI, hF, hT, ho⟩ := hI
 try simp only at hI hF hT ho
 show Run _ _ _ _ [(0, v), (1, .int .i64 a), (2, .int .i64 m), (3, .int .i64 b), (4, .func (.func 133) #[] #[]), (10, .int .i64 p), (11, .int .i64 q)] _ _
 have hb1 := hI.b1
 have hb2 := hI.b2
 have hul : us.length = zs.length := let ⟨_, h, _⟩ := hI.ex; h.len
 refine run_sq (run_sq (run_pl [yy 0, yy 1, yy 2] ?_))
 refine yM 18 10 ?_
 refine yM 19 11 ?_
 refine yV (kq 20 (.binOp .neq 3 (.tmp 18) (.tmp 19) 3)) (fun _ => val_neq rfl rfl) ?_
 refine Sch.nil ?_
 refine run_i 20 rfl (fun h20 => ?_) (fun h20 => ?_)
 ·
  refine run_sk (run_bk 1 (run_sq (run_pl [yy 0, yy 1, yy 2] ?_)))
  refine yM 21 10 ?_
  refine yM 22 11 ?_
  refine yV (kq 23 (.binOp .gtr 3 (.tmp 21) (.tmp 22) 3)) (fun _ => val_gtr rfl rfl) ?_
  refine Sch.nil ?_
  refine run_i 23 rfl (fun h23 => ?_) (fun h23 => ?_)
  ·
   have hpq : q < p := by omega
   refine run_sq (run_pl [yy 0, yy 1, yy 2, yy 3, yy 4, yy 5, yy 6, nn 7] ?_)
   refine yM 24 0 ?_
   refine yM 25 2 ?_
   refine yM 26 10 ?_
   refine yV (kq 27 (.binOp .sub 3 (.tmp 25) (.tmp 26) 3)) (fun _ => val_is (val_subi rfl rfl (by omega) (by omega)) (congrArg (Value.int .i64) (show ((m : Int) - (p : Int) : Int) = ((m - p : Nat) : Int) from by omega))) ?_
   refine yM 28 2 ?_
   refine yM 29 11 ?_
   refine yM 30 4 ?_
   refine cG 31 265 [24, 27, 28, 29, 30] [23, 3, 3, 3, 188] Tryz.call265 rfl (swapRWL_ok (a := m - p) (b := m) (n := q) hF hj ho (by omega) (by omega) (by omega)) ?_
   rintro vw2 w2 ⟨rfl, vs, hv, s_1, ho, hF⟩
   replace hT := hT.trans s_1 (by simp <;> omega)
   refine Sch.nil (run_pl [yy 0, yy 1, yy 2, yy 3] ?_)
   refine yM 32 10 ?_
   refine yM 33 11 ?_
   refine yV (kq 34 (.binOp .sub 3 (.tmp 32) (.tmp 33) 3)) (fun _ => val_is (val_subi rfl rfl (by omega) (by omega)) (congrArg (Value.int .i64) (show ((p : Int) - (q : Int) : Int) = ((p - q : Nat) : Int) from by omega))) ?_
   refine yA 10 34 ?_
   refine Sch.nil (run_inBlock ?_)
   refine kp (sr 0 (sr 1 (sr 2 (sr 3 (sr 4 (sr 10 (sr 11 (sub_nil _)))))))) (next1 (p - q, q, vs) _ ⟨(hI.more hpq hv), hF, hT, ho⟩ (by first | omega | (simp only; omega)))
  have hpq : p < q := by omega
  refine run_sq (run_pl [yy 0, yy 1, yy 2, yy 3, yy 4, yy 5, yy 6, yy 7, yy 8, yy 9, yy 10, nn 11] ?_)
  refine yM 35 0 ?_
  refine yM 36 2 ?_
  refine yM 37 10 ?_
  refine yV (kq 38 (.binOp .sub 3 (.tmp 36) (.tmp 37) 3)) (fun _ => val_is (val_subi rfl rfl (by omega) (by omega)) (congrArg (Value.int .i64) (show ((m : Int) - (p : Int) : Int) = ((m - p : Nat) : Int) from by omega))) ?_
  refine yM 39 2 ?_
  refine yM 40 11 ?_
  refine yV (kq 41 (.binOp .add 3 (.tmp 39) (.tmp 40) 3)) (fun _ => val_is (val_addi rfl rfl (by omega) (by omega)) (congrArg (Value.int .i64) (show ((m : Int) + (q : Int) : Int) = ((m + q : Nat) : Int) from by omega))) ?_
  refine yM 42 10 ?_
  refine yV (kq 43 (.binOp .sub 3 (.tmp 41) (.tmp 42) 3)) (fun _ => val_is (val_subi rfl rfl (by omega) (by omega)) (congrArg (Value.int .i64) (show (((m + q : Nat) : Int) - (p : Int) : Int) = ((m + q - p : Nat) : Int) from by omega))) ?_
  refine yM 44 10 ?_
  refine yM 45 4 ?_
  refine cG 46 265 [35, 38, 43, 44, 45] [23, 3, 3, 3, 188] Tryz.call265 rfl (swapRWL_ok (a := m - p) (b := m + q - p) (n := p) hF hj ho (by omega) (by omega) (by omega)) ?_
  rintro vw3 w3 ⟨rfl, vs, hv, s_2, ho, hF⟩
  replace hT := hT.trans s_2 (by simp <;> omega)
  refine Sch.nil (run_pl [yy 0, yy 1, yy 2, yy 3] ?_)
  refine yM 47 11 ?_
  refine yM 48 10 ?_
  refine yV (kq 49 (.binOp .sub 3 (.tmp 47) (.tmp 48) 3)) (fun _ => val_is (val_subi rfl rfl (by omega) (by omega)) (congrArg (Value.int .i64) (show ((q : Int) - (p : Int) : Int) = ((q - p : Nat) : Int) from by omega))) ?_
  refine yA 11 49 ?_
  refine Sch.nil (run_inBlock ?_)
  refine kp (sr 0 (sr 1 (sr 2 (sr 3 (sr 4 (sr 10 (sr 11 (sub_nil _)))))))) (next1 (p, q - p, vs) _ ⟨(hI.less hpq hv), hF, hT, ho⟩ (by first | omega | (simp only; omega)))
 have hpq : q = p := by omega
 subst hpq
 refine run_ex 0 ?_
 refine run_pl [yy 0, yy 1, yy 2, yy 3, yy 4, yy 5, yy 6, nn 7] ?_
 refine yM 50 0 ?_
 refine yM 51 2 ?_
 refine yM 52 10 ?_
 refine yV (kq 53 (.binOp .sub 3 (.tmp 51) (.tmp 52) 3)) (fun _ => val_is (val_subi rfl rfl (by omega) (by omega)) (congrArg (Value.int .i64) (show ((m : Int) - (q : Int) : Int) = ((m - q : Nat) : Int) from by omega))) ?_
 refine yM 54 2 ?_
 refine yM 55 10 ?_
 refine yM 56 4 ?_
 refine cG 57 265 [50, 53, 54, 55, 56] [23, 3, 3, 3, 188] Tryz.call265 rfl (swapRWL_ok (a := m - q) (b := m) (n := q) hF hj ho (by omega) (by omega) (by omega)) ?_
 rintro vw4 w4 ⟨rfl, vs, hv, s_3, ho, hF⟩
 replace hT := hT.trans s_3 (by simp <;> omega)
 refine Sch.nil ?_
 refine run_end0 Tryz.func252 rfl ?_
 exact ⟨rfl, vs, hI.done hv, hT, ho, hF⟩
namespace F220
def c0 := bodyOf Tryz.f220
def c8 := (cr (cr (cl (cr (cl c0)))))
def c18 := (cl (cr (cl (cl (cl c8)))))
def o5 := rops (cl (cr c18))
def c30 := (cl (cl (cr (cl (cr c8)))))
def o11 := rops (cl (cl (cr c30)))
def c48 := (cr (cl (cr (cl (cr c0)))))
def c59 := (cr (cl (cl (cl (cr c48)))))
def o17 := rops (cl (cr (cl c59)))
def c71 := (cl (cr (cl (cr (cr c48)))))
def o23 := rops (cl (cl (cr (cl c71))))
def c90 := (cr (cr (cr (cr (cr c0)))))
def c105 := (cl (cl (cl (cr (cr c90)))))
def o35 := rops (cl (cr (cl (cr c105))))
def c127 := (cr (cr (cr (cr (cr c90)))))
end F220
theorem symMWL_ok {j : Nat} {v : Value} {ys : List Bond} (hP : ∀ x ∈ ys, (fun _ => True) x) (hj : j ≠ 0) : ∀ (N a m b : Nat) (w₀ : World) (C : Nat → Nat) (zs : List Bond) (σ : Nat → Nat), b - a ≤ N → SymP cmpW ys σ a m b → PL ys σ zs → Lim w₀ C → OwnL w₀ C j 58 v zs → zs.length ≤ 140737488355328 →
    Calls Tryz.prog 220 #[v, .int .i64 a, .int .i64 m, .int .i64 b, .func (.func 133) #[] #[]] w₀ (Ret fun u w' => u = .tuple #[] ∧ ∃ us τ, SymQ cmpW ys σ a b us τ ∧ Stp [j] w₀ C w' C ∧ OwnL w' C j 58 v us ∧ Lim w' C) := by
 intro N
 induction N using Nat.strongRecOn
 rename_i N ih
 intro a m b w₀ C zs σ hN hSy hPL hF ho hlen
 replace ih := fun n (hn : n < b - a) => ih n (by omega)
 have htr := ordT_tr cmpW_3 hP
 have hT := Stp.refl [j] w₀ C
 have hul := hPL.len
 have hyl := hSy.lt
 refine c_st F220.c0 220 [v, .int .i64 a, .int .i64 m, .int .i64 b, .func (.func 133) #[] #[]] Tryz.func220 ?_
 show Run _ _ _ _ [(0, v), (1, .int .i64 a), (2, .int .i64 m), (3, .int .i64 b), (4, .func (.func 133) #[] #[])] _ _
 refine run_sq (run_sq (run_pl [yy 0, yy 1, yy 2, yy 3] ?_))
 refine yM 25 2 ?_
 refine yM 26 1 ?_
 refine yV (kq 27 (.binOp .sub 3 (.tmp 25) (.tmp 26) 3)) (fun _ => val_subi rfl rfl (by omega) (by omega)) ?_
 refine yV (kq 28 (.binOp .eql 3 (.tmp 27) (.const (.int .i64 1)) 3)) (fun _ => val_eql rfl rfl) ?_
 refine Sch.nil ?_
 refine run_i 28 rfl (fun h28 => ?_) (fun h28 => ?_)
 ·
  have hm1 : m = a + 1 := by omega
  refine run_sq (run_pl [yy 0, yy 1] ?_)
  refine yM 29 2 ?_
  refine yA 10 29 ?_
  refine Sch.nil (run_sq (run_pl [yy 0, yy 1] ?_))
  refine yM 30 3 ?_
  refine yA 11 30 ?_
  refine Sch.nil (run_sq (run_bk 0 ?_))
  refine run_lp (ι := Nat × Nat) (I := fun x w => B1 (ordT cmpW ys) σ a m b x.1 x.2 ∧ Lim w C ∧ Stp [j] w₀ C w C ∧ OwnL w C j 58 v zs) (e := fun x => [(0, v), (1, .int .i64 a), (2, .int .i64 m), (3, .int .i64 b), (4, .func (.func 133) #[] #[]), (10, .int .i64 x.1), (11, .int .i64 x.2)]) (m := fun x => x.2 - x.1) (x₀ := (m, b)) (sr 0 (sr 1 (sr 2 (sr 3 (sr 4 (sr 10 (sr 11 (sub_nil _)))))))) ?_ ?_
  · exact ⟨B1.start (by omega), hF, hT, ho⟩
  intro ⟨i, q⟩ w1 hI next1
  obtain ⟨hB, hF, hT, ho⟩ := hI
  try simp only at hB hF hT ho
  show Run _ _ _ _ [(0, v), (1, .int .i64 a), (2, .int .i64 m), (3, .int .i64 b), (4, .func (.func 133) #[] #[]), (10, .int .i64 i), (11, .int .i64 q)] _ _
  have hbl := hB.le
  refine run_sq (run_sq (run_pl [yy 0, yy 1, yy 2] ?_))
  refine yM 31 10 ?_
  refine yM 32 11 ?_
  refine yL 33 3 31 32 ?_
  refine Sch.nil ?_
  refine run_i 33 rfl (fun h33 => ?_) (fun h33 => ?_)
  ·
   have hiq : i < q := by omega
   refine run_sk (run_bk 1 (run_sq (run_pl [yy 0, yy 1, yy 2, yy 3, yy 4, yy 5, yy 6] ?_)))
   refine yM 34 10 ?_
   refine yM 35 11 ?_
   refine yV (kq 36 (.binOp .add 3 (.tmp 34) (.tmp 35) 3)) (fun _ => val_addi rfl rfl (by omega) (by omega)) ?_
   refine yV (kq 37 (.convert 3 112 (.tmp 36))) (fun _ => val_conv_int rfl ⟨_, Tryz.underlying3⟩ Tryz.underlying112) ?_
   refine yV (kq 38 (.binOp .shr 112 (.tmp 37) (.const (.int .u64 1)) 112)) (fun _ => val_shr rfl rfl (by omega)) ?_
   refine yV (kq 39 (.convert 112 3 (.tmp 38))) (fun _ => val_convE rfl ⟨_, Tryz.underlying112⟩ Tryz.underlying3 (halfN (i := i) (j := q) (by omega) (by omega))) ?_
   refine yA 12 39 ?_
   refine Sch.nil ?_
   obtain ⟨k, hk⟩ : ∃ k, k = (i + q) / 2 := ⟨_, rfl⟩
   rw [← hk]
   have hkl : k < zs.length := by omega
   refine run_sq ?_
   refine run_draw (id := 5) (ops := F220.o5) [] (C) [yy 0, yy 1, yy 2, yy 3, yy 4, yy 5, yy 6, yy 7, yy 8, nn 9, yy 10] Tryz_mixed (by kernel_rfl) (by kernel_rfl) (by kernel_rfl) ?_
   intro w2 s_1
   have hR := Stp.refl [] w2 (C)
   refine yM 40 4 ?_
   refine yM 41 0 ?_
   refine yM 42 12 ?_
   replace ho := ho.t s_1
   refine oR 58 43 23 41 42 ho rfl (by first | omega | (simp only [List.length_set]; omega)) (h := ?_)
   intro g43 hg43
   try simp only [Int.toNat_natCast]
   refine oSA (I := []) (kq 44 (.load 58 (.tmp 43))) rfl rfl ho hg43 (fun w' hS => ho.sy hg43 hS) (by first | omega | (simp only [List.length_set]; omega)) (by kernel_rfl) (by kernel_rfl) rfl rfl ?_
   intro v44 g44
   try simp only [Int.toNat_natCast] at g44
   obtain rfl := rv_bond.1 g44
   refine yM 45 0 ?_
   refine yM 46 1 ?_
   refine oR 58 47 23 45 46 ho rfl (by first | omega | (simp only [List.length_set]; omega)) (h := ?_)
   intro g47 hg47
   try simp only [Int.toNat_natCast]
   refine oSA (I := []) (kq 48 (.load 58 (.tmp 47))) rfl rfl ho hg47 (fun w' hS => ho.sy hg47 hS) (by first | omega | (simp only [List.length_set]; omega)) (by kernel_rfl) (by kernel_rfl) rfl rfl ?_
   intro v48 g48
   try simp only [Int.toNat_natCast] at g48
   obtain rfl := rv_bond.1 g48
   replace hF := hF.st s_1
   refine cS (kq 49 (.call { callee := .value (.tmp 40), args := #[(.tmp 44), (.tmp 48)], argTypes := #[58, 58] })) rfl rfl (enters_func (fun args w => Tryz.call133 args w) rfl rfl) (weighs_ok hF) ?_
   rintro vw3 w3 ⟨rfl, s_2⟩
   refine ⟨(hR.trans s_2 (by simp)).ext, ?_⟩
   refine yV (kq 50 (.binOp .lss 3 (.tmp 49) (.const (.int .i64 0)) 3)) (fun _ => val_lss rfl rfl) ?_
   refine Sch.nil ?_
   refine run_i 50 rfl (fun h50 => ?_) (fun h50 => ?_)
   ·
    have hord := hSy.yes hPL (p := a) (q := k) (by omega) (by omega) h50
    refine run_pl [yy 0, yy 1, yy 2] ?_
    refine yM 51 12 ?_
    refine yI 52 3 51 1 ?_
    refine yA 10 52 ?_
    refine Sch.nil (run_inBlock ?_)
    replace hT := (hT.t s_1).t s_2; replace hF := hF.st s_2; replace ho := ho.t s_2
    refine kp (sr 0 (sr 1 (sr 2 (sr 3 (sr 4 (sub_cons 10 rfl (eq_int (by simp)) (sr 11 (sub_nil _)))))))) (next1 (k + 1, q) _ ⟨(hB.up htr hSy.r (by omega) (by omega) hord), hF, hT, ho⟩ (by first | omega | (simp only; omega)))
   have hord := hSy.no hPL (p := a) (q := k) (by omega) (by omega) (by omega) (by omega) (by omega) (by omega) h50
   refine run_pl [yy 0, yy 1] ?_
   refine yM 53 12 ?_
   refine yA 11 53 ?_
   refine Sch.nil (run_inBlock ?_)
   replace hT := (hT.t s_1).t s_2; replace hF := hF.st s_2; replace ho := ho.t s_2
   refine kp (sr 0 (sr 1 (sr 2 (sr 3 (sr 4 (sr 10 (sr 11 (sub_nil _)))))))) (next1 (i, k) _ ⟨(hB.down htr hSy.r (by omega) (by omega) hord), hF, hT, ho⟩ (by first | omega | (simp only; omega)))
  have hiq : q = i := by omega
  subst hiq
  refine run_ex 0 ?_
  refine run_sq (run_sq (run_pl [yy 0, yy 1] ?_))
  refine yM 54 1 ?_
  refine yA 13 54 ?_
  refine Sch.nil (run_bk 2 ?_)
  refine run_lp (ι := Nat × (List Bond)) (I := fun x w => a ≤ x.1 ∧ x.1 ≤ q - 1 ∧ PL ys (fun t => σ (shU a x.1 t)) x.2 ∧ Lim w C ∧ Stp [j] w₀ C w C ∧ OwnL w C j 58 v x.2) (e := fun x => [(0, v), (1, .int .i64 a), (2, .int .i64 m), (3, .int .i64 b), (4, .func (.func 133) #[] #[]), (10, .int .i64 q), (13, .int .i64 x.1)]) (m := fun x => q - 1 - x.1) (x₀ := (a, zs)) (sr 0 (sr 1 (sr 2 (sr 3 (sr 4 (sr 10 (sr 13 (sub_nil _)))))))) ?_ ?_
  · exact ⟨Nat.le_refl _, by omega, hPL.congr fun x => by rw [shU_zero], hF, hT, ho⟩
  intro ⟨k, us⟩ w4 hI next2
  obtain ⟨hk, hk2, hPU, hF, hT, ho⟩ := hI
  try simp only at hk hk2 hPU hF hT ho
  show Run _ _ _ _ [(0, v), (1, .int .i64 a), (2, .int .i64 m), (3, .int .i64 b), (4, .func (.func 133) #[] #[]), (10, .int .i64 q), (13, .int .i64 k)] _ _
  have hul := hPU.len
  refine run_sq (run_sq (run_pl [yy 0, yy 1, yy 2, yy 3] ?_))
  refine yM 55 13 ?_
  refine yM 56 10 ?_
  refine yV (kq 57 (.binOp .sub 3 (.tmp 56) (.const (.int .i64 1)) 3)) (fun _ => val_subi rfl rfl (by omega) (by omega)) ?_
  refine yL 58 3 55 57 ?_
  refine Sch.nil ?_
  refine run_i 58 rfl (fun h58 => ?_) (fun h58 => ?_)
  ·
   have hkq : k < q - 1 := by omega
   refine run_sk (run_sq (run_bk 3 ?_))
   refine run_tree (id := 11) (ops := F220.o11) [j] (C) 17 (.fork [0, 1, 2, 3, 4, 5, 6, 7, 8, 10, 11, 12] 9 (.run [nn 13, yy 14, nn 15, yy 16, nn 17]) 13 (.run [nn 9, yy 14, nn 15, yy 16, nn 17])) Tryz_mixed (by kernel_rfl) (by kernel_rfl) (by kernel_rfl) ?_
   intro w5 s_3
   have hR := Stp.refl [j] w5 (C)
   refine tr_fork ?_
   show SchQ _ _ _ _ _ [yy 0, yy 1, yy 2, yy 3, yy 4, yy 5, yy 6, yy 7, yy 8, yy 10, yy 11, yy 12] _ _
   refine yM 61 0 ?_
   refine yM 62 13 ?_
   refine yM 63 0 ?_
   refine yM 64 13 ?_
   refine yV (kq 65 (.binOp .add 3 (.tmp 64) (.const (.int .i64 1)) 3)) (fun _ => val_is (val_addi rfl rfl (by omega) (by omega)) (congrArg (Value.int .i64) (show ((k : Int) + 1 : Int) = ((k + 1 : Nat) : Int) from by omega))) ?_
   refine yM 66 0 ?_
   refine yM 67 13 ?_
   refine yV (kq 68 (.binOp .add 3 (.tmp 67) (.const (.int .i64 1)) 3)) (fun _ => val_is (val_addi rfl rfl (by omega) (by omega)) (congrArg (Value.int .i64) (show ((k : Int) + 1 : Int) = ((k + 1 : Nat) : Int) from by omega))) ?_
   replace ho := ho.t s_3
   refine oR 58 69 23 66 68 ho rfl (by first | omega | (simp only [List.length_set]; omega)) (h := ?_)
   intro g69 hg69
   try simp only [Int.toNat_natCast]
   refine yM 71 0 ?_
   refine yM 72 13 ?_
   refine oR 58 73 23 71 72 ho rfl (by first | omega | (simp only [List.length_set]; omega)) (h := ?_)
   intro g73 hg73
   try simp only [Int.toNat_natCast]
   refine tr_do2 ?_ ?_
   ·
    show SchQ _ _ _ _ _ [nn 9] _ _
    refine oNA (kq 70 (.load 58 (.tmp 69))) rfl rfl hR.ext ho hg69 (by first | omega | (simp only [List.length_set]; omega)) (by kernel_rfl) (by kernel_rfl) rfl rfl ?_
    intro v70 g70
    try simp only [Int.toNat_natCast] at g70
    refine tr_next hR.ext ?_
    refine tr_run ?_
    show SchQ _ _ _ _ _ [nn 13, yy 14, nn 15, yy 16, nn 17] _ _
    refine oNA (kq 74 (.load 58 (.tmp 73))) rfl rfl hR.ext ho hg73 (by first | omega | (simp only [List.length_set]; omega)) (by kernel_rfl) (by kernel_rfl) rfl rfl ?_
    intro v74 g74
    try simp only [Int.toNat_natCast] at g74
    refine oR 58 75 23 61 62 ho rfl (by first | omega | (simp only [List.length_set]; omega)) (h := ?_)
    intro g75 hg75
    try simp only [Int.toNat_natCast]
    refine aN (k0 (.store 58 (.tmp 75) (.tmp 70))) rfl (a_storeO ho hg75 (by first | omega | (simp only [List.length_set]; omega)) rfl rfl (by kernel_rfl) g70) ?_
    rintro _ w6 ⟨rfl, s_4, ho⟩
    refine ⟨(hR.trans s_4 (by simp)).ext, ?_⟩
    replace hT := hT.t s_3
    replace hT := hT.trans s_4 (by simp <;> omega)
    replace hR := hR.trans s_4 (by simp <;> omega)
    refine oR 58 76 23 63 65 ho rfl (by first | omega | (simp only [List.length_set]; omega)) (h := ?_)
    intro g76 hg76
    try simp only [Int.toNat_natCast]
    refine Sch.free rfl ?_
    replace g74 := g74.t s_4
    refine aU (k0 (.store 58 (.tmp 76) (.tmp 74))) rfl (a_storeO ho hg76 (by first | omega | (simp only [List.length_set]; omega)) rfl rfl (by kernel_rfl) g74) ?_
    rintro _ w7 ⟨rfl, s_5, ho⟩
    replace hT := hT.trans s_5 (by simp <;> omega)
    refine Sch.nil (run_inBlock (run_pl [yy 0, yy 1, yy 2] ?_))
    refine yM 59 13 ?_
    refine yI 60 3 59 1 ?_
    refine yA 13 60 ?_
    refine Sch.nil ?_
    replace hF := ((hF.st s_3).st s_4).st s_5
    refine kp (sr 0 (sr 1 (sr 2 (sr 3 (sr 4 (sr 10 (sub_cons 13 rfl (eq_int (by simp)) (sub_nil _)))))))) (next2 (k + 1, ((us.set k (us[k + 1]'(by omega))).set (k + 1) (us[k]'(by omega)))) _ ⟨(by first | omega | (simp only; omega)), (by first | omega | (simp only; omega)), ((hPU.swap (by omega) (by omega) rfl rfl).congr fun x => shU_step (by omega)), hF, hT, ho⟩ (by first | omega | (simp only; omega)))
   show SchQ _ _ _ _ _ [nn 13] _ _
   refine oNA (kq 74 (.load 58 (.tmp 73))) rfl rfl hR.ext ho hg73 (by first | omega | (simp only [List.length_set]; omega)) (by kernel_rfl) (by kernel_rfl) rfl rfl ?_
   intro v74 g74
   try simp only [Int.toNat_natCast] at g74
   refine tr_next hR.ext ?_
   refine tr_run ?_
   show SchQ _ _ _ _ _ [nn 9, yy 14, nn 15, yy 16, nn 17] _ _
   refine oNA (kq 70 (.load 58 (.tmp 69))) rfl rfl hR.ext ho hg69 (by first | omega | (simp only [List.length_set]; omega)) (by kernel_rfl) (by kernel_rfl) rfl rfl ?_
   intro v70 g70
   try simp only [Int.toNat_natCast] at g70
   refine oR 58 75 23 61 62 ho rfl (by first | omega | (simp only [List.length_set]; omega)) (h := ?_)
   intro g75 hg75
   try simp only [Int.toNat_natCast]
   refine aN (k0 (.store 58 (.tmp 75) (.tmp 70))) rfl (a_storeO ho hg75 (by first | omega | (simp only [List.length_set]; omega)) rfl rfl (by kernel_rfl) g70) ?_
   rintro _ w8 ⟨rfl, s_6, ho⟩
   refine ⟨(hR.trans s_6 (by simp)).ext, ?_⟩
   replace hT := hT.t s_3
   replace hT := hT.trans s_6 (by simp <;> omega)
   replace hR := hR.trans s_6 (by simp <;> omega)
   refine oR 58 76 23 63 65 ho rfl (by first | omega | (simp only [List.length_set]; omega)) (h := ?_)
   intro g76 hg76
   try simp only [Int.toNat_natCast]
   refine Sch.free rfl ?_
   replace g74 := g74.t s_6
   refine aU (k0 (.store 58 (.tmp 76) (.tmp 74))) rfl (a_storeO ho hg76 (by first | omega | (simp only [List.length_set]; omega)) rfl rfl (by kernel_rfl) g74) ?_
   rintro _ w9 ⟨rfl, s_7, ho⟩
   replace hT := hT.trans s_7 (by simp <;> omega)
   refine Sch.nil (run_inBlock (run_pl [yy 0, yy 1, yy 2] ?_))
   refine yM 59 13 ?_
   refine yI 60 3 59 1 ?_
   refine yA 13 60 ?_
   refine Sch.nil ?_
   replace hF := ((hF.st s_3).st s_6).st s_7
   refine kp (sr 0 (sr 1 (sr 2 (sr 3 (sr 4 (sr 10 (sub_cons 13 rfl (eq_int (by simp)) (sub_nil _)))))))) (next2 (k + 1, ((us.set k (us[k + 1]'(by omega))).set (k + 1) (us[k]'(by omega)))) _ ⟨(by first | omega | (simp only; omega)), (by first | omega | (simp only; omega)), ((hPU.swap (by omega) (by omega) rfl rfl).congr fun x => shU_step (by omega)), hF, hT, ho⟩ (by first | omega | (simp only; omega)))
  have hkq : k = q - 1 := by omega
  subst hkq
  refine run_ex 2 ?_
  refine run_ret0 (by kernel_rfl) Tryz.func220 Tryz.results220 ?_
  exact ⟨rfl, us, _, ⟨hPU, shU_within (by omega) (by omega), hB.done hm1 hSy.r⟩, hT, ho, hF⟩
 have hm1 : m ≠ a + 1 := by omega
 refine run_sk (run_sq (run_sq (run_pl [yy 0, yy 1, yy 2, yy 3] ?_)))
 refine yM 77 3 ?_
 refine yM 78 2 ?_
 refine yV (kq 79 (.binOp .sub 3 (.tmp 77) (.tmp 78) 3)) (fun _ => val_subi rfl rfl (by omega) (by omega)) ?_
 refine yV (kq 80 (.binOp .eql 3 (.tmp 79) (.const (.int .i64 1)) 3)) (fun _ => val_eql rfl rfl) ?_
 refine Sch.nil ?_
 refine run_i 80 rfl (fun h80 => ?_) (fun h80 => ?_)
 ·
  have hm2 : b = m + 1 := by omega
  refine run_sq (run_pl [yy 0, yy 1] ?_)
  refine yM 81 1 ?_
  refine yA 14 81 ?_
  refine Sch.nil (run_sq (run_pl [yy 0, yy 1] ?_))
  refine yM 82 2 ?_
  refine yA 15 82 ?_
  refine Sch.nil (run_sq (run_bk 4 ?_))
  refine run_lp (ι := Nat × Nat) (I := fun x w => B2 (ordT cmpW ys) σ a m x.1 x.2 ∧ Lim w C ∧ Stp [j] w₀ C w C ∧ OwnL w C j 58 v zs) (e := fun x => [(0, v), (1, .int .i64 a), (2, .int .i64 m), (3, .int .i64 b), (4, .func (.func 133) #[] #[]), (14, .int .i64 x.1), (15, .int .i64 x.2)]) (m := fun x => x.2 - x.1) (x₀ := (a, m)) (sr 0 (sr 1 (sr 2 (sr 3 (sr 4 (sr 14 (sr 15 (sub_nil _)))))))) ?_ ?_
  · exact ⟨B2.start (by omega), hF, hT, ho⟩
  intro ⟨i, q⟩ w10 hI next3
  obtain ⟨hB, hF, hT, ho⟩ := hI
  try simp only at hB hF hT ho
  show Run _ _ _ _ [(0, v), (1, .int .i64 a), (2, .int .i64 m), (3, .int .i64 b), (4, .func (.func 133) #[] #[]), (14, .int .i64 i), (15, .int .i64 q)] _ _
  have hbl := hB.le
  refine run_sq (run_sq (run_pl [yy 0, yy 1, yy 2] ?_))
  refine yM 83 14 ?_
  refine yM 84 15 ?_
  refine yL 85 3 83 84 ?_
  refine Sch.nil ?_
  refine run_i 85 rfl (fun h85 => ?_) (fun h85 => ?_)
  ·
   have hiq : i < q := by omega
   refine run_sk (run_bk 5 (run_sq (run_pl [yy 0, yy 1, yy 2, yy 3, yy 4, yy 5, yy 6] ?_)))
   refine yM 86 14 ?_
   refine yM 87 15 ?_
   refine yV (kq 88 (.binOp .add 3 (.tmp 86) (.tmp 87) 3)) (fun _ => val_addi rfl rfl (by omega) (by omega)) ?_
   refine yV (kq 89 (.convert 3 112 (.tmp 88))) (fun _ => val_conv_int rfl ⟨_, Tryz.underlying3⟩ Tryz.underlying112) ?_
   refine yV (kq 90 (.binOp .shr 112 (.tmp 89) (.const (.int .u64 1)) 112)) (fun _ => val_shr rfl rfl (by omega)) ?_
   refine yV (kq 91 (.convert 112 3 (.tmp 90))) (fun _ => val_convE rfl ⟨_, Tryz.underlying112⟩ Tryz.underlying3 (halfN (i := i) (j := q) (by omega) (by omega))) ?_
   refine yA 16 91 ?_
   refine Sch.nil ?_
   obtain ⟨k, hk⟩ : ∃ k, k = (i + q) / 2 := ⟨_, rfl⟩
   rw [← hk]
   have hkl : k < zs.length := by omega
   refine run_sq ?_
   refine run_draw (id := 17) (ops := F220.o17) [] (C) [yy 0, yy 1, yy 2, yy 3, yy 4, yy 5, yy 6, yy 7, yy 8, nn 9, yy 10, yy 11] Tryz_mixed (by kernel_rfl) (by kernel_rfl) (by kernel_rfl) ?_
   intro w11 s_8
   have hR := Stp.refl [] w11 (C)
   refine yM 92 4 ?_
   refine yM 93 0 ?_
   refine yM 94 2 ?_
   replace ho := ho.t s_8
   refine oR 58 95 23 93 94 ho rfl (by first | omega | (simp only [List.length_set]; omega)) (h := ?_)
   intro g95 hg95
   try simp only [Int.toNat_natCast]
   refine oSA (I := []) (kq 96 (.load 58 (.tmp 95))) rfl rfl ho hg95 (fun w' hS => ho.sy hg95 hS) (by first | omega | (simp only [List.length_set]; omega)) (by kernel_rfl) (by kernel_rfl) rfl rfl ?_
   intro v96 g96
   try simp only [Int.toNat_natCast] at g96
   obtain rfl := rv_bond.1 g96
   refine yM 97 0 ?_
   refine yM 98 16 ?_
   refine oR 58 99 23 97 98 ho rfl (by first | omega | (simp only [List.length_set]; omega)) (h := ?_)
   intro g99 hg99
   try simp only [Int.toNat_natCast]
   refine oSA (I := []) (kq 100 (.load 58 (.tmp 99))) rfl rfl ho hg99 (fun w' hS => ho.sy hg99 hS) (by first | omega | (simp only [List.length_set]; omega)) (by kernel_rfl) (by kernel_rfl) rfl rfl ?_
   intro v100 g100
   try simp only [Int.toNat_natCast] at g100
   obtain rfl := rv_bond.1 g100
   replace hF := hF.st s_8
   refine cS (kq 101 (.call { callee := .value (.tmp 92), args := #[(.tmp 96), (.tmp 100)], argTypes := #[58, 58] })) rfl rfl (enters_func (fun args w => Tryz.call133 args w) rfl rfl) (weighs_ok hF) ?_
   rintro vw12 w12 ⟨rfl, s_9⟩
   refine ⟨(hR.trans s_9 (by simp)).ext, ?_⟩
   refine yV (kq 102 (.binOp .lss 3 (.tmp 101) (.const (.int .i64 0)) 3)) (fun _ => val_lss rfl rfl) ?_
   refine yV (kq 103 (.unOp .not 4 (.tmp 102))) (fun _ => val_notd rfl) ?_
   refine Sch.nil ?_
   refine run_i 103 rfl (fun h103 => ?_) (fun h103 => ?_)
   ·
    have hord := hSy.no hPL (p := k) (q := m) (by omega) (by omega) (by omega) (by omega) (by omega) (by omega) h103
    refine run_pl [yy 0, yy 1, yy 2] ?_
    refine yM 104 16 ?_
    refine yI 105 3 104 1 ?_
    refine yA 14 105 ?_
    refine Sch.nil (run_inBlock ?_)
    replace hT := (hT.t s_8).t s_9; replace hF := hF.st s_9; replace ho := ho.t s_9
    refine kp (sr 0 (sr 1 (sr 2 (sr 3 (sr 4 (sub_cons 14 rfl (eq_int (by simp)) (sr 15 (sub_nil _)))))))) (next3 (k + 1, q) _ ⟨(hB.up htr hSy.l (by omega) (by omega) hord), hF, hT, ho⟩ (by first | omega | (simp only; omega)))
   have hord := hSy.yes hPL (p := k) (q := m) (by omega) (by omega) (Classical.not_not.1 h103)
   refine run_pl [yy 0, yy 1] ?_
   refine yM 106 16 ?_
   refine yA 15 106 ?_
   refine Sch.nil (run_inBlock ?_)
   replace hT := (hT.t s_8).t s_9; replace hF := hF.st s_9; replace ho := ho.t s_9
   refine kp (sr 0 (sr 1 (sr 2 (sr 3 (sr 4 (sr 14 (sr 15 (sub_nil _)))))))) (next3 (i, k) _ ⟨(hB.down htr hSy.l (by omega) (by omega) hord), hF, hT, ho⟩ (by first | omega | (simp only; omega)))
  have hiq : q = i := by omega
  subst hiq
  refine run_ex 4 ?_
  refine run_sq (run_sq (run_pl [yy 0, yy 1] ?_))
  refine yM 107 2 ?_
  refine yA 17 107 ?_
  refine Sch.nil (run_bk 6 ?_)
  refine run_lp (ι := Nat × (List Bond)) (I := fun x w => q ≤ x.1 ∧ x.1 ≤ m ∧ PL ys (fun t => σ (shD m x.1 t)) x.2 ∧ Lim w C ∧ Stp [j] w₀ C w C ∧ OwnL w C j 58 v x.2) (e := fun x => [(0, v), (1, .int .i64 a), (2, .int .i64 m), (3, .int .i64 b), (4, .func (.func 133) #[] #[]), (14, .int .i64 q), (17, .int .i64 x.1)]) (m := fun x => x.1 - q) (x₀ := (m, zs)) (sr 0 (sr 1 (sr 2 (sr 3 (sr 4 (sr 14 (sr 17 (sub_nil _)))))))) ?_ ?_
  · exact ⟨by omega, Nat.le_refl _, hPL.congr fun x => by rw [shD_zero], hF, hT, ho⟩
  intro ⟨k, us⟩ w13 hI next4
  obtain ⟨hk, hk2, hPU, hF, hT, ho⟩ := hI
  try simp only at hk hk2 hPU hF hT ho
  show Run _ _ _ _ [(0, v), (1, .int .i64 a), (2, .int .i64 m), (3, .int .i64 b), (4, .func (.func 133) #[] #[]), (14, .int .i64 q), (17, .int .i64 k)] _ _
  have hul := hPU.len
  refine run_sq (run_sq (run_pl [yy 0, yy 1, yy 2] ?_))
  refine yM 108 17 ?_
  refine yM 109 14 ?_
  refine yV (kq 110 (.binOp .gtr 3 (.tmp 108) (.tmp 109) 3)) (fun _ => val_gtr rfl rfl) ?_
  refine Sch.nil ?_
  refine run_i 110 rfl (fun h110 => ?_) (fun h110 => ?_)
  ·
   have hkq : q < k := by omega
   refine run_sk (run_sq (run_bk 7 ?_))
   refine run_tree (id := 23) (ops := F220.o23) [j] (C) 17 (.fork [0, 1, 2, 3, 4, 5, 6, 7, 8, 10, 11, 12] 9 (.run [nn 13, yy 14, nn 15, yy 16, nn 17]) 13 (.run [nn 9, yy 14, nn 15, yy 16, nn 17])) Tryz_mixed (by kernel_rfl) (by kernel_rfl) (by kernel_rfl) ?_
   intro w14 s_10
   have hR := Stp.refl [j] w14 (C)
   refine tr_fork ?_
   show SchQ _ _ _ _ _ [yy 0, yy 1, yy 2, yy 3, yy 4, yy 5, yy 6, yy 7, yy 8, yy 10, yy 11, yy 12] _ _
   refine yM 113 0 ?_
   refine yM 114 17 ?_
   refine yM 115 0 ?_
   refine yM 116 17 ?_
   refine yV (kq 117 (.binOp .sub 3 (.tmp 116) (.const (.int .i64 1)) 3)) (fun _ => val_is (val_subi rfl rfl (by omega) (by omega)) (congrArg (Value.int .i64) (show ((k : Int) - 1 : Int) = ((k - 1 : Nat) : Int) from by omega))) ?_
   refine yM 118 0 ?_
   refine yM 119 17 ?_
   refine yV (kq 120 (.binOp .sub 3 (.tmp 119) (.const (.int .i64 1)) 3)) (fun _ => val_is (val_subi rfl rfl (by omega) (by omega)) (congrArg (Value.int .i64) (show ((k : Int) - 1 : Int) = ((k - 1 : Nat) : Int) from by omega))) ?_
   replace ho := ho.t s_10
   refine oR 58 121 23 118 120 ho rfl (by first | omega | (simp only [List.length_set]; omega)) (h := ?_)
   intro g121 hg121
   try simp only [Int.toNat_natCast]
   refine yM 123 0 ?_
   refine yM 124 17 ?_
   refine oR 58 125 23 123 124 ho rfl (by first | omega | (simp only [List.length_set]; omega)) (h := ?_)
   intro g125 hg125
   try simp only [Int.toNat_natCast]
   refine tr_do2 ?_ ?_
   ·
    show SchQ _ _ _ _ _ [nn 9] _ _
    refine oNA (kq 122 (.load 58 (.tmp 121))) rfl rfl hR.ext ho hg121 (by first | omega | (simp only [List.length_set]; omega)) (by kernel_rfl) (by kernel_rfl) rfl rfl ?_
    intro v122 g122
    try simp only [Int.toNat_natCast] at g122
    refine tr_next hR.ext ?_
    refine tr_run ?_
    show SchQ _ _ _ _ _ [nn 13, yy 14, nn 15, yy 16, nn 17] _ _
    refine oNA (kq 126 (.load 58 (.tmp 125))) rfl rfl hR.ext ho hg125 (by first | omega | (simp only [List.length_set]; omega)) (by kernel_rfl) (by kernel_rfl) rfl rfl ?_
    intro v126 g126
    try simp only [Int.toNat_natCast] at g126
    refine oR 58 127 23 113 114 ho rfl (by first | omega | (simp only [List.length_set]; omega)) (h := ?_)
    intro g127 hg127
    try simp only [Int.toNat_natCast]
    refine aN (k0 (.store 58 (.tmp 127) (.tmp 122))) rfl (a_storeO ho hg127 (by first | omega | (simp only [List.length_set]; omega)) rfl rfl (by kernel_rfl) g122) ?_
    rintro _ w15 ⟨rfl, s_11, ho⟩
    refine ⟨(hR.trans s_11 (by simp)).ext, ?_⟩
    replace hT := hT.t s_10
    replace hT := hT.trans s_11 (by simp <;> omega)
    replace hR := hR.trans s_11 (by simp <;> omega)
    refine oR 58 128 23 115 117 ho rfl (by first | omega | (simp only [List.length_set]; omega)) (h := ?_)
    intro g128 hg128
    try simp only [Int.toNat_natCast]
    refine Sch.free rfl ?_
    replace g126 := g126.t s_11
    refine aU (k0 (.store 58 (.tmp 128) (.tmp 126))) rfl (a_storeO ho hg128 (by first | omega | (simp only [List.length_set]; omega)) rfl rfl (by kernel_rfl) g126) ?_
    rintro _ w16 ⟨rfl, s_12, ho⟩
    replace hT := hT.trans s_12 (by simp <;> omega)
    refine Sch.nil (run_inBlock (run_pl [yy 0, yy 1, yy 2] ?_))
    refine yM 111 17 ?_
    refine yV (kq 112 (.binOp .sub 3 (.tmp 111) (.const (.int .i64 1)) 3)) (fun _ => val_subi rfl rfl (by omega) (by omega)) ?_
    refine yA 17 112 ?_
    refine Sch.nil ?_
    replace hF := ((hF.st s_10).st s_11).st s_12
    refine kp (sr 0 (sr 1 (sr 2 (sr 3 (sr 4 (sr 14 (sub_cons 17 rfl (eq_int (by simp only; omega)) (sub_nil _)))))))) (next4 (k - 1, ((us.set k (us[k - 1]'(by omega))).set (k - 1) (us[k]'(by omega)))) _ ⟨(by first | omega | (simp only; omega)), (by first | omega | (simp only; omega)), ((hPU.swap (by omega) (by omega) rfl rfl).congr fun x => shD_step (by omega) (by omega)), hF, hT, ho⟩ (by first | omega | (simp only; omega)))
   show SchQ _ _ _ _ _ [nn 13] _ _
   refine oNA (kq 126 (.load 58 (.tmp 125))) rfl rfl hR.ext ho hg125 (by first | omega | (simp only [List.length_set]; omega)) (by kernel_rfl) (by kernel_rfl) rfl rfl ?_
   intro v126 g126
   try simp only [Int.toNat_natCast] at g126
   refine tr_next hR.ext ?_
   refine tr_run ?_
   show SchQ _ _ _ _ _ [nn 9, yy 14, nn 15, yy 16, nn 17] _ _
   refine oNA (kq 122 (.load 58 (.tmp 121))) rfl rfl hR.ext ho hg121 (by first | omega | (simp only [List.length_set]; omega)) (by kernel_rfl) (by kernel_rfl) rfl rfl ?_
   intro v122 g122
   try simp only [Int.toNat_natCast] at g122
   refine oR 58 127 23 113 114 ho rfl (by first | omega | (simp only [List.length_set]; omega)) (h := ?_)
   intro g127 hg127
   try simp only [Int.toNat_natCast]
   refine aN (k0 (.store 58 (.tmp 127) (.tmp 122))) rfl (a_storeO ho hg127 (by first | omega | (simp only [List.length_set]; omega)) rfl rfl (by kernel_rfl) g122) ?_
   rintro _ w17 ⟨rfl, s_13, ho⟩
   refine ⟨(hR.trans s_13 (by simp)).ext, ?_⟩
   replace hT := hT.t s_10
   replace hT := hT.trans s_13 (by simp <;> omega)
   replace hR := hR.trans s_13 (by simp <;> omega)
   refine oR 58 128 23 115 117 ho rfl (by first | omega | (simp only [List.length_set]; omega)) (h := ?_)
   intro g128 hg128
   try simp only [Int.toNat_natCast]
   refine Sch.free rfl ?_
   replace g126 := g126.t s_13
   refine aU (k0 (.store 58 (.tmp 128) (.tmp 126))) rfl (a_storeO ho hg128 (by first | omega | (simp only [List.length_set]; omega)) rfl rfl (by kernel_rfl) g126) ?_
   rintro _ w18 ⟨rfl, s_14, ho⟩
   replace hT := hT.trans s_14 (by simp <;> omega)
   refine Sch.nil (run_inBlock (run_pl [yy 0, yy 1, yy 2] ?_))
   refine yM 111 17 ?_
   refine yV (kq 112 (.binOp .sub 3 (.tmp 111) (.const (.int .i64 1)) 3)) (fun _ => val_subi rfl rfl (by omega) (by omega)) ?_
   refine yA 17 112 ?_
   refine Sch.nil ?_
   replace hF := ((hF.st s_10).st s_13).st s_14
   refine kp (sr 0 (sr 1 (sr 2 (sr 3 (sr 4 (sr 14 (sub_cons 17 rfl (eq_int (by simp only; omega)) (sub_nil _)))))))) (next4 (k - 1, ((us.set k (us[k - 1]'(by omega))).set (k - 1) (us[k]'(by omega)))) _ ⟨(by first | omega | (simp only; omega)), (by first | omega | (simp only; omega)), ((hPU.swap (by omega) (by omega) rfl rfl).congr fun x => shD_step (by omega) (by omega)), hF, hT, ho⟩ (by first | omega | (simp only; omega)))
  have hkq : k = q := by omega
  subst hkq
  refine run_ex 6 ?_
  refine run_ret0 (by kernel_rfl) Tryz.func220 Tryz.results220 ?_
  exact ⟨rfl, us, _, ⟨hPU, shD_within (by omega) (by omega) (by omega), hB.done hm2 hSy.l⟩, hT, ho, hF⟩
 have hm2 : b ≠ m + 1 := by omega
 refine run_sk (run_sq (run_pl [yy 0, yy 1, yy 2, yy 3, yy 4, yy 5, yy 6] ?_))
 refine yM 129 1 ?_
 refine yM 130 3 ?_
 refine yV (kq 131 (.binOp .add 3 (.tmp 129) (.tmp 130) 3)) (fun _ => val_addi rfl rfl (by omega) (by omega)) ?_
 refine yV (kq 132 (.convert 3 112 (.tmp 131))) (fun _ => val_conv_int rfl ⟨_, Tryz.underlying3⟩ Tryz.underlying112) ?_
 refine yV (kq 133 (.binOp .shr 112 (.tmp 132) (.const (.int .u64 1)) 112)) (fun _ => val_shr rfl rfl (by omega)) ?_
 refine yV (kq 134 (.convert 112 3 (.tmp 133))) (fun _ => val_convE rfl ⟨_, Tryz.underlying112⟩ Tryz.underlying3 (halfN (i := a) (j := b) (by omega) (by omega))) ?_
 refine yA 18 134 ?_
 refine Sch.nil ?_
 obtain ⟨d, hd⟩ : ∃ d, d = (a + b) / 2 := ⟨_, rfl⟩
 rw [← hd]
 have hdm : a < d ∧ d < b ∧ 2 * d ≤ a + b ∧ a + b ≤ 2 * d + 1 ∧ a < m ∧ m < b := by omega
 refine run_sq (run_pl [yy 0, yy 1, yy 2, yy 3] ?_)
 refine yM 135 18 ?_
 refine yM 136 2 ?_
 refine yV (kq 137 (.binOp .add 3 (.tmp 135) (.tmp 136) 3)) (fun _ => val_is (val_addi rfl rfl (by omega) (by omega)) (congrArg (Value.int .i64) (show ((d : Int) + (m : Int) : Int) = ((d + m : Nat) : Int) from by omega))) ?_
 refine yA 19 137 ?_
 refine Sch.nil (run_sq (run_pl [yy 0, yy 1] ?_))
 refine yAc 20 (.int .i64 0) ?_
 refine yAc 21 (.int .i64 0) ?_
 refine Sch.nil (run_sq (run_sq (run_pl [yy 0, yy 1, yy 2] ?_)))
 refine yM 138 2 ?_
 refine yM 139 18 ?_
 refine yV (kq 140 (.binOp .gtr 3 (.tmp 138) (.tmp 139) 3)) (fun _ => val_gtr rfl rfl) ?_
 refine Sch.nil ?_
 refine run_join (ι := Nat × Nat) (k := [.code (K.cr F220.c90)]) (I := fun x w => B3 (ordT cmpW ys) σ a m b d x.1 x.2 ∧ Lim w C ∧ Stp [j] w₀ C w C ∧ OwnL w C j 58 v zs) (e := fun x => [(0, v), (1, .int .i64 a), (2, .int .i64 m), (3, .int .i64 b), (4, .func (.func 133) #[] #[]), (18, .int .i64 d), (19, .int .i64 (d + m : Nat)), (20, .int .i64 x.1), (21, .int .i64 x.2)]) ?_ ?_
 ·
  intro ⟨s, r⟩ w19 hI
  obtain ⟨hB, hF, hT, ho⟩ := hI
  try simp only at *
  show Run _ _ _ _ [(0, v), (1, .int .i64 a), (2, .int .i64 m), (3, .int .i64 b), (4, .func (.func 133) #[] #[]), (18, .int .i64 d), (19, .int .i64 (d + m : Nat)), (20, .int .i64 s), (21, .int .i64 r)] _ _
  refine run_sq (run_pl [yy 0, yy 1, yy 2] ?_)
  refine yM 147 19 ?_
  refine yV (kq 148 (.binOp .sub 3 (.tmp 147) (.const (.int .i64 1)) 3)) (fun _ => val_is (val_subi rfl rfl (by omega) (by omega)) (congrArg (Value.int .i64) (show (((d + m : Nat) : Int) - 1 : Int) = ((d + m - 1 : Nat) : Int) from by omega))) ?_
  refine yA 22 148 ?_
  refine Sch.nil (run_sq (run_bk 8 ?_))
  refine run_lp (ι := Nat × Nat) (I := fun x w => B3 (ordT cmpW ys) σ a m b d x.1 x.2 ∧ Lim w C ∧ Stp [j] w₀ C w C ∧ OwnL w C j 58 v zs) (e := fun x => [(0, v), (1, .int .i64 a), (2, .int .i64 m), (3, .int .i64 b), (4, .func (.func 133) #[] #[]), (18, .int .i64 d), (19, .int .i64 (d + m : Nat)), (20, .int .i64 x.1), (21, .int .i64 x.2), (22, .int .i64 (d + m - 1 : Nat))]) (m := fun x => x.2 - x.1) (x₀ := (s, r)) (sr 0 (sr 1 (sr 2 (sr 3 (sr 4 (sr 18 (sr 19 (sr 20 (sr 21 (sr 22 (sub_nil _))))))))))) ?_ ?_
  · exact ⟨hB, hF, hT, ho⟩
  intro ⟨s, r⟩ w20 hI next5
  obtain ⟨hB, hF, hT, ho⟩ := hI
  try simp only at hB hF hT ho
  show Run _ _ _ _ [(0, v), (1, .int .i64 a), (2, .int .i64 m), (3, .int .i64 b), (4, .func (.func 133) #[] #[]), (18, .int .i64 d), (19, .int .i64 (d + m : Nat)), (20, .int .i64 s), (21, .int .i64 r), (22, .int .i64 (d + m - 1 : Nat))] _ _
  have hbl := hB.le
  refine run_sq (run_sq (run_pl [yy 0, yy 1, yy 2] ?_))
  refine yM 149 20 ?_
  refine yM 150 21 ?_
  refine yL 151 3 149 150 ?_
  refine Sch.nil ?_
  refine run_i 151 rfl (fun h151 => ?_) (fun h151 => ?_)
  ·
   have hiq : s < r := by omega
   refine run_sk (run_bk 9 (run_sq (run_pl [yy 0, yy 1, yy 2, yy 3, yy 4, yy 5, yy 6] ?_)))
   refine yM 152 20 ?_
   refine yM 153 21 ?_
   have hrr := hB.hi
   refine yV (kq 154 (.binOp .add 3 (.tmp 152) (.tmp 153) 3)) (fun _ => val_addi rfl rfl (by omega) (by omega)) ?_
   refine yV (kq 155 (.convert 3 112 (.tmp 154))) (fun _ => val_conv_int rfl ⟨_, Tryz.underlying3⟩ Tryz.underlying112) ?_
   refine yV (kq 156 (.binOp .shr 112 (.tmp 155) (.const (.int .u64 1)) 112)) (fun _ => val_shr rfl rfl (by omega)) ?_
   refine yV (kq 157 (.convert 112 3 (.tmp 156))) (fun _ => val_convE rfl ⟨_, Tryz.underlying112⟩ Tryz.underlying3 (halfN (i := s) (j := r) (by have := hB.hi; omega) (by have := hB.hi; omega))) ?_
   refine yA 23 157 ?_
   refine Sch.nil ?_
   obtain ⟨k, hk⟩ : ∃ k, k = (s + r) / 2 := ⟨_, rfl⟩
   rw [← hk]
   have hrg := hB.rng (q := k) (by omega) (by omega)
   refine run_sq ?_
   refine run_draw (id := 35) (ops := F220.o35) [] (C) [yy 0, yy 1, yy 2, yy 3, yy 4, yy 5, yy 6, yy 7, yy 8, yy 9, yy 10, nn 11, yy 12, yy 13] Tryz_mixed (by kernel_rfl) (by kernel_rfl) (by kernel_rfl) ?_
   intro w21 s_15
   have hR := Stp.refl [] w21 (C)
   refine yM 158 4 ?_
   refine yM 159 0 ?_
   refine yM 160 22 ?_
   refine yM 161 23 ?_
   refine yV (kq 162 (.binOp .sub 3 (.tmp 160) (.tmp 161) 3)) (fun _ => val_is (val_subi rfl rfl (by omega) (by omega)) (congrArg (Value.int .i64) (show (((d + m - 1 : Nat) : Int) - (k : Int) : Int) = ((d + m - 1 - k : Nat) : Int) from by omega))) ?_
   replace ho := ho.t s_15
   refine oR 58 163 23 159 162 ho rfl (by first | omega | (simp only [List.length_set]; omega)) (h := ?_)
   intro g163 hg163
   try simp only [Int.toNat_natCast]
   refine oSA (I := []) (kq 164 (.load 58 (.tmp 163))) rfl rfl ho hg163 (fun w' hS => ho.sy hg163 hS) (by first | omega | (simp only [List.length_set]; omega)) (by kernel_rfl) (by kernel_rfl) rfl rfl ?_
   intro v164 g164
   try simp only [Int.toNat_natCast] at g164
   obtain rfl := rv_bond.1 g164
   refine yM 165 0 ?_
   refine yM 166 23 ?_
   refine oR 58 167 23 165 166 ho rfl (by first | omega | (simp only [List.length_set]; omega)) (h := ?_)
   intro g167 hg167
   try simp only [Int.toNat_natCast]
   refine oSA (I := []) (kq 168 (.load 58 (.tmp 167))) rfl rfl ho hg167 (fun w' hS => ho.sy hg167 hS) (by first | omega | (simp only [List.length_set]; omega)) (by kernel_rfl) (by kernel_rfl) rfl rfl ?_
   intro v168 g168
   try simp only [Int.toNat_natCast] at g168
   obtain rfl := rv_bond.1 g168
   replace hF := hF.st s_15
   refine cS (kq 169 (.call { callee := .value (.tmp 158), args := #[(.tmp 164), (.tmp 168)], argTypes := #[58, 58] })) rfl rfl (enters_func (fun args w => Tryz.call133 args w) rfl rfl) (weighs_ok hF) ?_
   rintro vw22 w22 ⟨rfl, s_16⟩
   refine ⟨(hR.trans s_16 (by simp)).ext, ?_⟩
   refine yV (kq 170 (.binOp .lss 3 (.tmp 169) (.const (.int .i64 0)) 3)) (fun _ => val_lss rfl rfl) ?_
   refine yV (kq 171 (.unOp .not 4 (.tmp 170))) (fun _ => val_notd rfl) ?_
   refine Sch.nil ?_
   refine run_i 171 rfl (fun h171 => ?_) (fun h171 => ?_)
   ·
    have hord := hSy.no hPL (p := k) (q := d + m - 1 - k) (by omega) (by omega) (by omega) (by omega) (by omega) (by omega) h171
    refine run_pl [yy 0, yy 1, yy 2] ?_
    refine yM 172 23 ?_
    refine yI 173 3 172 1 ?_
    refine yA 20 173 ?_
    refine Sch.nil (run_inBlock ?_)
    replace hT := (hT.t s_15).t s_16; replace hF := hF.st s_16; replace ho := ho.t s_16
    refine kp (sr 0 (sr 1 (sr 2 (sr 3 (sr 4 (sr 18 (sr 19 (sub_cons 20 rfl (eq_int (by simp)) (sr 21 (sr 22 (sub_nil _))))))))))) (next5 (k + 1, r) _ ⟨(hB.up (by omega) (by omega) hord), hF, hT, ho⟩ (by first | omega | (simp only; omega)))
   have hord := hSy.yes hPL (p := k) (q := d + m - 1 - k) (by omega) (by omega) (Classical.not_not.1 h171)
   refine run_pl [yy 0, yy 1] ?_
   refine yM 174 23 ?_
   refine yA 21 174 ?_
   refine Sch.nil (run_inBlock ?_)
   replace hT := (hT.t s_15).t s_16; replace hF := hF.st s_16; replace ho := ho.t s_16
   refine kp (sr 0 (sr 1 (sr 2 (sr 3 (sr 4 (sr 18 (sr 19 (sr 20 (sr 21 (sr 22 (sub_nil _))))))))))) (next5 (s, k) _ ⟨(hB.down (by omega) (by omega) hord), hF, hT, ho⟩ (by first | omega | (simp only; omega)))
  have hiq : r = s := by omega
  subst hiq
  have hend := hB.ends
  refine run_ex 8 ?_
  refine run_sq (run_pl [yy 0, yy 1, yy 2, yy 3] ?_)
  refine yM 175 19 ?_
  refine yM 176 20 ?_
  refine yV (kq 177 (.binOp .sub 3 (.tmp 175) (.tmp 176) 3)) (fun _ => val_is (val_subi rfl rfl (by omega) (by omega)) (congrArg (Value.int .i64) (show (((d + m : Nat) : Int) - (r : Int) : Int) = ((d + m - r : Nat) : Int) from by omega))) ?_
  refine yA 24 177 ?_
  refine Sch.nil (run_sq (run_sq ?_))
  refine run_cut 185 (decide (r < m ∧ m < d + m - r)) (C) ?_ ?_
  ·
   intro hcut
   by_cases hA : ((r : Nat) : Int) < ((m : Nat) : Int)
   ·
    refine run_pl [yy 0, yy 1, yy 2, yy 3, yy 4, yy 5, yy 6, yy 7] ?_
    refine yM 178 20 ?_
    refine yM 179 2 ?_
    refine yV (kq 180 (.binOp .lss 3 (.tmp 178) (.tmp 179) 3)) (fun _ => val_T (val_lss rfl rfl) hA) ?_
    refine yM 181 180 ?_
    refine yMg 182 2 3 true ?_
    refine yMg 183 24 3 true ?_
    refine yV (kg 184 (.binOp .lss 3 (.tmp 182) (.tmp 183) 3) 3 true) (fun _ => val_lss rfl rfl) ?_
    refine yAt 185 181 184 ?_
    exact Sch.nil (hcut _ _ _ (Stp.refl _ _ _) rfl (by congr 1; apply decide_eq_decide.2; omega) (sk 8))
   refine run_pl [yy 0, yy 1, yy 2, yy 3, yy 4, yy 5, yy 6, yy 7] ?_
   refine yM 178 20 ?_
   refine yM 179 2 ?_
   refine yV (kq 180 (.binOp .lss 3 (.tmp 178) (.tmp 179) 3)) (fun _ => val_F (val_lss rfl rfl) hA) ?_
   refine yM 181 180 ?_
   refine pX 182 3 true ?_
   refine pX 183 3 true ?_
   refine pX 184 3 true ?_
   refine yAf 185 181 184 ?_
   exact Sch.nil (hcut _ _ _ (Stp.refl _ _ _) rfl (by rw [decide_eq_false (by omega)]) (sk 8))
  intro w23 s_17
  refine run_join (ι := (List Bond)) (k := [.code F220.c127]) (I := fun x w => PL ys (fun t => σ (ro r m (d + m - r) t)) x ∧ Lim w C ∧ Stp [j] w₀ C w C ∧ OwnL w C j 58 v x) (e := fun x => [(0, v), (1, .int .i64 a), (2, .int .i64 m), (3, .int .i64 b), (4, .func (.func 133) #[] #[]), (18, .int .i64 d), (20, .int .i64 r), (24, .int .i64 (d + m - r : Nat))]) ?_ ?_
  ·
   intro us w24 hI
   obtain ⟨hPU, hF, hT, ho⟩ := hI
   try simp only at *
   show Run _ _ _ _ [(0, v), (1, .int .i64 a), (2, .int .i64 m), (3, .int .i64 b), (4, .func (.func 133) #[] #[]), (18, .int .i64 d), (20, .int .i64 r), (24, .int .i64 (d + m - r : Nat))] _ _
   refine run_sq (run_sq ?_)
   refine run_cut 199 (decide (a < r ∧ r < d)) (C) ?_ ?_
   ·
    intro hcut
    by_cases hA : ((a : Nat) : Int) < ((r : Nat) : Int)
    ·
     refine run_pl [yy 0, yy 1, yy 2, yy 3, yy 4, yy 5, yy 6, yy 7] ?_
     refine yM 192 1 ?_
     refine yM 193 20 ?_
     refine yV (kq 194 (.binOp .lss 3 (.tmp 192) (.tmp 193) 3)) (fun _ => val_T (val_lss rfl rfl) hA) ?_
     refine yM 195 194 ?_
     refine yMg 196 20 3 true ?_
     refine yMg 197 18 3 true ?_
     refine yV (kg 198 (.binOp .lss 3 (.tmp 196) (.tmp 197) 3) 3 true) (fun _ => val_lss rfl rfl) ?_
     refine yAt 199 195 198 ?_
     exact Sch.nil (hcut _ _ _ (Stp.refl _ _ _) rfl (by congr 1; apply decide_eq_decide.2; omega) (sk 8))
    refine run_pl [yy 0, yy 1, yy 2, yy 3, yy 4, yy 5, yy 6, yy 7] ?_
    refine yM 192 1 ?_
    refine yM 193 20 ?_
    refine yV (kq 194 (.binOp .lss 3 (.tmp 192) (.tmp 193) 3)) (fun _ => val_F (val_lss rfl rfl) hA) ?_
    refine yM 195 194 ?_
    refine pX 196 3 true ?_
    refine pX 197 3 true ?_
    refine pX 198 3 true ?_
    refine yAf 199 195 198 ?_
    exact Sch.nil (hcut _ _ _ (Stp.refl _ _ _) rfl (by rw [decide_eq_false (by omega)]) (sk 8))
   intro w25 s_18
   refine run_join (ι := (List Bond) × (Nat → Nat)) (k := [.code (K.cr F220.c127)]) (I := fun x w => PL ys (fun t => σ (ro r m (d + m - r) (x.2 t))) x.1 ∧ Within x.2 a d ∧ Asc (ordT cmpW ys) (fun t => σ (ro r m (d + m - r) (x.2 t))) a d ∧ Lim w C ∧ Stp [j] w₀ C w C ∧ OwnL w C j 58 v x.1) (e := fun x => [(0, v), (1, .int .i64 a), (2, .int .i64 m), (3, .int .i64 b), (4, .func (.func 133) #[] #[]), (18, .int .i64 d), (20, .int .i64 r), (24, .int .i64 (d + m - r : Nat))]) ?_ ?_
   ·
    intro ⟨us, τ⟩ w26 hI
    obtain ⟨hPU, hW1, hA1, hF, hT, ho⟩ := hI
    try simp only at *
    show Run _ _ _ _ [(0, v), (1, .int .i64 a), (2, .int .i64 m), (3, .int .i64 b), (4, .func (.func 133) #[] #[]), (18, .int .i64 d), (20, .int .i64 r), (24, .int .i64 (d + m - r : Nat))] _ _
    refine run_sq ?_
    refine run_cut 213 (decide (d < d + m - r ∧ d + m - r < b)) (C) ?_ ?_
    ·
     intro hcut
     by_cases hA : ((d : Nat) : Int) < ((d + m - r : Nat) : Int)
     ·
      refine run_pl [yy 0, yy 1, yy 2, yy 3, yy 4, yy 5, yy 6, yy 7] ?_
      refine yM 206 18 ?_
      refine yM 207 24 ?_
      refine yV (kq 208 (.binOp .lss 3 (.tmp 206) (.tmp 207) 3)) (fun _ => val_T (val_lss rfl rfl) hA) ?_
      refine yM 209 208 ?_
      refine yMg 210 24 3 true ?_
      refine yMg 211 3 3 true ?_
      refine yV (kg 212 (.binOp .lss 3 (.tmp 210) (.tmp 211) 3) 3 true) (fun _ => val_lss rfl rfl) ?_
      refine yAt 213 209 212 ?_
      exact Sch.nil (hcut _ _ _ (Stp.refl _ _ _) rfl (by congr 1; apply decide_eq_decide.2; omega) (sk 8))
     refine run_pl [yy 0, yy 1, yy 2, yy 3, yy 4, yy 5, yy 6, yy 7] ?_
     refine yM 206 18 ?_
     refine yM 207 24 ?_
     refine yV (kq 208 (.binOp .lss 3 (.tmp 206) (.tmp 207) 3)) (fun _ => val_F (val_lss rfl rfl) hA) ?_
     refine yM 209 208 ?_
     refine pX 210 3 true ?_
     refine pX 211 3 true ?_
     refine pX 212 3 true ?_
     refine yAf 213 209 212 ?_
     exact Sch.nil (hcut _ _ _ (Stp.refl _ _ _) rfl (by rw [decide_eq_false (by omega)]) (sk 8))
    intro w27 s_19
    refine run_i 213 rfl (fun h213 => ?_) (fun h213 => ?_)
    ·
     have hc3 := h213
     refine run_pl [yy 0, yy 1, yy 2, yy 3, yy 4, nn 5] ?_
     refine yM 214 0 ?_
     refine yM 215 18 ?_
     refine yM 216 24 ?_
     refine yM 217 3 ?_
     refine yM 218 4 ?_
     replace hF := hF.st s_19; replace ho := ho.t s_19
     refine cG 219 220 [214, 215, 216, 217, 218] [23, 3, 3, 3, 188] Tryz.call220 rfl (ih (b - d) (by omega) d (d + m - r) b _ _ _ _ (Nat.le_refl _) ((hB.right hSy hc3.1 hc3.2).keep fun x h1 h2 => by rw [hW1.out x (by omega)]) hPU hF ho (by have := hPU.len; omega)) ?_
     rintro vw28 w28 ⟨rfl, vs, ρ, hq2, s_20, ho, hF⟩
     replace hT := hT.t s_19
     replace hT := hT.trans s_20 (by simp <;> omega)
     refine Sch.nil ?_
     refine run_end0 Tryz.func220 rfl ?_
     exact ⟨rfl, vs, _, hB.merge htr hSy hW1 hA1 hq2.wi hq2.asc hq2.pl, hT, ho, hF⟩
    have hc3 : ¬ (d < d + m - r ∧ d + m - r < b) := h213
    refine run_sk ?_
    refine run_end0 Tryz.func220 rfl ?_
    replace hF := hF.st s_19; replace hT := hT.t s_19; replace ho := ho.t s_19
    exact ⟨rfl, us, _, hB.merge htr hSy hW1 hA1 (Within.id d b) (fun p q h1 h2 h3 => by
          show ordT cmpW ys (σ (ro r m (d + m - r) (τ p))) (σ (ro r m (d + m - r) (τ q)))
          rw [hW1.out p (by omega), hW1.out q (by omega)]
          exact hB.rightAsc hSy hc3 p q h1 h2 h3) hPU, hT, ho, hF⟩
   intro join199
   refine run_i 199 rfl (fun h199 => ?_) (fun h199 => ?_)
   ·
    have hc2 := h199
    refine run_pl [yy 0, yy 1, yy 2, yy 3, yy 4, nn 5] ?_
    refine yM 200 0 ?_
    refine yM 201 1 ?_
    refine yM 202 20 ?_
    refine yM 203 18 ?_
    refine yM 204 4 ?_
    replace hF := hF.st s_18; replace ho := ho.t s_18
    refine cG 205 220 [200, 201, 202, 203, 204] [23, 3, 3, 3, 188] Tryz.call220 rfl (ih (d - a) (by omega) a (r) d _ _ _ _ (Nat.le_refl _) (hB.left hSy hc2.1 hc2.2) hPU hF ho (by have := hPU.len; omega)) ?_
    rintro vw29 w29 ⟨rfl, vs, τ, hq1, s_21, ho, hF⟩
    replace hT := hT.t s_18
    replace hT := hT.trans s_21 (by simp <;> omega)
    refine Sch.nil ?_
    refine kp (sr 0 (sr 1 (sr 2 (sr 3 (sr 4 (sr 18 (sr 20 (sr 24 (sub_nil _))))))))) (join199 (vs, τ) _ ⟨hq1.pl, hq1.wi, hq1.asc, hF, hT, ho⟩)
   have hc2 : ¬ (a < r ∧ r < d) := h199
   refine run_sk ?_
   replace hF := hF.st s_18; replace hT := hT.t s_18; replace ho := ho.t s_18
   refine kp (sr 0 (sr 1 (sr 2 (sr 3 (sr 4 (sr 18 (sr 20 (sr 24 (sub_nil _))))))))) (join199 (us, (fun x => x)) _ ⟨hPU, (Within.id _ _), (hB.leftAsc hSy hc2), hF, hT, ho⟩)
  intro join185
  refine run_i 185 rfl (fun h185 => ?_) (fun h185 => ?_)
  ·
   have hc1 := h185
   refine run_pl [yy 0, yy 1, yy 2, yy 3, yy 4, nn 5] ?_
   refine yM 186 0 ?_
   refine yM 187 20 ?_
   refine yM 188 2 ?_
   refine yM 189 24 ?_
   refine yM 190 4 ?_
   replace hF := hF.st s_17; replace ho := ho.t s_17
   refine cG 191 252 [186, 187, 188, 189, 190] [23, 3, 3, 3, 188] Tryz.call252 rfl (rotateWL_ok (a := r) (m := m) (b := d + m - r) hF hj ho (by omega) (by omega) (by omega) (by omega)) ?_
   rintro vw30 w30 ⟨rfl, us, hro, s_22, ho, hF⟩
   replace hT := hT.t s_17
   replace hT := hT.trans s_22 (by simp <;> omega)
   refine Sch.nil ?_
   refine kp (sr 0 (sr 1 (sr 2 (sr 3 (sr 4 (sr 18 (sr 20 (sr 24 (sub_nil _))))))))) (join185 (us) _ ⟨(hPL.comp hro), hF, hT, ho⟩)
  have hc1 : ¬ (r < m ∧ m < d + m - r) := h185
  refine run_sk ?_
  replace hF := hF.st s_17; replace hT := hT.t s_17; replace ho := ho.t s_17
  refine kp (sr 0 (sr 1 (sr 2 (sr 3 (sr 4 (sr 18 (sr 20 (sr 24 (sub_nil _))))))))) (join185 (zs) _ ⟨(hPL.congr fun x => by rw [ro_id (by omega) (by omega) (by omega)]), hF, hT, ho⟩)
 intro join140
 refine run_i 140 rfl (fun h140 => ?_) (fun h140 => ?_)
 ·
  have hdm2 : d < m := by omega
  refine run_sq (run_pl [yy 0, yy 1, yy 2, yy 3] ?_)
  refine yM 141 19 ?_
  refine yM 142 3 ?_
  refine yV (kq 143 (.binOp .sub 3 (.tmp 141) (.tmp 142) 3)) (fun _ => val_is (val_subi rfl rfl (by omega) (by omega)) (congrArg (Value.int .i64) (show (((d + m : Nat) : Int) - (b : Int) : Int) = ((d + m - b : Nat) : Int) from by omega))) ?_
  refine yA 20 143 ?_
  refine Sch.nil (run_pl [yy 0, yy 1] ?_)
  refine yM 144 18 ?_
  refine yA 21 144 ?_
  refine Sch.nil ?_
  refine kp (sr 0 (sr 1 (sr 2 (sr 3 (sr 4 (sr 18 (sr 19 (sr 20 (sr 21 (sub_nil _)))))))))) (join140 (d + m - b, d) _ ⟨(B3.startR hdm hdm2), hF, hT, ho⟩)
 have hdm2 : m ≤ d := by omega
 refine run_sq (run_pl [yy 0, yy 1] ?_)
 refine yM 145 1 ?_
 refine yA 20 145 ?_
 refine Sch.nil (run_pl [yy 0, yy 1] ?_)
 refine yM 146 2 ?_
 refine yA 21 146 ?_
 refine Sch.nil ?_
 refine kp (sr 0 (sr 1 (sr 2 (sr 3 (sr 4 (sr 18 (sr 19 (sr 20 (sr 21 (sub_nil _)))))))))) (join140 (a, m) _ ⟨(B3.startL hdm hdm2), hF, hT, ho⟩)
namespace F189S
def c0 := bodyOf Tryz.f189
end F189S
theorem stableWL_ok {w₀ : World} {C : Nat → Nat} {j n : Nat} {v : Value} {ys : List Bond} (hF : Lim w₀ C) (hj : j ≠ 0) (ho : OwnL w₀ C j 58 v ys) (hP : ∀ x ∈ ys, (fun _ => True) x) (hlen : ys.length ≤ 140737488355328) (hn : n = ys.length) : Calls Tryz.prog 189 #[v, .int .i64 n, .func (.func 133) #[] #[]] w₀ (Ret fun u w' => u = .tuple #[] ∧ ∃ us, StS cmpW ys us ∧ Stp [j] w₀ C w' C ∧ OwnL w' C j 58 v us ∧ Lim w' C) := by
 have hT := Stp.refl [j] w₀ C
 refine c_st F189S.c0 63 [v, .int .i64 n, .func (.func 133) #[] #[]] Tryz.func189 ?_
 show Run _ _ _ _ [(0, v), (1, .int .i64 n), (2, .func (.func 133) #[] #[])] _ _
 refine run_sq (run_pl [yy 0] ?_)
 refine yAc 6 (.int .i64 20) ?_
 refine Sch.nil (run_sq (run_pl [yy 0, yy 1, yy 2] ?_))
 refine yM 10 6 ?_
 refine yAc 7 (.int .i64 0) ?_
 refine yA 8 10 ?_
 refine Sch.nil (run_sq (run_bk 0 ?_))
 refine run_lp (ι := Nat × Nat × (List Bond) × (Nat → Nat)) (I := fun x w => x.2.1 = x.1 * 20 ∧ x.2.1 ≤ n ∧ PL ys x.2.2.2 x.2.2.1 ∧ Within x.2.2.2 0 x.2.1 ∧ Blk cmpW ys x.2.2.2 x.1 ∧ Lim w C ∧ Stp [j] w₀ C w C ∧ OwnL w C j 58 v x.2.2.1) (e := fun x => [(0, v), (1, .int .i64 n), (2, .func (.func 133) #[] #[]), (6, .int .i64 20), (7, .int .i64 x.2.1), (8, .int .i64 (x.2.1 + 20 : Nat))]) (m := fun x => n - x.2.1) (x₀ := (0, 0, ys, fun x => x)) (sr 0 (sr 1 (sr 2 (sr 6 (sr 7 (sr 8 (sub_nil _))))))) ?_ ?_
 · exact ⟨rfl, Nat.zero_le _, PL.id ys, Within.id _ _, Blk.zero, hF, hT, ho⟩
 intro ⟨k, a, us, σ⟩ w1 hI next1
 obtain ⟨ha, han, hPL, hW, hB, hF, hT, ho⟩ := hI
 try simp only at ha han hPL hW hB hF hT ho
 show Run _ _ _ _ [(0, v), (1, .int .i64 n), (2, .func (.func 133) #[] #[]), (6, .int .i64 20), (7, .int .i64 a), (8, .int .i64 (a + 20 : Nat))] _ _
 have hul := hPL.len
 refine run_sq (run_sq (run_pl [yy 0, yy 1, yy 2] ?_))
 refine yM 11 8 ?_
 refine yM 12 1 ?_
 refine yV (kq 13 (.binOp .leq 3 (.tmp 11) (.tmp 12) 3)) (fun _ => val_leq rfl rfl) ?_
 refine Sch.nil ?_
 refine run_i 13 rfl (fun h13 => ?_) (fun h13 => ?_)
 ·
  have hk20 : a + 20 ≤ n := by omega
  refine run_sk (run_bk 1 (run_sq (run_pl [yy 0, yy 1, yy 2, yy 3, nn 4] ?_)))
  refine yM 14 0 ?_
  refine yM 15 7 ?_
  refine yM 16 8 ?_
  refine yM 17 2 ?_
  refine cG 18 219 [14, 15, 16, 17] [23, 3, 3, 188] Tryz.call219 rfl (insW_ok (a := a) (b := a + 20) hF hj ho (by omega) (by omega) (by omega)) ?_
  rintro vw2 w2 ⟨rfl, vs, τ, hPv, hWv, hAv, s_1, ho, hF⟩
  replace hT := hT.trans s_1 (by simp <;> omega)
  refine Sch.nil (run_sq (run_pl [yy 0, yy 1] ?_))
  refine yM 19 8 ?_
  refine yA 7 19 ?_
  refine Sch.nil (run_pl [yy 0, yy 1, yy 2, yy 3] ?_)
  refine yM 20 8 ?_
  refine yM 21 6 ?_
  refine yV (kq 22 (.binOp .add 3 (.tmp 20) (.tmp 21) 3)) (fun _ => val_is (val_addi rfl rfl (by omega) (by omega)) (congrArg (Value.int .i64) (show (((a + 20 : Nat) : Int) + 20 : Int) = ((a + 20 + 20 : Nat) : Int) from by omega))) ?_
  refine yA 8 22 ?_
  refine Sch.nil (run_inBlock ?_)
  refine kp (sr 0 (sr 1 (sr 2 (sr 6 (sr 7 (sr 8 (sub_nil _))))))) (next1 (k + 1, a + 20, vs, (fun x => σ (τ x))) _ ⟨(by first | omega | (simp only; omega)), (by first | omega | (simp only; omega)), (hPL.comp hPv), (show Within (fun x => σ (τ x)) 0 (a + 20) from (hW.mono (Nat.le_refl _) (by omega)).comp (hWv.mono (by omega) (by omega))), (hB.next ha hPL hW hWv hAv (by omega)), hF, hT, ho⟩ (by first | omega | (simp only; omega)))
 have hk20 : n < a + 20 := by omega
 refine run_ex 0 ?_
 refine run_sq (run_pl [yy 0, yy 1, yy 2, yy 3, nn 4] ?_)
 refine yM 23 0 ?_
 refine yM 24 7 ?_
 refine yM 25 1 ?_
 refine yM 26 2 ?_
 refine cG 27 219 [23, 24, 25, 26] [23, 3, 3, 188] Tryz.call219 rfl (insW_ok (a := a) (b := n) hF hj ho (by omega) (by omega) (by omega)) ?_
 rintro vw3 w3 ⟨rfl, vs, τ, hPv, hWv, hAv, s_2, ho, hF⟩
 replace hT := hT.trans s_2 (by simp <;> omega)
 refine Sch.nil ?_
 have hAll := hB.all ha hPL hW hn hWv hAv han hk20
 have hW2 : Within (fun x => σ (τ x)) 0 n := (hW.mono (Nat.le_refl _) han).comp (hWv.mono (by omega) (Nat.le_refl _))
 have hPL2 := hPL.comp hPv
 refine run_bk 2 ?_
 refine run_lp (ι := Nat × (List Bond) × (Nat → Nat)) (I := fun x w => 20 ≤ x.1 ∧ x.1 ≤ 2 * n + 20 ∧ PL ys x.2.2 x.2.1 ∧ Within x.2.2 0 n ∧ AllB cmpW ys x.2.2 x.1 n ∧ Lim w C ∧ Stp [j] w₀ C w C ∧ OwnL w C j 58 v x.2.1) (e := fun x => [(0, v), (1, .int .i64 n), (2, .func (.func 133) #[] #[]), (6, .int .i64 x.1)]) (m := fun x => n - x.1) (x₀ := (20, vs, (fun x => σ (τ x)))) (sr 0 (sr 1 (sr 2 (sr 6 (sub_nil _))))) ?_ ?_
 · exact ⟨Nat.le_refl _, by omega, hPL2, hW2, hAll, hF, hT, ho⟩
 intro ⟨d, us, σ⟩ w4 hI next2
 obtain ⟨hd, hd2, hPL, hW, hAll, hF, hT, ho⟩ := hI
 try simp only at hd hd2 hPL hW hAll hF hT ho
 show Run _ _ _ _ [(0, v), (1, .int .i64 n), (2, .func (.func 133) #[] #[]), (6, .int .i64 d)] _ _
 have hul := hPL.len
 refine run_sq (run_sq (run_pl [yy 0, yy 1, yy 2] ?_))
 refine yM 28 6 ?_
 refine yM 29 1 ?_
 refine yL 30 3 28 29 ?_
 refine Sch.nil ?_
 refine run_i 30 rfl (fun h30 => ?_) (fun h30 => ?_)
 ·
  have hdn : d < n := by omega
  refine run_sk (run_bk 3 (run_sq (run_pl [yy 0, yy 1, yy 2, yy 3] ?_)))
  refine yM 31 6 ?_
  refine yV (kq 32 (.binOp .mul 3 (.const (.int .i64 2)) (.tmp 31) 3)) (fun _ => val_is (val_muli rfl rfl (by omega) (by omega)) (congrArg (Value.int .i64) (show (2 * (d : Int) : Int) = ((2 * d : Nat) : Int) from by omega))) ?_
  refine yAc 7 (.int .i64 0) ?_
  refine yA 8 32 ?_
  refine Sch.nil (run_sq (run_bk 4 ?_))
  refine run_lp (ι := Nat × Nat × (List Bond) × (Nat → Nat)) (I := fun x w => x.2.1 = x.1 * (2 * d) ∧ x.2.1 ≤ n ∧ PL ys x.2.2.2 x.2.2.1 ∧ Within x.2.2.2 0 n ∧ Mix cmpW ys x.2.2.2 d n x.1 ∧ Lim w C ∧ Stp [j] w₀ C w C ∧ OwnL w C j 58 v x.2.2.1) (e := fun x => [(0, v), (1, .int .i64 n), (2, .func (.func 133) #[] #[]), (6, .int .i64 d), (7, .int .i64 x.2.1), (8, .int .i64 (x.2.1 + 2 * d : Nat))]) (m := fun x => n - x.2.1) (x₀ := (0, 0, us, σ)) (sr 0 (sr 1 (sr 2 (sr 6 (sr 7 (sub_cons 8 rfl (eq_int (by simp)) (sub_nil _))))))) ?_ ?_
  · exact ⟨(Nat.zero_mul _).symm, Nat.zero_le _, hPL, hW, hAll.mix, hF, hT, ho⟩
  intro ⟨k, a, us, σ⟩ w5 hI next3
  obtain ⟨ha, han, hPL, hW, hM, hF, hT, ho⟩ := hI
  try simp only at ha han hPL hW hM hF hT ho
  show Run _ _ _ _ [(0, v), (1, .int .i64 n), (2, .func (.func 133) #[] #[]), (6, .int .i64 d), (7, .int .i64 a), (8, .int .i64 (a + 2 * d : Nat))] _ _
  have hul := hPL.len
  refine run_sq (run_sq (run_pl [yy 0, yy 1, yy 2] ?_))
  refine yM 33 8 ?_
  refine yM 34 1 ?_
  refine yV (kq 35 (.binOp .leq 3 (.tmp 33) (.tmp 34) 3)) (fun _ => val_leq rfl rfl) ?_
  refine Sch.nil ?_
  refine run_i 35 rfl (fun h35 => ?_) (fun h35 => ?_)
  ·
   have hkd : a + 2 * d ≤ n := by omega
   have hs1 := hM.fst ha (by omega)
   have hs2 := hM.snd ha
   rw [show min (a + 2 * d) n = a + 2 * d by omega] at hs2
   have hSy := SymP.ofSeg cmpW_3 hP hPL hs1 hs2 (by omega) (by omega) (by omega)
   refine run_sk (run_bk 5 (run_sq (run_pl [yy 0, yy 1, yy 2, yy 3, yy 4, yy 5, yy 6, nn 7] ?_)))
   refine yM 36 0 ?_
   refine yM 37 7 ?_
   refine yM 38 7 ?_
   refine yM 39 6 ?_
   refine yV (kq 40 (.binOp .add 3 (.tmp 38) (.tmp 39) 3)) (fun _ => val_is (val_addi rfl rfl (by omega) (by omega)) (congrArg (Value.int .i64) (show ((a : Int) + (d : Int) : Int) = ((a + d : Nat) : Int) from by omega))) ?_
   refine yM 41 8 ?_
   refine yM 42 2 ?_
   refine cG 43 220 [36, 37, 40, 41, 42] [23, 3, 3, 3, 188] Tryz.call220 rfl (symMWL_ok hP hj (a + 2 * d) (a) (a + d) (a + 2 * d) _ _ _ _ (by omega) hSy hPL hF ho (by omega)) ?_
   rintro vw6 w6 ⟨rfl, vs, τ, hq, s_3, ho, hF⟩
   replace hT := hT.trans s_3 (by simp <;> omega)
   refine Sch.nil (run_sq (run_pl [yy 0, yy 1] ?_))
   refine yM 44 8 ?_
   refine yA 7 44 ?_
   refine Sch.nil (run_pl [yy 0, yy 1, yy 2, yy 3, yy 4] ?_)
   refine yM 45 8 ?_
   refine yM 46 6 ?_
   refine yV (kq 47 (.binOp .mul 3 (.const (.int .i64 2)) (.tmp 46) 3)) (fun _ => val_is (val_muli rfl rfl (by omega) (by omega)) (congrArg (Value.int .i64) (show (2 * (d : Int) : Int) = ((2 * d : Nat) : Int) from by omega))) ?_
   refine yV (kq 48 (.binOp .add 3 (.tmp 45) (.tmp 47) 3)) (fun _ => val_is (val_addi rfl rfl (by omega) (by omega)) (congrArg (Value.int .i64) (show (((a + 2 * d : Nat) : Int) + ((2 * d : Nat) : Int) : Int) = ((a + 2 * d + 2 * d : Nat) : Int) from by omega))) ?_
   refine yA 8 48 ?_
   refine Sch.nil (run_inBlock ?_)
   refine kp (sr 0 (sr 1 (sr 2 (sr 6 (sr 7 (sr 8 (sub_nil _))))))) (next3 (k + 1, a + 2 * d, vs, (fun x => σ (τ x))) _ ⟨(by simp only; rw [Nat.succ_mul k, ← ha]), (by first | omega | (simp only; omega)), hq.pl, (hW.comp (hq.wi.mono (by omega) (by omega))), (hM.next ha hkd hq), hF, hT, ho⟩ (by first | omega | (simp only; omega)))
  have hkd : n < a + 2 * d := by omega
  refine run_ex 4 ?_
  refine run_sq (run_sq (run_pl [yy 0, yy 1, yy 2, yy 3] ?_))
  refine yM 49 7 ?_
  refine yM 50 6 ?_
  refine yV (kq 51 (.binOp .add 3 (.tmp 49) (.tmp 50) 3)) (fun _ => val_is (val_addi rfl rfl (by omega) (by omega)) (congrArg (Value.int .i64) (show ((a : Int) + (d : Int) : Int) = ((a + d : Nat) : Int) from by omega))) ?_
  refine yA 9 51 ?_
  refine Sch.nil (run_sq (run_pl [yy 0, yy 1, yy 2] ?_))
  refine yM 52 9 ?_
  refine yM 53 1 ?_
  refine yL 54 3 52 53 ?_
  refine Sch.nil ?_
  refine run_i 54 rfl (fun h54 => ?_) (fun h54 => ?_)
  ·
   have hmn : a + d < n := by omega
   have hs1 := hM.fst ha (by omega)
   have hs2 := hM.snd ha
   rw [show min (a + 2 * d) n = n by omega] at hs2
   have hSy := SymP.ofSeg cmpW_3 hP hPL hs1 hs2 (by omega) (by omega) (by omega)
   refine run_pl [yy 0, yy 1, yy 2, yy 3, yy 4, nn 5] ?_
   refine yM 55 0 ?_
   refine yM 56 7 ?_
   refine yM 57 9 ?_
   refine yM 58 1 ?_
   refine yM 59 2 ?_
   refine cG 60 220 [55, 56, 57, 58, 59] [23, 3, 3, 3, 188] Tryz.call220 rfl (symMWL_ok hP hj (n) (a) (a + d) (n) _ _ _ _ (by omega) hSy hPL hF ho (by omega)) ?_
   rintro vw7 w7 ⟨rfl, vs, τ, hq, s_4, ho, hF⟩
   replace hT := hT.trans s_4 (by simp <;> omega)
   refine Sch.nil (run_pl [yy 0, yy 1, yy 2] ?_)
   refine yM 61 6 ?_
   refine yV (kq 62 (.binOp .mul 3 (.tmp 61) (.const (.int .i64 2)) 3)) (fun _ => val_is (val_muli rfl rfl (by omega) (by omega)) (congrArg (Value.int .i64) (show ((d : Int) * 2 : Int) = ((2 * d : Nat) : Int) from by omega))) ?_
   refine yA 6 62 ?_
   refine Sch.nil (run_inBlock ?_)
   refine kp (sr 0 (sr 1 (sr 2 (sr 6 (sub_nil _))))) (next2 (2 * d, vs, (fun x => σ (τ x))) _ ⟨(by first | omega | (simp only; omega)), (by first | omega | (simp only; omega)), hq.pl, (hW.comp (hq.wi.mono (by omega) (Nat.le_refl _))), (hM.last ha hmn hkd hq), hF, hT, ho⟩ (by first | omega | (simp only; omega)))
  have hmn : n ≤ a + d := by omega
  refine run_sk (run_pl [yy 0, yy 1, yy 2] ?_)
  refine yM 61 6 ?_
  refine yV (kq 62 (.binOp .mul 3 (.tmp 61) (.const (.int .i64 2)) 3)) (fun _ => val_is (val_muli rfl rfl (by omega) (by omega)) (congrArg (Value.int .i64) (show ((d : Int) * 2 : Int) = ((2 * d : Nat) : Int) from by omega))) ?_
  refine yA 6 62 ?_
  refine Sch.nil (run_inBlock ?_)
  refine kp (sr 0 (sr 1 (sr 2 (sr 6 (sub_nil _))))) (next2 (2 * d, us, σ) _ ⟨(by first | omega | (simp only; omega)), (by first | omega | (simp only; omega)), (by first | omega | (simp only; omega)), (by first | omega | (simp only; omega)), (hM.rest ha hmn han), hF, hT, ho⟩ (by first | omega | (simp only; omega)))
 have hdn : n ≤ d := by omega
 refine run_ex 2 ?_
 refine run_end0 Tryz.func189 rfl ?_
 subst hn
 exact ⟨rfl, us, ⟨σ, hPL, hW, hAll.done hdn⟩, hT, ho, hF⟩
namespace F132S
def c0 := bodyOf Tryz.f132
end F132S
theorem sortSWL_ok {w₀ : World} {C : Nat → Nat} {j : Nat} {v : Value} {ys : List Bond} (hF : Lim w₀ C) (hj : j ≠ 0) (ho : OwnL w₀ C j 58 v ys) (hP : ∀ x ∈ ys, (fun _ => True) x) (hlen : ys.length ≤ 140737488355328) : Calls Tryz.prog 132 #[v, .func (.func 133) #[] #[]] w₀ (Ret fun u w' => u = .tuple #[] ∧ ∃ us, StS cmpW ys us ∧ Stp [j] w₀ C w' C ∧ OwnL w' C j 58 v us ∧ Lim w' C) := by
 have hT := Stp.refl [j] w₀ C
 refine c_st F132S.c0 9 [v, .func (.func 133) #[] #[]] Tryz.func132 ?_
 show Run _ _ _ _ [(0, v), (1, .func (.func 133) #[] #[])] _ _
 refine run_pl [yy 0, yy 1, yy 2, yy 3, nn 4] ?_
 refine yM 4 0 ?_
 refine yM 5 0 ?_
 refine yS (kq 6 (.call { callee := .builtin .len, args := #[(.tmp 5)], argTypes := #[23] })) rfl rfl (fun w' hS => ho.lenV rfl Tryz.underlying23 w' ) ?_
 refine yM 7 1 ?_
 refine cG 8 189 [4, 6, 7] [23, 3, 188] Tryz.call189 rfl (stableWL_ok (n := ys.length) hF hj ho hP hlen rfl) ?_
 rintro vw1 w1 ⟨rfl, zs, hSt, s_1, ho, hF⟩
 replace hT := hT.trans s_1 (by simp <;> omega)
 refine Sch.nil ?_
 refine run_end0 Tryz.func132 rfl ?_
 exact ⟨rfl, zs, hSt, hT, ho, hF⟩
end
end Go.Proofs.YtmdhggfehknjjaaGreat
