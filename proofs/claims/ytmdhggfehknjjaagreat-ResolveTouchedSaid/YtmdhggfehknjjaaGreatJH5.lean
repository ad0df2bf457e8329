/- Steps through functions of the program. -/
import Derived.Test.YtmdhggfehknjjaaGreatJH1
set_option linter.unusedVariables false
set_option linter.unusedSimpArgs false
set_option maxRecDepth 100000
set_option maxHeartbeats 4000000
namespace Go.Proofs.YtmdhggfehknjjaaGreat
open Go.K Go.K.Rep
noncomputable section
namespace F147
def c0 := bodyOf Tryz.f147
def o1 := rops (cl (cr c0))
end F147
theorem cmpCC_ok {w₀ : World} {C : Nat → Nat} {x y : CC} (hF : Lim w₀ C) : Calls Tryz.prog 147 #[.agg (encCC x).toArray, .agg (encCC y).toArray] w₀ (Ret fun v w' => v = .int .i64 (cmpCC x y) ∧ Stp [] w₀ C w' C) := by
 have hF0 := hF
 have hT := Stp.refl [2, 3, 4, 5, 6, 7, 8, 9] w₀ (col1 C)
 replace hF := hF.col1
 refine c_st F147.c0 17 [.agg (encCC x).toArray, .agg (encCC y).toArray] Tryz.func147 ?_
 show Run _ _ _ _ [(0, .agg (encCC x).toArray), (1, .agg (encCC y).toArray)] _ _
 refine run_sq (run_pl [nn 0, nn 1, yy 2] ?_)
 refine aT (kq 2 (.box 138 (.tmp 0))) rfl rfl (a_box (cs := encCC x) hF 3 rfl rfl) ?_
 rintro _ w1 ⟨Cw1, bw1, rfl, s_1, hx, hF⟩
 refine aT (kq 3 (.box 138 (.tmp 1))) rfl rfl (a_box (cs := encCC y) hF 3 rfl rfl) ?_
 rintro _ w2 ⟨Cw2, bw2, rfl, s_2, hy, hF⟩
 refine yAc 4 (.int .i64 0) ?_
 refine Sch.nil (run_sq ?_)
 refine run_draw (id := 1) (ops := F147.o1) [] (Cw2) [yy 0, yy 1, yy 2, yy 3, yy 5, yy 6, yy 7, yy 8, nn 4, nn 9, nn 10, nn 11, yy 12] Tryz_mixed (by kernel_rfl) (by kernel_rfl) (by kernel_rfl) ?_
 intro w3 s_3
 have hR := Stp.refl [] w3 (Cw2)
 refine yF 5 138 2 0 0 ?_
 replace hx := (hx.t s_2).t s_3
 refine yS (kq 6 (.load 55 (.tmp 5))) rfl rfl (fun w' hS => val_loadOwnAgg (n := 2) (vs := encR x.1) (hx.stay hS (by decide)) (by kernel_rfl) (by kernel_rfl) rfl rfl rfl) ?_
 refine yF 7 138 3 0 0 ?_
 replace hy := hy.t s_3
 refine yS (kq 8 (.load 55 (.tmp 7))) rfl rfl (fun w' hS => val_loadOwnAgg (n := 2) (vs := encR y.1) (hy.stay hS (by decide)) (by kernel_rfl) (by kernel_rfl) rfl rfl rfl) ?_
 refine yF 10 138 2 1 2 ?_
 refine yS (kq 11 (.load 55 (.tmp 10))) rfl rfl (fun w' hS => val_loadOwnAgg (n := 2) (vs := encR x.2) (hx.stay hS (by decide)) (by kernel_rfl) (by kernel_rfl) rfl rfl rfl) ?_
 refine yF 12 138 3 1 2 ?_
 refine yS (kq 13 (.load 55 (.tmp 12))) rfl rfl (fun w' hS => val_loadOwnAgg (n := 2) (vs := encR y.2) (hy.stay hS (by decide)) (by kernel_rfl) (by kernel_rfl) rfl rfl rfl) ?_
 replace hF := hF.st s_3
 refine cF 9 53 [6, 8] [55, 55] Tryz.call53 rfl (compare_ok (x := x.1) (y := y.1) hF) ?_
 rintro vw4 w4 ⟨rfl, s_4⟩
 refine ⟨(hR.trans s_4 (by simp)).ext, ?_⟩
 replace hF := hF.st s_4
 refine cF 14 53 [11, 13] [55, 55] Tryz.call53 rfl (compare_ok (x := x.2) (y := y.2) hF) ?_
 rintro vw5 w5 ⟨rfl, s_5⟩
 replace hR := hR.t s_4
 refine ⟨(hR.trans s_5 (by simp)).ext, ?_⟩
 replace hF := hF.st s_5
 refine aS (kq 15 (.buildSlice 22 2 #[(0, (.tmp 9)), (1, (.tmp 14))])) rfl rfl (a_buildSlice (ys := ([cmpC x.1 y.1, cmpC x.2 y.2] : List Int)) (e := 3) (bytes := 8) hF (by kernel_rfl) rfl (by decide) (by decide) ⟨rfl, ⟨_, rfl, rv_int.2 rfl⟩, rfl, ⟨_, rfl, rv_int.2 rfl⟩, trivial⟩) ?_
 rintro v15 w6 ⟨s_6, g15, hF⟩
 replace hR := hR.t s_5
 refine ⟨(hR.trans s_6 (by simp)).ext, ?_⟩
 refine cF 16 96 [15] [22] Tryz.call96 rfl (orI_ok g15) ?_
 rintro vw7 w7 ⟨rfl, rfl⟩
 replace hR := hR.t s_6
 refine ⟨hR.ext, ?_⟩
 refine yA 4 16 ?_
 refine Sch.nil ?_
 refine rt1 Tryz.func147 Tryz.results147 ?_
 replace hT := (((((hT.t s_1).t s_2).t s_3).t s_4).t s_5).t s_6
 exact ⟨rfl, hT.out1 (by decide)⟩
theorem ltOfCC (x y : CC) : Go.Proofs.ltOf cmpCC x y = !leCC y x := by unfold leCC Go.Proofs.ltOf; simp
theorem ltOfCC_iff {x y : CC} : Go.Proofs.ltOf cmpCC x y = true ↔ ltCC x y := by rw [ltOfCC, Bool.not_eq_true', Bool.eq_false_iff, ne_eq, leCC_iff, Classical.not_not]
theorem swoCC : Go.Sort.SWO (Go.Proofs.ltOf cmpCC) where
  irrefl x := by rw [Bool.eq_false_iff, ne_eq, ltOfCC_iff]; exact ltCC_irrefl x
  trans x y z h h' := ltOfCC_iff.2 (ltCC_trans (ltOfCC_iff.1 h) (ltOfCC_iff.1 h'))
  ntrans x y z h h' := by
    rw [ltOfCC, Bool.not_eq_false'] at h h' ⊢
    exact leCC_trans z y x h' h
theorem ltCC_total (x y : CC) (h : Go.Proofs.ltOf cmpCC x y = false) (h' : Go.Proofs.ltOf cmpCC y x = false) : x = y := by
  rw [ltOfCC, Bool.not_eq_false'] at h h'
  exact leCC_anti x y h' h
theorem sortCC_ok {w : World} {C : Nat → Nat} {j : Nat} {v : Value} {ys : List CC} (hF : Lim w C) (ho : OwnL w C j 138 v ys) (hlen : ys.length ≤ 140737488355328) :
    Calls Tryz.prog 146 #[v, .func (.func 147) #[] #[]] w (Ret fun u w' => u = .tuple #[] ∧ Stp [j] w C w' C ∧ OwnL w' C j 138 v (sortCC ys) ∧ Lim w' C) :=
  sort_own (enc := encCC) (cf := cmpCC) Go.Proofs.Tryz.sortCC (fun w => Tryz.isAgg138 w) (fun w => Tryz.sizeOf138 w)
    (fun h M x vs => rep_cc) (fun x => rfl) (by decide) (fun x u hu => by simp only [encCC, List.mem_cons, List.not_mem_nil, or_false] at hu; rcases hu with rfl | rfl | rfl | rfl <;> rfl) swoCC ltCC_total (fun args w => Tryz.call147 args w)
    (fun W x y => (cmpCC_ok (C := fun _ => 0) (fun b hb => absurd rfl hb)).mono (by rintro e w' ⟨u, rfl, rfl, hs⟩; exact ⟨_, rfl, rfl, hs.ext.mono (fun b _ hb => by simp at hb)⟩)) hF ho hlen
namespace F148
def c0 := bodyOf Tryz.f148
def c14 := (cl (cr (cl (cr (cr c0)))))
def c24 := (cl (cl (cl (cr (cl c14)))))
def o6 := rops c24
def c25 := (cr (cl (cl (cr (cl c14)))))
def c32 := (cl (cr (cl (cr (cl c25)))))
def c42 := (cl (cl (cl (cr (cl c32)))))
def o11 := rops c42
end F148
theorem compactCC_ok {w₀ : World} {C : Nat → Nat} {j : Nat} {v : Value} {xs : List CC} (hF : Lim w₀ C) (hj : j ≠ 0) (ho : OwnL w₀ C j 138 v xs) (hlen : xs.length ≤ 140737488355328) :
    Calls Tryz.prog 148 #[v] w₀ (Ret fun u w' => Stp [j] w₀ C w' C ∧ OwnL w' C j 138 u (compactS xs) ∧ Lim w' C) := by
 have hT := Stp.refl [j] w₀ C
 refine c_st F148.c0 61 [v] Tryz.func148 ?_
 show Run _ _ _ _ [(0, v)] _ _
 refine run_sq (run_pl [yy 0] ?_)
 refine yV (kq 2 (.assign (.const (.slice none 0 0)))) (fun _ => val_assign rfl) ?_
 refine Sch.nil (run_sq (run_sq (run_pl [yy 0, yy 1, yy 2] ?_)))
 refine yM 6 0 ?_
 refine yS (kq 7 (.call { callee := .builtin .len, args := #[(.tmp 6)], argTypes := #[136] })) rfl rfl (fun w' hS => ho.lenV rfl Tryz.underlying136 w' ) ?_
 refine yV (kq 8 (.binOp .lss 3 (.tmp 7) (.const (.int .i64 2)) 3)) (fun _ => val_lss rfl rfl) ?_
 refine Sch.nil ?_
 refine run_i 8 rfl (fun h8 => ?_) (fun h8 => ?_)
 ·
  have hx : compactS xs = xs := by
    match xs, h8 with
    | [], _ => rfl
    | [a], _ => rfl
    | a :: b :: l, h => simp at h; omega
  refine run_sq (run_pl [yy 0, yy 1] ?_)
  refine yM 9 0 ?_
  refine yA 2 9 ?_
  refine Sch.nil ?_
  refine rt1 Tryz.func148 Tryz.results148 ?_
  exact ⟨hT, by rw [hx]; exact ho, hF⟩
 have h2 : 2 ≤ xs.length := by omega
 have hcz : compactS (xs.take 1) = xs.take 1 := by
   obtain ⟨a, l, rfl⟩ : ∃ a l, xs = a :: l := by cases xs with | nil => simp at h2 | cons a l => exact ⟨a, l, rfl⟩
   simp [compactS]
 refine run_sk (run_sq (run_sq (run_pl [yy 0] ?_)))
 refine yAc 3 (.int .i64 1) ?_
 refine Sch.nil (run_bk 0 ?_)
 refine run_lp (ι := Nat) (I := fun x w => 1 ≤ x ∧ x ≤ xs.length ∧ compactS (xs.take x) = xs.take x ∧ Lim w C ∧ Stp [j] w₀ C w C ∧ OwnL w C j 138 v xs) (e := fun x => [(0, v), (3, .int .i64 x)]) (m := fun x => xs.length - x) (x₀ := 1) (sr 0 (sr 3 (sub_nil _))) ?_ ?_
 · exact ⟨Nat.le_refl _, by first | omega | (simp only; omega), hcz, hF, hT, ho⟩
 intro k w1 hI next1
 obtain ⟨hk1, hk, hc, hF, hT, ho⟩ := hI
 try simp only at hk1 hk hc hF hT ho
 show Run _ _ _ _ [(0, v), (3, .int .i64 k)] _ _
 refine run_sq (run_sq (run_pl [yy 0, yy 1, yy 2, yy 3] ?_))
 refine yM 10 3 ?_
 refine yM 11 0 ?_
 refine yS (kq 12 (.call { callee := .builtin .len, args := #[(.tmp 11)], argTypes := #[136] })) rfl rfl (fun w' hS => ho.lenV rfl Tryz.underlying136 w' ) ?_
 refine yL 13 3 10 12 ?_
 refine Sch.nil ?_
 refine run_i 13 rfl (fun h13 => ?_) (fun h13 => ?_)
 ·
  have hkl : k < xs.length := by omega
  have hct := compactS_take hk1 hkl
  refine run_sk (run_sq (run_bk 1 (run_sq ?_)))
  refine run_draw (id := 6) (ops := F148.o6) [] (C) [yy 0, yy 1, yy 2, yy 3, yy 4, yy 5, yy 6, yy 7, yy 8, yy 9] Tryz_mixed (by kernel_rfl) (by kernel_rfl) (by kernel_rfl) ?_
  intro w2 s_1
  refine yM 16 0 ?_
  refine yM 17 3 ?_
  replace ho := ho.t s_1
  refine oR 138 18 136 16 17 ho rfl (by first | omega | (simp only [Int.toNat_natCast]; omega)) (h := ?_)
  intro g18 hg18
  try simp only [Int.toNat_natCast]
  refine oSA (I := []) (kq 19 (.load 138 (.tmp 18))) rfl rfl ho hg18 (fun w' hS => ho.sy hg18 hS) (by first | omega | (simp only [Int.toNat_natCast]; omega)) (by kernel_rfl) (by kernel_rfl) rfl rfl ?_
  intro v19 g19
  try simp only [Int.toNat_natCast] at g19
  refine yM 20 0 ?_
  refine yM 21 3 ?_
  refine yV (kq 22 (.binOp .sub 3 (.tmp 21) (.const (.int .i64 1)) 3)) (fun _ => val_subi rfl rfl (by omega) (by omega)) ?_
  refine oR 138 23 136 20 22 ho rfl (by first | omega | (simp only [Int.toNat_natCast]; omega)) (h := ?_)
  intro g23 hg23
  try simp only [Int.toNat_natCast]
  refine oSA (I := []) (kq 24 (.load 138 (.tmp 23))) rfl rfl ho hg23 (fun w' hS => ho.sy hg23 hS) (by first | omega | (simp only [Int.toNat_natCast]; omega)) (by kernel_rfl) (by kernel_rfl) rfl rfl ?_
  intro v24 g24
  try simp only [Int.toNat_natCast] at g24
  obtain rfl := rv_cc.1 g19
  obtain rfl := rv_cc.1 g24
  refine yV (kq 25 (.binOp .eql 138 (.tmp 19) (.tmp 24) 138)) (fun _ => val_eqCC (a := _) (b := _) (eqOK_pair Tryz.underlying138 (by decide) (by decide) (by kernel_rfl) Tryz.underlying55 (by decide) (by decide) (by kernel_rfl) Tryz.underlying3 (by kernel_rfl) (by kernel_rfl)) (by kernel_rfl) rfl rfl) ?_
  refine Sch.nil ?_
  refine run_i 25 rfl (fun h25 => ?_) (fun h25 => ?_)
  ·
   have hd : xs[k - 1]'(by omega) = xs[k] := by
     have e : ((k : Int) - 1).toNat = k - 1 := by omega
     simp only [e] at h25; exact h25.symm
   rw [if_pos hd, hc] at hct
   refine run_sq (run_pl [yy 0, yy 1, yy 2, yy 3] ?_)
   refine yM 26 0 ?_
   refine yM 27 3 ?_
   refine sFO (e' := 138) (kq 28 (.slice 136 (.tmp 26) (some (.tmp 27)) none none)) rfl rfl ho rfl (by kernel_rfl) rfl (by omega) (by omega) ?_
   intro v28 h28
   try simp only [Int.toNat_natCast] at h28
   obtain ⟨gg28, hgg28⟩ := ho.ob_ex (by omega)
   refine yA 4 28 ?_
   refine Sch.nil (run_sq (run_sq (run_pl [yy 0] ?_)))
   refine yAc 5 (.int .i64 1) ?_
   refine Sch.nil (run_bk 2 ?_)
   refine run_lp (ι := Nat × Nat × (List CC)) (I := fun x w => 1 ≤ x.1 ∧ k + x.1 ≤ xs.length ∧ x.2.2.length = xs.length ∧ x.2.1 + 1 ≤ k + x.1 ∧ (∀ p (hp : p < xs.length) (hp2 : p < x.2.2.length), k + x.1 ≤ p + 1 → x.2.2[p] = xs[p]) ∧ x.2.2.take x.2.1 = compactS (xs.take (k + x.1)) ∧ Lim w C ∧ Stp [j] w₀ C w C ∧ OwnL w C j 138 v x.2.2) (e := fun x => [(0, v), (3, .int .i64 x.2.1), (4, v28), (5, .int .i64 x.1)]) (m := fun x => xs.length - k - x.1) (x₀ := (1, k, xs)) (sr 0 (sr 3 (sr 4 (sr 5 (sub_nil _))))) ?_ ?_
   ·
     replace hF := hF.st s_1; replace hT := hT.t s_1
     exact ⟨Nat.le_refl _, by first | omega | (simp only; omega), rfl, by first | omega | (simp only; omega), fun p _ _ _ => rfl, hct.symm, hF, hT, ho⟩
   intro ⟨q, i, ys⟩ w3 hI next2
   obtain ⟨hq1, hq, hyl, hi, hys, hc2, hF, hT, ho⟩ := hI
   try simp only at hq1 hq hyl hi hys hc2 hF hT ho
   show Run _ _ _ _ [(0, v), (3, .int .i64 i), (4, v28), (5, .int .i64 q)] _ _
   refine run_sq (run_sq (run_pl [yy 0, yy 1, yy 2, yy 3] ?_))
   refine yM 29 5 ?_
   refine yM 30 4 ?_
   refine yS (kq 31 (.call { callee := .builtin .len, args := #[(.tmp 30)], argTypes := #[136] })) rfl rfl (fun w' hS => h28.lenV rfl Tryz.underlying136 w' ) ?_
   refine yL 32 3 29 31 ?_
   refine Sch.nil ?_
   refine run_i 32 rfl (fun h32 => ?_) (fun h32 => ?_)
   ·
    have hql : k + q < xs.length := by omega
    have hct2 := compactS_take (l := xs) (k := k + q) (by omega) hql
    have e1 : k + ((q : Int) - 1).toNat = k + q - 1 := by omega
    refine run_sk (run_sq (run_bk 3 (run_sq ?_)))
    refine run_draw (id := 11) (ops := F148.o11) [] (C) [yy 0, yy 1, yy 2, yy 3, yy 4, yy 5, yy 6, yy 7, yy 8, yy 9] Tryz_mixed (by kernel_rfl) (by kernel_rfl) (by kernel_rfl) ?_
    intro w4 s_2
    refine yM 35 4 ?_
    refine yM 36 5 ?_
    refine yV (kq 37 (.indexAddr 136 (.tmp 35) (.tmp 36))) (fun _ => val_indexSub (e' := 138) h28 hgg28 (by kernel_rfl) rfl rfl (by omega) (by omega)) ?_
    try simp only [Int.toNat_natCast]
    replace ho := ho.t s_2
    refine oSA (I := []) (kq 38 (.load 138 (.tmp 37))) rfl rfl ho hgg28 (fun w' hS => ho.sy hgg28 hS) (by first | omega | (simp only [Int.toNat_natCast]; omega)) (by kernel_rfl) (by kernel_rfl) rfl rfl ?_
    intro v38 g38
    try simp only [Int.toNat_natCast] at g38
    refine yM 39 4 ?_
    refine yM 40 5 ?_
    refine yV (kq 41 (.binOp .sub 3 (.tmp 40) (.const (.int .i64 1)) 3)) (fun _ => val_subi rfl rfl (by omega) (by omega)) ?_
    refine yV (kq 42 (.indexAddr 136 (.tmp 39) (.tmp 41))) (fun _ => val_indexSub (e' := 138) h28 hgg28 (by kernel_rfl) rfl rfl (by omega) (by omega)) ?_
    try simp only [Int.toNat_natCast]
    refine oSA (I := []) (kq 43 (.load 138 (.tmp 42))) rfl rfl ho hgg28 (fun w' hS => ho.sy hgg28 hS) (by first | omega | (simp only [Int.toNat_natCast]; omega)) (by kernel_rfl) (by kernel_rfl) rfl rfl ?_
    intro v43 g43
    try simp only [Int.toNat_natCast] at g43
    obtain rfl := rv_cc.1 g38
    obtain rfl := rv_cc.1 g43
    refine yV (kq 44 (.binOp .neq 138 (.tmp 38) (.tmp 43) 138)) (fun _ => val_neCC (a := _) (b := _) (eqOK_pair Tryz.underlying138 (by decide) (by decide) (by kernel_rfl) Tryz.underlying55 (by decide) (by decide) (by kernel_rfl) Tryz.underlying3 (by kernel_rfl) (by kernel_rfl)) (by kernel_rfl) rfl rfl) ?_
    refine Sch.nil ?_
    refine run_i 44 rfl (fun h44 => ?_) (fun h44 => ?_)
    ·
     have r1 := hys (k + q) (by omega) (by omega) (by omega)
     have r2 := hys (k + q - 1) (by omega) (by omega) (by omega)
     have hd : ¬ xs[k + q - 1]'(by omega) = xs[k + q] := by
       simp only [e1, r1, r2] at h44; exact fun e => h44 e.symm
     rw [if_neg hd, ← hc2] at hct2
     refine run_sq (run_pl [yy 0, yy 1, yy 2, yy 3, yy 4, nn 5, yy 6, nn 7] ?_)
     refine yM 45 0 ?_
     refine yM 46 3 ?_
     refine yM 47 4 ?_
     refine yM 48 5 ?_
     refine yV (kq 49 (.indexAddr 136 (.tmp 47) (.tmp 48))) (fun _ => val_indexSub (e' := 138) h28 hgg28 (by kernel_rfl) rfl rfl (by omega) (by omega)) ?_
     try simp only [Int.toNat_natCast]
     refine oNA (kq 50 (.load 138 (.tmp 49))) rfl rfl trivial ho hgg28 (by first | omega | (simp only [Int.toNat_natCast]; omega)) (by kernel_rfl) (by kernel_rfl) rfl rfl ?_
     intro v50 g50
     try simp only [Int.toNat_natCast] at g50
     refine oR 138 51 136 45 46 ho rfl (by first | omega | (simp only [Int.toNat_natCast]; omega)) (h := ?_)
     intro g51 hg51
     try simp only [Int.toNat_natCast]
     refine aU (k0 (.store 138 (.tmp 51) (.tmp 50))) rfl (a_storeO ho hg51 (by first | omega | (simp only [Int.toNat_natCast]; omega)) rfl rfl (by kernel_rfl) g50) ?_
     rintro _ w5 ⟨rfl, s_3, ho⟩
     replace hT := hT.t s_2
     replace hT := hT.trans s_3 (by simp <;> omega)
     refine Sch.nil (run_pl [yy 0, yy 1, yy 2] ?_)
     refine yM 52 3 ?_
     refine yI 53 3 52 1 ?_
     refine yA 3 53 ?_
     refine Sch.nil (run_inBlock (run_pl [yy 0, yy 1, yy 2] ?_))
     refine yM 33 5 ?_
     refine yI 34 3 33 1 ?_
     refine yA 5 34 ?_
     refine Sch.nil ?_
     replace hF := (hF.st s_2).st s_3
     refine kp (sr 0 (sub_cons 3 rfl (eq_int (by simp)) (sr 4 (sub_cons 5 rfl (eq_int (by simp)) (sub_nil _))))) (next2 (q + 1, i + 1, ys.set i ys[k + q]) _ ⟨(by first | omega | (simp only; omega)), (by first | omega | (simp only; omega)), (by simp only [List.length_set]; exact hyl), (by first | omega | (simp only; omega)), (fun p hp hp2 h => by simp only [List.getElem_set]; rw [if_neg (by omega)]; exact hys p hp (by omega) (by omega)), (by simp only; rw [List.take_succ_eq_append_getElem (by rw [List.length_set]; omega), List.take_set_of_le (Nat.le_refl i), List.getElem_set_self, r1]; exact hct2.symm), hF, hT, ho⟩ (by first | omega | (simp only; omega)))
    have r1 := hys (k + q) (by omega) (by omega) (by omega)
    have r2 := hys (k + q - 1) (by omega) (by omega) (by omega)
    have hd : xs[k + q - 1]'(by omega) = xs[k + q] := by
      simp only [e1, r1, r2] at h44; exact (Classical.not_not.1 h44).symm
    rw [if_pos hd, ← hc2] at hct2
    refine run_sk (run_inBlock (run_pl [yy 0, yy 1, yy 2] ?_))
    refine yM 33 5 ?_
    refine yI 34 3 33 1 ?_
    refine yA 5 34 ?_
    refine Sch.nil ?_
    replace hF := hF.st s_2; replace hT := hT.t s_2
    refine kp (sr 0 (sr 3 (sr 4 (sub_cons 5 rfl (eq_int (by simp)) (sub_nil _))))) (next2 (q + 1, i, ys) _ ⟨(by first | omega | (simp only; omega)), (by first | omega | (simp only; omega)), (by first | omega | (simp only; omega)), (by first | omega | (simp only; omega)), (fun p hp hp2 h => hys p hp hp2 (by simp only at h; omega)), hct2.symm, hF, hT, ho⟩ (by first | omega | (simp only; omega)))
   have hql : k + q = xs.length := by omega
   rw [hql, List.take_length] at hc2
   refine run_ex 2 ?_
   refine run_sq (run_pl [yy 0, yy 1, yy 2, nn 3] ?_)
   refine yM 54 0 ?_
   refine yM 55 3 ?_
   refine sFO (e' := 138) (kq 56 (.slice 136 (.tmp 54) (some (.tmp 55)) none none)) rfl rfl ho rfl (by kernel_rfl) rfl (by omega) (by omega) ?_
   intro v56 h56
   try simp only [Int.toNat_natCast] at h56
   obtain ⟨gg56, hgg56⟩ := ho.ob_ex (by omega)
   refine aU (k0 (.call { callee := .builtin .clear, args := #[(.tmp 56)], argTypes := #[136] })) rfl (a_clear (x0 := (⟨⟨0, 0⟩, ⟨0, 0⟩⟩ : CC)) (zs := [.int .i64 0, .int .i64 0, .int .i64 0, .int .i64 0]) ho h56 (by omega) (by omega) Tryz.underlying136 (by kernel_rfl) (fun h M => zero_cc) rfl) ?_
   rintro _ wc ⟨s_4, ho⟩
   replace hT := hT.trans s_4 (by simp <;> omega)
   refine Sch.nil (run_sq (run_pl [yy 0, yy 1, yy 2, yy 3] ?_))
   refine yM 57 0 ?_
   refine yM 58 3 ?_
   have hyl2 : (ys.take i ++ List.replicate (ys.length - i) (⟨⟨0, 0⟩, ⟨0, 0⟩⟩ : CC)).length = xs.length := by simp; omega
   refine sTO (e' := 138) (kq 59 (.slice 136 (.tmp 57) none (some (.tmp 58)) none)) rfl rfl ho rfl (by kernel_rfl) rfl (by omega) (by omega) (by omega) ?_
   intro v59 h59
   try simp only [Int.toNat_natCast] at h59
   refine yA 2 59 ?_
   refine Sch.nil ?_
   refine rt1 Tryz.func148 Tryz.results148 ?_
   rw [List.take_left' (by rw [List.length_take]; omega), hc2] at h59
   replace hF := hF.st s_4
   exact ⟨hT, h59, hF⟩
  have hd : ¬ xs[k - 1]'(by omega) = xs[k] := by
    have e : ((k : Int) - 1).toNat = k - 1 := by omega
    simp only [e] at h25; exact fun e => h25 e.symm
  rw [if_neg hd, hc, ← List.take_succ_eq_append_getElem hkl] at hct
  refine run_sk (run_inBlock (run_pl [yy 0, yy 1, yy 2] ?_))
  refine yM 14 3 ?_
  refine yI 15 3 14 1 ?_
  refine yA 3 15 ?_
  refine Sch.nil ?_
  replace hF := hF.st s_1; replace hT := hT.t s_1
  refine kp (sr 0 (sub_cons 3 rfl (eq_int (by simp)) (sub_nil _))) (next1 (k + 1) _ ⟨(by first | omega | (simp only; omega)), (by first | omega | (simp only; omega)), hct, hF, hT, ho⟩ (by first | omega | (simp only; omega)))
 have hkl : k = xs.length := by omega
 subst hkl
 rw [List.take_length] at hc
 refine run_ex 0 ?_
 refine run_sq (run_pl [yy 0, yy 1] ?_)
 refine yM 60 0 ?_
 refine yA 2 60 ?_
 refine Sch.nil ?_
 refine rt1 Tryz.func148 Tryz.results148 ?_
 rw [hc]
 exact ⟨hT, ho, hF⟩
namespace F88
def c0 := bodyOf Tryz.f88
end F88
theorem within_ok {w₀ : World} {C : Nat → Nat} {s : List Couple} {ds : List Dcs} {vs vz : Value} (hF : Lim w₀ C) (hs0 : RV w₀ (Mc C) s vs) (hz : RV w₀ (Mc C) ds vz) (hm4 : ds.length ≤ 4096) : Calls Tryz.prog 88 #[vs, vz] w₀ (Ret fun v w' => Stp [] w₀ C w' C ∧ RV w' (Mc C) (withinC s ds) v) := by
 have hF0 := hF
 have hT := Stp.refl [2, 3, 4, 5, 6, 7, 8, 9] w₀ (col1 C)
 replace hF := hF.col1
 replace hs0 := hs0.c1
 replace hz := hz.c1
 refine c_st F88.c0 42 [vs, vz] Tryz.func88 ?_
 show Run _ _ _ _ [(0, vs), (1, vz)] _ _
 refine run_sq (run_pl [yy 0] ?_)
 refine yV (kq 4 (.assign (.const (.slice none 0 0)))) (fun _ => val_assign rfl) ?_
 refine Sch.nil (run_sq (run_pl [yy 0] ?_))
 refine yV (kq 5 (.assign (.const (.slice none 0 0)))) (fun _ => val_assign rfl) ?_
 refine Sch.nil (run_sq (run_sq (run_pl [yy 0, yy 1, yy 2] ?_)))
 refine yM 8 1 ?_
 refine yS (kq 9 (.call { callee := .builtin .len, args := #[(.tmp 8)], argTypes := #[27] })) rfl rfl (fun w' hS => hz.lenV rfl Tryz.underlying27 w' ) ?_
 refine yC 10 (.int .i64 0) ?_
 refine Sch.nil (run_bk 0 ?_)
 refine run_lp (ι := Nat × Value × (Nat → Nat)) (I := fun x w => x.1 ≤ ds.length ∧ Lim w x.2.2 ∧ Stp [2, 3, 4, 5, 6, 7, 8, 9] w₀ (col1 C) w x.2.2 ∧ RV w (Mc x.2.2) s vs ∧ RV w (Mc x.2.2) ds vz ∧ OwnL w x.2.2 4 138 x.2.1 (capL s (ds.take x.1))) (e := fun x => [(0, vs), (5, x.2.1), (8, vz), (9, .int .i64 ds.length), (10, .int .i64 x.1)]) (m := fun x => ds.length - x.1) (x₀ := (0, .slice none 0 0, col1 C)) (sr 0 (sr 5 (sr 8 (sr 9 (sr 10 (sub_nil _)))))) ?_ ?_
 · exact ⟨Nat.zero_le _, hF, hT, hs0, hz, OwnL.nil⟩
 intro ⟨k, vo, C1⟩ w1 hI next1
 obtain ⟨hk, hF, hT, hs0, hz, ho⟩ := hI
 try simp only at hk hF hT hs0 hz ho
 show Run _ _ _ _ [(0, vs), (5, vo), (8, vz), (9, .int .i64 ds.length), (10, .int .i64 k)] _ _
 have hle := hz.le
 have hel := capL_len (s := s) (ds := ds) k
 refine run_sq (run_pl [yy 0] ?_)
 refine yL 11 3 10 9 ?_
 refine Sch.nil (run_sq ?_)
 refine run_i 11 rfl (fun h11 => ?_) (fun h11 => ?_)
 ·
  have hkl : k < ds.length := by omega
  have hnx := capL_next (s := s) hkl
  refine run_sk (run_sq (run_bk 1 (run_sq (run_pl [yy 0, nn 1, nn 2, nn 3] ?_))))
  refine iR 89 12 27 8 10 hz rfl (h := ?_)
  intro b12 o12 h12
  try simp only [Int.toNat_natCast] at h12
  refine lNA (kq 13 (.load 89 (.tmp 12))) rfl rfl trivial h12 (by kernel_rfl) (by kernel_rfl) rfl rfl ?_
  intro v13 g13
  obtain rfl := rv_dcs.1 g13
  refine aT (kq 7 (.alloc 89)) rfl rfl (a_alloc (cs := [.int .i64 0, .int .i64 0, .int .i64 0, .int .i64 0, .int .i64 0, .int .i64 0, .bool false]) hF 5 (by kernel_rfl)) ?_
  rintro _ w2 ⟨Cw2, bw2, rfl, s_1, bx, hF⟩
  refine aU (k0 (.store 89 (.tmp 7) (.tmp 13))) rfl (a_storeAll (vs := encD (ds[k]'hkl)) (n := 7) rfl rfl (by kernel_rfl) rfl rfl (by intro u hu; simp only [encD, List.mem_cons, List.not_mem_nil, or_false] at hu; rcases hu with rfl | rfl | rfl | rfl | rfl | rfl | rfl <;> rfl) bx rfl) ?_
  rintro _ w3 ⟨rfl, s_2, bx⟩
  refine Sch.nil (run_sq ?_)
  by_cases hS : (ds[k]'hkl).same = true
  ·
   refine run_pl [yy 0, nn 1, yy 2, yy 3, yy 4, yy 5, nn 6, nn 7, yy 8, yy 9, yy 10, yy 11, nn 12, nn 13, yy 14] ?_
   refine yF 14 89 7 4 6 ?_
   refine nO 15 4 14 bx.at_ rfl rfl ?_
   rw [hS]
   refine yV (kq 16 (.unOp .not 4 (.tmp 15))) (fun _ => val_not rfl) ?_
   refine yM 17 16 ?_
   refine pX 18 3 true ?_
   refine pX 19 3 true ?_
   refine pW (kg 20 (.load 55 (.tmp 19)) 3 true) rfl rfl trivial ?_
   refine pW (kg 21 (.call { callee := .value (.func 49), args := #[(.tmp 18), (.tmp 20)], argTypes := #[52, 55] }) 3 true) rfl rfl trivial ?_
   refine yAf 22 17 21 ?_
   refine yM 23 22 ?_
   refine pX 24 9 true ?_
   refine pX 25 9 true ?_
   refine pW (kg 26 (.load 55 (.tmp 25)) 9 true) rfl rfl trivial ?_
   refine pW (kg 27 (.call { callee := .value (.func 49), args := #[(.tmp 24), (.tmp 26)], argTypes := #[52, 55] }) 9 true) rfl rfl trivial ?_
   refine yAf 28 23 27 ?_
   refine Sch.nil (run_cF 28 (run_sk (run_inBlock (run_pl [yy 0, yy 1] ?_))))
   refine yI 37 3 10 1 ?_
   refine yM 10 37 ?_
   refine Sch.nil ?_
   rw [if_neg (by unfold capB; simp [hS])] at hnx
   replace hT := (hT.t s_1).t s_2; replace hs0 := (hs0.t s_1).t s_2; replace hz := (hz.t s_1).t s_2; replace ho := (ho.t s_1).t s_2; replace hF := hF.st s_2
   refine kp (sr 0 (sr 5 (sr 8 (sr 9 (sub_cons 10 rfl (eq_int (by simp)) (sub_nil _)))))) (next1 (k + 1, vo, Cw2) _ ⟨(by first | omega | (simp only; omega)), hF, hT, hs0, hz, (by simp only; rw [hnx]; exact ho)⟩ (by first | omega | (simp only; omega)))
  by_cases hA : (ds[k]'hkl).A ∈ s
  ·
   by_cases hB : (ds[k]'hkl).B ∈ s
   ·
    refine run_pl [yy 0, nn 1, yy 2, yy 3, yy 4, yy 5, nn 6, nn 7, yy 8, yy 9, yy 10, yy 11, nn 12, nn 13, yy 14] ?_
    refine yF 14 89 7 4 6 ?_
    refine nO 15 4 14 bx.at_ rfl rfl ?_
    rw [(Bool.eq_false_iff.2 hS)]
    refine yV (kq 16 (.unOp .not 4 (.tmp 15))) (fun _ => val_not rfl) ?_
    refine yM 17 16 ?_
    refine yMg 18 0 3 true ?_
    refine yFg 19 89 7 0 0 3 true ?_
    refine nS (kg 20 (.load 55 (.tmp 19)) 3 true) rfl rfl trivial (val_loadOwnAgg (n := 2) (vs := encR (ds[k]'hkl).A) bx.at_ (by kernel_rfl) (by kernel_rfl) rfl rfl rfl) ?_
    replace hs0 := (hs0.t s_1).t s_2; replace hF := hF.st s_2
    refine cT (kg 21 (.call { callee := .value (.func 49), args := #[(.tmp 18), (.tmp 20)], argTypes := #[52, 55] }) 3 true) rfl rfl (ent Tryz.call49 rfl) (contains_ok (c := (ds[k]'hkl).A) hF hs0) ?_
    rintro vw4 w4 ⟨rfl, s_3⟩
    rw [any_dec, decide_eq_true hA]
    refine yAt 22 17 21 ?_
    refine yM 23 22 ?_
    refine yMg 24 0 9 true ?_
    refine yFg 25 89 7 1 2 9 true ?_
    replace bx := bx.t s_3
    refine nS (kg 26 (.load 55 (.tmp 25)) 9 true) rfl rfl trivial (val_loadOwnAgg (n := 2) (vs := encR (ds[k]'hkl).B) bx.at_ (by kernel_rfl) (by kernel_rfl) rfl rfl rfl) ?_
    replace hF := hF.st s_3; replace hs0 := hs0.t s_3
    refine cT (kg 27 (.call { callee := .value (.func 49), args := #[(.tmp 24), (.tmp 26)], argTypes := #[52, 55] }) 9 true) rfl rfl (ent Tryz.call49 rfl) (contains_ok (c := (ds[k]'hkl).B) hF hs0) ?_
    rintro vw5 w5 ⟨rfl, s_4⟩
    rw [any_dec, decide_eq_true hB]
    refine yAt 28 23 27 ?_
    refine Sch.nil (run_cT 28 (run_pl [yy 0, yy 1, nn 2, yy 3, nn 4, yy 5, nn 6, nn 7, yy 8] ?_))
    refine yM 29 5 ?_
    refine yF 30 89 7 0 0 ?_
    replace bx := bx.t s_4
    refine nS (kq 31 (.load 55 (.tmp 30))) rfl rfl trivial (val_loadOwnAgg (n := 2) (vs := encR (ds[k]'hkl).A) bx.at_ (by kernel_rfl) (by kernel_rfl) rfl rfl rfl) ?_
    refine yF 32 89 7 1 2 ?_
    refine nS (kq 33 (.load 55 (.tmp 32))) rfl rfl trivial (val_loadOwnAgg (n := 2) (vs := encR (ds[k]'hkl).B) bx.at_ (by kernel_rfl) (by kernel_rfl) rfl rfl rfl) ?_
    refine yV (kq 34 (.build 138 #[(0, (.tmp 31)), (1, (.tmp 33))])) (fun _ => val_build (zs := [.int .i64 0, .int .i64 0, .int .i64 0, .int .i64 0]) (ps := [(0, 2), (2, 2)]) (qs := [(0, encR (ds[k]'hkl).A), (1, encR (ds[k]'hkl).B)]) (cs := encCC ((ds[k]'hkl).A, (ds[k]'hkl).B)) (by kernel_rfl) (by kernel_rfl) (by exact ⟨rfl, ⟨_, rfl, rfl⟩, rfl, ⟨_, rfl, rfl⟩, trivial⟩) rfl) ?_
    replace hF := hF.st s_4
    refine aT (kq 35 (.buildSlice 136 1 #[(0, (.tmp 34))])) rfl rfl (a_buildSlice (ys := ([((ds[k]'hkl).A, (ds[k]'hkl).B)] : List CC)) (e := 138) (bytes := 32) hF (by kernel_rfl) rfl (by decide) (by decide) ⟨rfl, ⟨_, rfl, rv_cc.2 rfl⟩, trivial⟩) ?_
    rintro v35 w6 ⟨s_5, g35, hF⟩
    replace ho := ((((ho.t s_1).t s_2).t s_3).t s_4).t s_5
    refine aT (kq 36 (.call { callee := .builtin .append, args := #[(.tmp 29), (.tmp 35)], argTypes := #[136, 136] })) rfl rfl (a_append (e := 138) (bytes := 32) hF (by decide) rfl rfl (by kernel_rfl) (by decide) ho g35 (by simp only [List.length_cons, List.length_nil]; omega) (by simp only [List.length_cons, List.length_nil]; omega)) ?_
    rintro v36 w7 ⟨Cw7, s_6, ho, hF⟩
    refine yA 5 36 ?_
    refine Sch.nil (run_inBlock (run_pl [yy 0, yy 1] ?_))
    refine yI 37 3 10 1 ?_
    refine yM 10 37 ?_
    refine Sch.nil ?_
    rw [if_pos (by unfold capB; simp [Bool.eq_false_iff.2 hS, hA, hB])] at hnx
    replace hT := (((((hT.t s_1).t s_2).t s_3).t s_4).t s_5).t s_6; replace hz := (((((hz.t s_1).t s_2).t s_3).t s_4).t s_5).t s_6; replace hs0 := ((hs0.t s_4).t s_5).t s_6
    refine kp (sr 0 (sr 5 (sr 8 (sr 9 (sub_cons 10 rfl (eq_int (by simp)) (sub_nil _)))))) (next1 (k + 1, v36, Cw7) _ ⟨(by first | omega | (simp only; omega)), hF, hT, hs0, hz, (by simp only; rw [hnx]; exact ho)⟩ (by first | omega | (simp only; omega)))
   refine run_pl [yy 0, nn 1, yy 2, yy 3, yy 4, yy 5, nn 6, nn 7, yy 8, yy 9, yy 10, yy 11, nn 12, nn 13, yy 14] ?_
   refine yF 14 89 7 4 6 ?_
   refine nO 15 4 14 bx.at_ rfl rfl ?_
   rw [(Bool.eq_false_iff.2 hS)]
   refine yV (kq 16 (.unOp .not 4 (.tmp 15))) (fun _ => val_not rfl) ?_
   refine yM 17 16 ?_
   refine yMg 18 0 3 true ?_
   refine yFg 19 89 7 0 0 3 true ?_
   refine nS (kg 20 (.load 55 (.tmp 19)) 3 true) rfl rfl trivial (val_loadOwnAgg (n := 2) (vs := encR (ds[k]'hkl).A) bx.at_ (by kernel_rfl) (by kernel_rfl) rfl rfl rfl) ?_
   replace hs0 := (hs0.t s_1).t s_2; replace hF := hF.st s_2
   refine cT (kg 21 (.call { callee := .value (.func 49), args := #[(.tmp 18), (.tmp 20)], argTypes := #[52, 55] }) 3 true) rfl rfl (ent Tryz.call49 rfl) (contains_ok (c := (ds[k]'hkl).A) hF hs0) ?_
   rintro vw8 w8 ⟨rfl, s_7⟩
   rw [any_dec, decide_eq_true hA]
   refine yAt 22 17 21 ?_
   refine yM 23 22 ?_
   refine yMg 24 0 9 true ?_
   refine yFg 25 89 7 1 2 9 true ?_
   replace bx := bx.t s_7
   refine nS (kg 26 (.load 55 (.tmp 25)) 9 true) rfl rfl trivial (val_loadOwnAgg (n := 2) (vs := encR (ds[k]'hkl).B) bx.at_ (by kernel_rfl) (by kernel_rfl) rfl rfl rfl) ?_
   replace hF := hF.st s_7; replace hs0 := hs0.t s_7
   refine cT (kg 27 (.call { callee := .value (.func 49), args := #[(.tmp 24), (.tmp 26)], argTypes := #[52, 55] }) 9 true) rfl rfl (ent Tryz.call49 rfl) (contains_ok (c := (ds[k]'hkl).B) hF hs0) ?_
   rintro vw9 w9 ⟨rfl, s_8⟩
   rw [any_dec, decide_eq_false hB]
   refine yAt 28 23 27 ?_
   refine Sch.nil (run_cF 28 (run_sk (run_inBlock (run_pl [yy 0, yy 1] ?_))))
   refine yI 37 3 10 1 ?_
   refine yM 10 37 ?_
   refine Sch.nil ?_
   rw [if_neg (by unfold capB; simp [hB])] at hnx
   replace hT := (((hT.t s_1).t s_2).t s_7).t s_8; replace hz := (((hz.t s_1).t s_2).t s_7).t s_8; replace ho := (((ho.t s_1).t s_2).t s_7).t s_8; replace hF := hF.st s_8; replace hs0 := hs0.t s_8
   refine kp (sr 0 (sr 5 (sr 8 (sr 9 (sub_cons 10 rfl (eq_int (by simp)) (sub_nil _)))))) (next1 (k + 1, vo, Cw2) _ ⟨(by first | omega | (simp only; omega)), hF, hT, hs0, hz, (by simp only; rw [hnx]; exact ho)⟩ (by first | omega | (simp only; omega)))
  refine run_pl [yy 0, nn 1, yy 2, yy 3, yy 4, yy 5, nn 6, nn 7, yy 8, yy 9, yy 10, yy 11, nn 12, nn 13, yy 14] ?_
  refine yF 14 89 7 4 6 ?_
  refine nO 15 4 14 bx.at_ rfl rfl ?_
  rw [(Bool.eq_false_iff.2 hS)]
  refine yV (kq 16 (.unOp .not 4 (.tmp 15))) (fun _ => val_not rfl) ?_
  refine yM 17 16 ?_
  refine yMg 18 0 3 true ?_
  refine yFg 19 89 7 0 0 3 true ?_
  refine nS (kg 20 (.load 55 (.tmp 19)) 3 true) rfl rfl trivial (val_loadOwnAgg (n := 2) (vs := encR (ds[k]'hkl).A) bx.at_ (by kernel_rfl) (by kernel_rfl) rfl rfl rfl) ?_
  replace hs0 := (hs0.t s_1).t s_2; replace hF := hF.st s_2
  refine cT (kg 21 (.call { callee := .value (.func 49), args := #[(.tmp 18), (.tmp 20)], argTypes := #[52, 55] }) 3 true) rfl rfl (ent Tryz.call49 rfl) (contains_ok (c := (ds[k]'hkl).A) hF hs0) ?_
  rintro vw10 w10 ⟨rfl, s_9⟩
  rw [any_dec, decide_eq_false hA]
  refine yAt 22 17 21 ?_
  refine yM 23 22 ?_
  refine pX 24 9 true ?_
  refine pX 25 9 true ?_
  refine pW (kg 26 (.load 55 (.tmp 25)) 9 true) rfl rfl trivial ?_
  refine pW (kg 27 (.call { callee := .value (.func 49), args := #[(.tmp 24), (.tmp 26)], argTypes := #[52, 55] }) 9 true) rfl rfl trivial ?_
  refine yAf 28 23 27 ?_
  refine Sch.nil (run_cF 28 (run_sk (run_inBlock (run_pl [yy 0, yy 1] ?_))))
  refine yI 37 3 10 1 ?_
  refine yM 10 37 ?_
  refine Sch.nil ?_
  rw [if_neg (by unfold capB; simp [hA])] at hnx
  replace hT := ((hT.t s_1).t s_2).t s_9; replace hz := ((hz.t s_1).t s_2).t s_9; replace ho := ((ho.t s_1).t s_2).t s_9; replace hF := hF.st s_9; replace hs0 := hs0.t s_9
  refine kp (sr 0 (sr 5 (sr 8 (sr 9 (sub_cons 10 rfl (eq_int (by simp)) (sub_nil _)))))) (next1 (k + 1, vo, Cw2) _ ⟨(by first | omega | (simp only; omega)), hF, hT, hs0, hz, (by simp only; rw [hnx]; exact ho)⟩ (by first | omega | (simp only; omega)))
 have hkl : k = ds.length := by omega
 rw [hkl, List.take_length] at ho hel
 refine run_ex 0 ?_
 refine run_sq (run_pl [yy 0, nn 1] ?_)
 refine yM 38 5 ?_
 refine cT (kq 39 (.call { callee := .value (.func 146), args := #[(.tmp 38), (.func 147)], argTypes := #[136, 204] })) rfl rfl (ent Tryz.call146 rfl) (sortCC_ok hF ho (by omega)) ?_
 rintro vw11 w11 ⟨rfl, s_10, ho, hF⟩
 have hsl := sortCC_len (capL s ds)
 refine Sch.nil (run_sq (run_pl [yy 0, nn 1, yy 2] ?_))
 refine yM 40 5 ?_
 refine cG 41 148 [40] [136] Tryz.call148 rfl (compactCC_ok hF (by decide) ho (by omega)) ?_
 rintro vw12 w12 ⟨s_11, ho, hF⟩
 have hwl := withinC_len (s := s) (ds := ds)
 refine yA 4 41 ?_
 refine Sch.nil ?_
 refine rt1 Tryz.func88 Tryz.results88 ?_
 replace hT := (hT.t s_10).t s_11
 exact ⟨hT.out1 (by decide), ho.out hT hF0 (Mc_col1 C) (fun b _ => col1_lt C (by decide) b) (by show (withinC s ds).length ≤ _; omega)⟩
end
end Go.Proofs.YtmdhggfehknjjaaGreat
