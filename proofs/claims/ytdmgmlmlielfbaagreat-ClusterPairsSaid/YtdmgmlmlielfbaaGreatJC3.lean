/- Steps through functions of the program. -/
import Derived.Test.YtdmgmlmlielfbaaGreatJC2
set_option linter.unusedVariables false
set_option linter.unusedSimpArgs false
set_option maxRecDepth 100000
set_option maxHeartbeats 4000000
namespace Go.Proofs.YtdmgmlmlielfbaaGreat
open Go.K Go.K.Rep
noncomputable section
namespace F114
def c0 := bodyOf Tryz.f114
def c14 := (cl (cr (cl (cr (cr c0)))))
def c24 := (cl (cl (cl (cr (cl c14)))))
def o6 := rops c24
def c25 := (cr (cl (cl (cr (cl c14)))))
def c32 := (cl (cr (cl (cr (cl c25)))))
def c42 := (cl (cl (cl (cr (cl c32)))))
def o11 := rops c42
end F114
theorem compact_ok {w₀ : World} {C : Nat → Nat} {j : Nat} {v : Value} {xs : List Couple} (hF : Lim w₀ C) (hj : j ≠ 0) (ho : OwnL w₀ C j 47 v xs) (hlen : xs.length ≤ 140737488355328) :
    Calls Tryz.prog 114 #[v] w₀ (Ret fun u w' => Stp [j] w₀ C w' C ∧ OwnL w' C j 47 u (compactS xs) ∧ Lim w' C) := by
 have hT := Stp.refl [j] w₀ C
 refine c_st F114.c0 61 [v] Tryz.func114 ?_
 show Run _ _ _ _ [(0, v)] _ _
 refine run_sq (run_pl [yy 0] ?_)
 refine yV (kq 2 (.assign (.const (.slice none 0 0)))) (fun _ => val_assign rfl) ?_
 refine Sch.nil (run_sq (run_sq (run_pl [yy 0, yy 1, yy 2] ?_)))
 refine yM 6 0 ?_
 refine yS (kq 7 (.call { callee := .builtin .len, args := #[(.tmp 6)], argTypes := #[53] })) rfl rfl (fun w' hS => ho.lenV rfl Tryz.underlying53 w' ) ?_
 refine yV (kq 8 (.binOp .lss 3 (.tmp 7) (.const (.int .i64 2)) 3)) (fun _ => val_lss rfl rfl) ?_
 refine Sch.nil ?_
 refine run_i 8 rfl (fun h8 => ?_) (fun h8 => ?_)
 ·
  have hx : compactS xs = xs := by
    match xs, h8 with
    | [], _ => rfl
    | [a], _ => rfl
    | a :: b :: l, h => simp at h; omega
  refine run_sq (run_pl [yy 0, yy 1] ?_)
  refine yM 9 0 ?_
  refine yA 2 9 ?_
  refine Sch.nil ?_
  refine rt1 Tryz.func114 Tryz.results114 ?_
  exact ⟨hT, by rw [hx]; exact ho, hF⟩
 have h2 : 2 ≤ xs.length := by omega
 have hcz : compactS (xs.take 1) = xs.take 1 := by
   obtain ⟨a, l, rfl⟩ : ∃ a l, xs = a :: l := by cases xs with | nil => simp at h2 | cons a l => exact ⟨a, l, rfl⟩
   simp [compactS]
 refine run_sk (run_sq (run_sq (run_pl [yy 0] ?_)))
 refine yAc 3 (.int .i64 1) ?_
 refine Sch.nil (run_bk 0 ?_)
 refine run_lp (ι := Nat) (I := fun x w => 1 ≤ x ∧ x ≤ xs.length ∧ compactS (xs.take x) = xs.take x ∧ Lim w C ∧ Stp [j] w₀ C w C ∧ OwnL w C j 47 v xs) (e := fun x => [(0, v), (3, .int .i64 x)]) (m := fun x => xs.length - x) (x₀ := 1) (sr 0 (sr 3 (sub_nil _))) ?_ ?_
 · exact ⟨Nat.le_refl _, by first | omega | (simp only; omega), hcz, hF, hT, ho⟩
 intro k w1 hI next1
 obtain ⟨hk1, hk, hc, hF, hT, ho⟩ := hI
 try simp only at hk1 hk hc hF hT ho
 show Run _ _ _ _ [(0, v), (3, .int .i64 k)] _ _
 refine run_sq (run_sq (run_pl [yy 0, yy 1, yy 2, yy 3] ?_))
 refine yM 10 3 ?_
 refine yM 11 0 ?_
 refine yS (kq 12 (.call { callee := .builtin .len, args := #[(.tmp 11)], argTypes := #[53] })) rfl rfl (fun w' hS => ho.lenV rfl Tryz.underlying53 w' ) ?_
 refine yL 13 3 10 12 ?_
 refine Sch.nil ?_
 refine run_i 13 rfl (fun h13 => ?_) (fun h13 => ?_)
 ·
  have hkl : k < xs.length := by omega
  have hct := compactS_take hk1 hkl
  refine run_sk (run_sq (run_bk 1 (run_sq ?_)))
  refine run_draw (id := 6) (ops := F114.o6) [] (C) [yy 0, yy 1, yy 2, yy 3, yy 4, yy 5, yy 6, yy 7, yy 8, yy 9] Tryz_mixed (by kernel_rfl) (by kernel_rfl) (by kernel_rfl) ?_
  intro w2 s_1
  refine yM 16 0 ?_
  refine yM 17 3 ?_
  replace ho := ho.t s_1
  refine oR 47 18 53 16 17 ho rfl (by first | omega | (simp only [Int.toNat_natCast]; omega)) (h := ?_)
  intro g18 hg18
  try simp only [Int.toNat_natCast]
  refine oSA (I := []) (kq 19 (.load 47 (.tmp 18))) rfl rfl ho hg18 (fun w' hS => ho.sy hg18 hS) (by first | omega | (simp only [Int.toNat_natCast]; omega)) (by kernel_rfl) (by kernel_rfl) rfl rfl ?_
  intro v19 g19
  try simp only [Int.toNat_natCast] at g19
  refine yM 20 0 ?_
  refine yM 21 3 ?_
  refine yV (kq 22 (.binOp .sub 3 (.tmp 21) (.const (.int .i64 1)) 3)) (fun _ => val_subi rfl rfl (by omega) (by omega)) ?_
  refine oR 47 23 53 20 22 ho rfl (by first | omega | (simp only [Int.toNat_natCast]; omega)) (h := ?_)
  intro g23 hg23
  try simp only [Int.toNat_natCast]
  refine oSA (I := []) (kq 24 (.load 47 (.tmp 23))) rfl rfl ho hg23 (fun w' hS => ho.sy hg23 hS) (by first | omega | (simp only [Int.toNat_natCast]; omega)) (by kernel_rfl) (by kernel_rfl) rfl rfl ?_
  intro v24 g24
  try simp only [Int.toNat_natCast] at g24
  obtain rfl := rv_couple.1 g19
  obtain rfl := rv_couple.1 g24
  refine yV (kq 25 (.binOp .eql 47 (.tmp 19) (.tmp 24) 47)) (fun _ => val_eqC (a := _) (b := _) Tryz.underlying47 (by decide) (by decide) (by kernel_rfl) Tryz.underlying3 rfl rfl) ?_
  refine Sch.nil ?_
  refine run_i 25 rfl (fun h25 => ?_) (fun h25 => ?_)
  ·
   have hd : xs[k - 1]'(by omega) = xs[k] := by
     have e : ((k : Int) - 1).toNat = k - 1 := by omega
     simp only [e] at h25; exact h25.symm
   rw [if_pos hd, hc] at hct
   refine run_sq (run_pl [yy 0, yy 1, yy 2, yy 3] ?_)
   refine yM 26 0 ?_
   refine yM 27 3 ?_
   refine sFO (e' := 47) (kq 28 (.slice 53 (.tmp 26) (some (.tmp 27)) none none)) rfl rfl ho rfl (by kernel_rfl) rfl (by omega) (by omega) ?_
   intro v28 h28
   try simp only [Int.toNat_natCast] at h28
   obtain ⟨gg28, hgg28⟩ := ho.ob_ex (by omega)
   refine yA 4 28 ?_
   refine Sch.nil (run_sq (run_sq (run_pl [yy 0] ?_)))
   refine yAc 5 (.int .i64 1) ?_
   refine Sch.nil (run_bk 2 ?_)
   refine run_lp (ι := Nat × Nat × (List Couple)) (I := fun x w => 1 ≤ x.1 ∧ k + x.1 ≤ xs.length ∧ x.2.2.length = xs.length ∧ x.2.1 + 1 ≤ k + x.1 ∧ (∀ p (hp : p < xs.length) (hp2 : p < x.2.2.length), k + x.1 ≤ p + 1 → x.2.2[p] = xs[p]) ∧ x.2.2.take x.2.1 = compactS (xs.take (k + x.1)) ∧ Lim w C ∧ Stp [j] w₀ C w C ∧ OwnL w C j 47 v x.2.2) (e := fun x => [(0, v), (3, .int .i64 x.2.1), (4, v28), (5, .int .i64 x.1)]) (m := fun x => xs.length - k - x.1) (x₀ := (1, k, xs)) (sr 0 (sr 3 (sr 4 (sr 5 (sub_nil _))))) ?_ ?_
   ·
     replace hF := hF.st s_1; replace hT := hT.t s_1
     exact ⟨Nat.le_refl _, by first | omega | (simp only; omega), rfl, by first | omega | (simp only; omega), fun p _ _ _ => rfl, hct.symm, hF, hT, ho⟩
   intro ⟨q, i, ys⟩ w3 hI next2
   obtain ⟨hq1, hq, hyl, hi, hys, hc2, hF, hT, ho⟩ := hI
   try simp only at hq1 hq hyl hi hys hc2 hF hT ho
   show Run _ _ _ _ [(0, v), (3, .int .i64 i), (4, v28), (5, .int .i64 q)] _ _
   refine run_sq (run_sq (run_pl [yy 0, yy 1, yy 2, yy 3] ?_))
   refine yM 29 5 ?_
   refine yM 30 4 ?_
   refine yS (kq 31 (.call { callee := .builtin .len, args := #[(.tmp 30)], argTypes := #[53] })) rfl rfl (fun w' hS => h28.lenV rfl Tryz.underlying53 w' ) ?_
   refine yL 32 3 29 31 ?_
   refine Sch.nil ?_
   refine run_i 32 rfl (fun h32 => ?_) (fun h32 => ?_)
   ·
    have hql : k + q < xs.length := by omega
    have hct2 := compactS_take (l := xs) (k := k + q) (by omega) hql
    have e1 : k + ((q : Int) - 1).toNat = k + q - 1 := by omega
    refine run_sk (run_sq (run_bk 3 (run_sq ?_)))
    refine run_draw (id := 11) (ops := F114.o11) [] (C) [yy 0, yy 1, yy 2, yy 3, yy 4, yy 5, yy 6, yy 7, yy 8, yy 9] Tryz_mixed (by kernel_rfl) (by kernel_rfl) (by kernel_rfl) ?_
    intro w4 s_2
    refine yM 35 4 ?_
    refine yM 36 5 ?_
    refine yV (kq 37 (.indexAddr 53 (.tmp 35) (.tmp 36))) (fun _ => val_indexSub (e' := 47) h28 hgg28 (by kernel_rfl) rfl rfl (by omega) (by omega)) ?_
    try simp only [Int.toNat_natCast]
    replace ho := ho.t s_2
    refine oSA (I := []) (kq 38 (.load 47 (.tmp 37))) rfl rfl ho hgg28 (fun w' hS => ho.sy hgg28 hS) (by first | omega | (simp only [Int.toNat_natCast]; omega)) (by kernel_rfl) (by kernel_rfl) rfl rfl ?_
    intro v38 g38
    try simp only [Int.toNat_natCast] at g38
    refine yM 39 4 ?_
    refine yM 40 5 ?_
    refine yV (kq 41 (.binOp .sub 3 (.tmp 40) (.const (.int .i64 1)) 3)) (fun _ => val_subi rfl rfl (by omega) (by omega)) ?_
    refine yV (kq 42 (.indexAddr 53 (.tmp 39) (.tmp 41))) (fun _ => val_indexSub (e' := 47) h28 hgg28 (by kernel_rfl) rfl rfl (by omega) (by omega)) ?_
    try simp only [Int.toNat_natCast]
    refine oSA (I := []) (kq 43 (.load 47 (.tmp 42))) rfl rfl ho hgg28 (fun w' hS => ho.sy hgg28 hS) (by first | omega | (simp only [Int.toNat_natCast]; omega)) (by kernel_rfl) (by kernel_rfl) rfl rfl ?_
    intro v43 g43
    try simp only [Int.toNat_natCast] at g43
    obtain rfl := rv_couple.1 g38
    obtain rfl := rv_couple.1 g43
    refine yV (kq 44 (.binOp .neq 47 (.tmp 38) (.tmp 43) 47)) (fun _ => val_neC (a := _) (b := _) Tryz.underlying47 (by decide) (by decide) (by kernel_rfl) Tryz.underlying3 rfl rfl) ?_
    refine Sch.nil ?_
    refine run_i 44 rfl (fun h44 => ?_) (fun h44 => ?_)
    ·
     have r1 := hys (k + q) (by omega) (by omega) (by omega)
     have r2 := hys (k + q - 1) (by omega) (by omega) (by omega)
     have hd : ¬ xs[k + q - 1]'(by omega) = xs[k + q] := by
       simp only [e1, r1, r2] at h44; exact fun e => h44 e.symm
     rw [if_neg hd, ← hc2] at hct2
     refine run_sq (run_pl [yy 0, yy 1, yy 2, yy 3, yy 4, nn 5, yy 6, nn 7] ?_)
     refine yM 45 0 ?_
     refine yM 46 3 ?_
     refine yM 47 4 ?_
     refine yM 48 5 ?_
     refine yV (kq 49 (.indexAddr 53 (.tmp 47) (.tmp 48))) (fun _ => val_indexSub (e' := 47) h28 hgg28 (by kernel_rfl) rfl rfl (by omega) (by omega)) ?_
     try simp only [Int.toNat_natCast]
     refine oNA (kq 50 (.load 47 (.tmp 49))) rfl rfl trivial ho hgg28 (by first | omega | (simp only [Int.toNat_natCast]; omega)) (by kernel_rfl) (by kernel_rfl) rfl rfl ?_
     intro v50 g50
     try simp only [Int.toNat_natCast] at g50
     refine oR 47 51 53 45 46 ho rfl (by first | omega | (simp only [Int.toNat_natCast]; omega)) (h := ?_)
     intro g51 hg51
     try simp only [Int.toNat_natCast]
     refine aU (k0 (.store 47 (.tmp 51) (.tmp 50))) rfl (a_storeO ho hg51 (by first | omega | (simp only [Int.toNat_natCast]; omega)) rfl rfl (by kernel_rfl) g50) ?_
     rintro _ w5 ⟨rfl, s_3, ho⟩
     replace hT := hT.t s_2
     replace hT := hT.trans s_3 (by simp <;> omega)
     refine Sch.nil (run_pl [yy 0, yy 1, yy 2] ?_)
     refine yM 52 3 ?_
     refine yI 53 3 52 1 ?_
     refine yA 3 53 ?_
     refine Sch.nil (run_inBlock (run_pl [yy 0, yy 1, yy 2] ?_))
     refine yM 33 5 ?_
     refine yI 34 3 33 1 ?_
     refine yA 5 34 ?_
     refine Sch.nil ?_
     replace hF := (hF.st s_2).st s_3
     refine kp (sr 0 (sub_cons 3 rfl (eq_int (by simp)) (sr 4 (sub_cons 5 rfl (eq_int (by simp)) (sub_nil _))))) (next2 (q + 1, i + 1, ys.set i ys[k + q]) _ ⟨(by first | omega | (simp only; omega)), (by first | omega | (simp only; omega)), (by simp only [List.length_set]; exact hyl), (by first | omega | (simp only; omega)), (fun p hp hp2 h => by simp only [List.getElem_set]; rw [if_neg (by omega)]; exact hys p hp (by omega) (by omega)), (by simp only; rw [List.take_succ_eq_append_getElem (by rw [List.length_set]; omega), List.take_set_of_le (Nat.le_refl i), List.getElem_set_self, r1]; exact hct2.symm), hF, hT, ho⟩ (by first | omega | (simp only; omega)))
    have r1 := hys (k + q) (by omega) (by omega) (by omega)
    have r2 := hys (k + q - 1) (by omega) (by omega) (by omega)
    have hd : xs[k + q - 1]'(by omega) = xs[k + q] := by
      simp only [e1, r1, r2] at h44; exact (Classical.not_not.1 h44).symm
    rw [if_pos hd, ← hc2] at hct2
    refine run_sk (run_inBlock (run_pl [yy 0, yy 1, yy 2] ?_))
    refine yM 33 5 ?_
    refine yI 34 3 33 1 ?_
    refine yA 5 34 ?_
    refine Sch.nil ?_
    replace hF := hF.st s_2; replace hT := hT.t s_2
    refine kp (sr 0 (sr 3 (sr 4 (sub_cons 5 rfl (eq_int (by simp)) (sub_nil _))))) (next2 (q + 1, i, ys) _ ⟨(by first | omega | (simp only; omega)), (by first | omega | (simp only; omega)), (by first | omega | (simp only; omega)), (by first | omega | (simp only; omega)), (fun p hp hp2 h => hys p hp hp2 (by simp only at h; omega)), hct2.symm, hF, hT, ho⟩ (by first | omega | (simp only; omega)))
   have hql : k + q = xs.length := by omega
   rw [hql, List.take_length] at hc2
   refine run_ex 2 ?_
   refine run_sq (run_pl [yy 0, yy 1, yy 2, nn 3] ?_)
   refine yM 54 0 ?_
   refine yM 55 3 ?_
   refine sFO (e' := 47) (kq 56 (.slice 53 (.tmp 54) (some (.tmp 55)) none none)) rfl rfl ho rfl (by kernel_rfl) rfl (by omega) (by omega) ?_
   intro v56 h56
   try simp only [Int.toNat_natCast] at h56
   obtain ⟨gg56, hgg56⟩ := ho.ob_ex (by omega)
   refine aU (k0 (.call { callee := .builtin .clear, args := #[(.tmp 56)], argTypes := #[53] })) rfl (a_clear (x0 := (⟨0, 0⟩ : Couple)) (zs := [.int .i64 0, .int .i64 0]) ho h56 (by omega) (by omega) Tryz.underlying53 (by kernel_rfl) (fun h M => zero_couple) rfl) ?_
   rintro _ wc ⟨s_4, ho⟩
   replace hT := hT.trans s_4 (by simp <;> omega)
   refine Sch.nil (run_sq (run_pl [yy 0, yy 1, yy 2, yy 3] ?_))
   refine yM 57 0 ?_
   refine yM 58 3 ?_
   have hyl2 : (ys.take i ++ List.replicate (ys.length - i) (⟨0, 0⟩ : Couple)).length = xs.length := by simp; omega
   refine sTO (e' := 47) (kq 59 (.slice 53 (.tmp 57) none (some (.tmp 58)) none)) rfl rfl ho rfl (by kernel_rfl) rfl (by omega) (by omega) (by omega) ?_
   intro v59 h59
   try simp only [Int.toNat_natCast] at h59
   refine yA 2 59 ?_
   refine Sch.nil ?_
   refine rt1 Tryz.func114 Tryz.results114 ?_
   rw [List.take_left' (by rw [List.length_take]; omega), hc2] at h59
   replace hF := hF.st s_4
   exact ⟨hT, h59, hF⟩
  have hd : ¬ xs[k - 1]'(by omega) = xs[k] := by
    have e : ((k : Int) - 1).toNat = k - 1 := by omega
    simp only [e] at h25; exact fun e => h25 e.symm
  rw [if_neg hd, hc, ← List.take_succ_eq_append_getElem hkl] at hct
  refine run_sk (run_inBlock (run_pl [yy 0, yy 1, yy 2] ?_))
  refine yM 14 3 ?_
  refine yI 15 3 14 1 ?_
  refine yA 3 15 ?_
  refine Sch.nil ?_
  replace hF := hF.st s_1; replace hT := hT.t s_1
  refine kp (sr 0 (sub_cons 3 rfl (eq_int (by simp)) (sub_nil _))) (next1 (k + 1) _ ⟨(by first | omega | (simp only; omega)), (by first | omega | (simp only; omega)), hct, hF, hT, ho⟩ (by first | omega | (simp only; omega)))
 have hkl : k = xs.length := by omega
 subst hkl
 rw [List.take_length] at hc
 refine run_ex 0 ?_
 refine run_sq (run_pl [yy 0, yy 1] ?_)
 refine yM 60 0 ?_
 refine yA 2 60 ?_
 refine Sch.nil ?_
 refine rt1 Tryz.func114 Tryz.results114 ?_
 rw [hc]
 exact ⟨hT, ho, hF⟩
namespace F72
def c0 := bodyOf Tryz.f72
end F72
theorem refs_ok {w₀ : World} {C : Nat → Nat} {l : List Bond} {vl : Value} (hF : Lim w₀ C) (hl : RV w₀ (Mc C) l vl) (hlen : l.length ≤ 100000) : Calls Tryz.prog 72 #[vl] w₀ (Ret fun v w' => Stp [] w₀ C w' C ∧ RV w' (Mc C) (refsS l) v) := by
 have hF0 := hF
 have hT := Stp.refl [2, 3, 4, 5, 6, 7, 8, 9] w₀ (col1 C)
 replace hF := hF.col1
 replace hl := hl.c1
 refine c_st F72.c0 24 [vl] Tryz.func72 ?_
 show Run _ _ _ _ [(0, vl)] _ _
 refine run_sq (run_pl [yy 0] ?_)
 refine yV (kq 2 (.assign (.const (.slice none 0 0)))) (fun _ => val_assign rfl) ?_
 refine Sch.nil (run_sq (run_pl [yy 0] ?_))
 refine yV (kq 3 (.assign (.const (.slice none 0 0)))) (fun _ => val_assign rfl) ?_
 refine Sch.nil (run_sq (run_sq (run_pl [yy 0, yy 1, yy 2] ?_)))
 refine yM 6 0 ?_
 refine yS (kq 7 (.call { callee := .builtin .len, args := #[(.tmp 6)], argTypes := #[23] })) rfl rfl (fun w' hS => hl.lenV rfl Tryz.underlying23 w' ) ?_
 refine yC 8 (.int .i64 0) ?_
 refine Sch.nil (run_bk 0 ?_)
 refine run_lp (ι := Nat × Value × (Nat → Nat)) (I := fun x w => x.1 ≤ l.length ∧ Lim w x.2.2 ∧ Stp [2, 3, 4, 5, 6, 7, 8, 9] w₀ (col1 C) w x.2.2 ∧ RV w (Mc x.2.2) l vl ∧ OwnL w x.2.2 3 47 x.2.1 (endsS (l.take x.1))) (e := fun x => [(3, x.2.1), (6, vl), (7, .int .i64 l.length), (8, .int .i64 x.1)]) (m := fun x => l.length - x.1) (x₀ := (0, .slice none 0 0, col1 C)) (sr 3 (sr 6 (sr 7 (sr 8 (sub_nil _))))) ?_ ?_
 · exact ⟨Nat.zero_le _, hF, hT, hl, OwnL.nil⟩
 intro ⟨i, vo, C1⟩ w1 hI next1
 obtain ⟨hi, hF, hT, hl, ho⟩ := hI
 try simp only at hi hF hT hl ho
 show Run _ _ _ _ [(3, vo), (6, vl), (7, .int .i64 l.length), (8, .int .i64 i)] _ _
 have hel := endsS_len (l.take i)
 rw [List.length_take] at hel
 refine run_sq (run_pl [yy 0] ?_)
 refine yL 9 3 8 7 ?_
 refine Sch.nil (run_sq ?_)
 refine run_i 9 rfl (fun h9 => ?_) (fun h9 => ?_)
 ·
  have hil : i < l.length := by omega
  refine run_sk (run_sq (run_bk 1 (run_sq (run_pl [yy 0, nn 1, nn 2, nn 3] ?_))))
  refine iR 49 10 23 6 8 hl rfl (h := ?_)
  intro b10 o10 h10
  try simp only [Int.toNat_natCast] at h10
  refine lNA (kq 11 (.load 49 (.tmp 10))) rfl rfl trivial h10 (by kernel_rfl) (by kernel_rfl) rfl rfl ?_
  intro v11 g11
  obtain rfl := rv_bond.1 g11
  refine aT (kq 5 (.alloc 49)) rfl rfl (a_alloc (cs := [.int .i64 0, .int .i64 0, .int .i64 0, .int .i64 0, .int .i64 0]) hF 4 (by kernel_rfl)) ?_
  rintro _ w2 ⟨Cw2, bw2, rfl, s_1, hx, hF⟩
  refine aU (k0 (.store 49 (.tmp 5) (.tmp 11))) rfl (a_storeAll (vs := encB (l[i]'hil)) (n := 5) rfl rfl (by kernel_rfl) rfl rfl (by intro u hu; simp only [encB, List.mem_cons, List.not_mem_nil, or_false] at hu; rcases hu with rfl | rfl | rfl | rfl | rfl <;> rfl) hx rfl) ?_
  rintro _ w3 ⟨rfl, s_2, hx⟩
  refine Sch.nil (run_pl [yy 0, yy 1, nn 2, yy 3, nn 4, nn 5, nn 6, yy 7] ?_)
  refine yM 12 3 ?_
  refine yF 13 49 5 0 0 ?_
  refine nS (kq 14 (.load 47 (.tmp 13))) rfl rfl trivial (val_loadOwnAgg (n := 2) (vs := encR (l[i]'hil).A) hx.at_ (by kernel_rfl) (by kernel_rfl) rfl rfl rfl) ?_
  refine yF 15 49 5 1 2 ?_
  refine nS (kq 16 (.load 47 (.tmp 15))) rfl rfl trivial (val_loadOwnAgg (n := 2) (vs := encR (l[i]'hil).B) hx.at_ (by kernel_rfl) (by kernel_rfl) rfl rfl rfl) ?_
  replace hF := hF.st s_2
  refine aT (kq 17 (.buildSlice 53 2 #[(0, (.tmp 14)), (1, (.tmp 16))])) rfl rfl (a_buildSlice (ys := ([(l[i]'hil).A, (l[i]'hil).B] : List Couple)) (e := 47) (bytes := 16) hF (by kernel_rfl) rfl (by decide) (by decide) ⟨rfl, ⟨_, rfl, rv_couple.2 rfl⟩, rfl, ⟨_, rfl, rv_couple.2 rfl⟩, trivial⟩) ?_
  rintro v17 w4 ⟨s_3, g17, hF⟩
  replace ho := ((ho.t s_1).t s_2).t s_3
  refine aT (kq 18 (.call { callee := .builtin .append, args := #[(.tmp 12), (.tmp 17)], argTypes := #[53, 53] })) rfl rfl (a_append (e := 47) (bytes := 16) hF (by decide) rfl rfl (by kernel_rfl) (by decide) ho g17 (by simp only [List.length_cons, List.length_nil]; omega) (by simp only [List.length_cons, List.length_nil]; omega)) ?_
  rintro v18 w5 ⟨Cw5, s_4, ho, hF⟩
  refine yA 3 18 ?_
  refine Sch.nil (run_inBlock (run_pl [yy 0, yy 1] ?_))
  refine yI 19 3 8 1 ?_
  refine yM 8 19 ?_
  refine Sch.nil ?_
  replace hT := (((hT.t s_1).t s_2).t s_3).t s_4; replace hl := (((hl.t s_1).t s_2).t s_3).t s_4
  refine kp (sr 3 (sr 6 (sr 7 (sub_cons 8 rfl (eq_int (by simp)) (sub_nil _))))) (next1 (i + 1, v18, Cw5) _ ⟨(by first | omega | (simp only; omega)), hF, hT, hl, (by simp only; rw [endsS_take hil]; exact ho)⟩ (by first | omega | (simp only; omega)))
 have hil : i = l.length := by omega
 subst hil
 rw [List.take_length] at ho
 refine run_ex 0 ?_
 refine run_sq (run_pl [yy 0, nn 1] ?_)
 refine yM 20 3 ?_
 refine cT (kq 21 (.call { callee := .value (.func 113), args := #[(.tmp 20), (.func 55)], argTypes := #[53, 87] })) rfl rfl (ent Tryz.call113 rfl) (sort_ok hF ho (by rw [endsS_len]; omega)) ?_
 rintro vw6 w6 ⟨rfl, s_5, ho, _⟩
 refine Sch.nil (run_sq (run_pl [yy 0, nn 1, yy 2] ?_))
 refine yM 22 3 ?_
 replace hF := hF.st s_5
 refine cG 23 114 [22] [53] Tryz.call114 rfl (compact_ok hF (by decide) ho (by rw [(sortC_perm _).length_eq, endsS_len]; omega)) ?_
 rintro vw7 w7 ⟨s_6, ho, _⟩
 refine yA 2 23 ?_
 refine Sch.nil ?_
 refine rt1 Tryz.func72 Tryz.results72 ?_
 replace hT := (hT.t s_5).t s_6
 exact ⟨hT.out1 (by decide), ho.out hT hF0 (Mc_col1 C) (fun b _ => col1_lt C (by decide) b) (by have := refsS_len l; unfold refsS at this; omega)⟩
end
end Go.Proofs.YtdmgmlmlielfbaaGreat
