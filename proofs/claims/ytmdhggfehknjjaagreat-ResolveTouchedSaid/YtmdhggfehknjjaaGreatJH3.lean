/- Steps through functions of the program. -/
import Derived.Test.YtmdhggfehknjjaaGreatJH1
set_option linter.unusedVariables false
set_option linter.unusedSimpArgs false
set_option maxRecDepth 100000
set_option maxHeartbeats 4000000
namespace Go.Proofs.YtmdhggfehknjjaaGreat
open Go.K Go.K.Rep
noncomputable section
theorem rep_nilR {h : Array Obj} {M : Nat → Prop} : rep h M ([] : List Couple) [.slice none 0 0] := ⟨none, 0, rfl, Nat.le_refl _, by simp, .inl rfl⟩
theorem each_set {l : List (List Couple)} {k : Nat} (h : k < l.length) : (l.take k ++ List.replicate (l.length - k) []).set k l[k] = l.take (k + 1) ++ List.replicate (l.length - (k + 1)) [] := by
  have h1 : (l.take k).length = k := by simp; omega
  rw [List.set_append_right _ _ (by omega), h1, Nat.sub_self, show l.length - k = (l.length - (k + 1)) + 1 from by omega, List.replicate_succ, List.set_cons_zero, List.take_succ_eq_append_getElem h, List.append_assoc]
  rfl
namespace F92
def c0 := bodyOf Tryz.f92
end F92
theorem each0_ok {w₀ : World} {C : Nat → Nat} {j c0 : Nat} (hF : Lim w₀ C) : Calls Tryz.prog 92 #[.slice none 0 c0, .func (.func 93) #[] #[]] w₀ (Ret fun v w' => ∃ C', Stp [] w₀ C w' C' ∧ Lim w' C' ∧ OwnL w' C' j 52 v ([] : List (List Couple))) := by
 refine c_st F92.c0 28 [.slice none 0 c0, .func (.func 93) #[] #[]] Tryz.func92 ?_
 show Run _ _ _ _ [(0, .slice none 0 c0), (1, .func (.func 93) #[] #[])] _ _
 refine run_sq (run_pl [yy 0] ?_)
 refine yV (kq 4 (.assign (.const (.slice none 0 0)))) (fun _ => val_assign rfl) ?_
 refine Sch.nil (run_sq (run_sq (run_pl [yy 0, yy 1] ?_)))
 refine yM 8 0 ?_
 refine yV (kq 9 (.binOp .eql 24 (.tmp 8) (.const (.slice none 0 0)) 24)) (fun _ => val_eqNilN rfl Tryz.underlying24) ?_
 refine Sch.nil (run_cT 9 (run_sq (run_pl [yy 0] ?_)))
 refine yV (kq 4 (.assign (.const (.slice none 0 0)))) (fun _ => val_assign rfl) ?_
 refine Sch.nil ?_
 refine rt1 Tryz.func92 Tryz.results92 ?_
 exact ⟨C, Stp.refl _ _ _, hF, OwnL.nil⟩
theorem each1_ok {w₀ : World} {C : Nat → Nat} {l : List (List Couple)} {vl : Value} {j : Nat} {b0 : Addr} {n0 c0 : Nat} (he0 : vl = .slice (some b0) n0 c0) (hF : Lim w₀ C) (hl : RV w₀ (Mc C) l vl) (hll : ∀ x ∈ l, x.length ≤ 1000000) (hlen : l.length ≤ 1000000) (hj : j ≠ 0) : Calls Tryz.prog 92 #[vl, .func (.func 93) #[] #[]] w₀ (Ret fun v w' => ∃ C', Stp [] w₀ C w' C' ∧ Lim w' C' ∧ OwnL w' C' j 52 v l) := by
 have hF0 := hF
 have hT := Stp.refl [2, 3, 4, 5, 6, 7, 8, 9] w₀ (col1 C)
 replace hF := hF.col1
 replace hl := hl.c1
 refine c_st F92.c0 28 [vl, .func (.func 93) #[] #[]] Tryz.func92 ?_
 show Run _ _ _ _ [(0, vl), (1, .func (.func 93) #[] #[])] _ _
 refine run_sq (run_pl [yy 0] ?_)
 refine yV (kq 4 (.assign (.const (.slice none 0 0)))) (fun _ => val_assign rfl) ?_
 refine Sch.nil (run_sq (run_sq (run_pl [yy 0, yy 1] ?_)))
 refine yM 8 0 ?_
 refine yV (kq 9 (.binOp .eql 24 (.tmp 8) (.const (.slice none 0 0)) 24)) (fun _ => val_eqNilX ((show _ = some vl from rfl).trans (congrArg some he0)) Tryz.underlying24) ?_
 refine Sch.nil (run_cF 9 (run_sk (run_sq (run_pl [yy 0, yy 1, nn 2, yy 3] ?_))))
 refine yM 10 0 ?_
 refine yS (kq 11 (.call { callee := .builtin .len, args := #[(.tmp 10)], argTypes := #[24] })) rfl rfl (fun w' hS => hl.lenV rfl Tryz.underlying24 w' ) ?_
 refine aT (kq 12 (.makeSlice 24 (.tmp 11) (.tmp 11))) rfl rfl (a_make (e := 52) (bytes := 24) (x0 := ([] : List Couple)) (zs := [.slice none 0 0]) hF (j := 3) (by decide) (by kernel_rfl) (by kernel_rfl) rfl rfl (Nat.le_refl _) (by omega) (by omega) (fun h M => rep_nilR)) ?_
 rintro v12 w1 ⟨Cw1, s_1, ho, hF⟩
 refine yA 5 12 ?_
 refine Sch.nil (run_sq (run_sq (run_pl [yy 0, yy 1, yy 2] ?_)))
 refine yM 13 0 ?_
 replace hl := hl.t s_1
 refine yS (kq 14 (.call { callee := .builtin .len, args := #[(.tmp 13)], argTypes := #[24] })) rfl rfl (fun w' hS => hl.lenV rfl Tryz.underlying24 w' ) ?_
 refine yC 15 (.int .i64 0) ?_
 refine Sch.nil (run_bk 0 ?_)
 refine run_lp (ι := Nat × (Nat → Nat)) (I := fun x w => x.1 ≤ l.length ∧ Lim w x.2 ∧ Stp [2, 3, 4, 5, 6, 7, 8, 9] w₀ (col1 C) w x.2 ∧ RV w (Mc x.2) l vl ∧ OwnL w x.2 3 52 v12 (l.take x.1 ++ List.replicate (l.length - x.1) [])) (e := fun x => [(1, .func (.func 93) #[] #[]), (5, v12), (13, vl), (14, .int .i64 l.length), (15, .int .i64 x.1)]) (m := fun x => l.length - x.1) (x₀ := (0, Cw1)) (sr 1 (sr 5 (sr 13 (sr 14 (sr 15 (sub_nil _)))))) ?_ ?_
 ·
   replace hT := hT.t s_1
   exact ⟨Nat.zero_le _, hF, hT, hl, by simpa using ho⟩
 intro ⟨k, C1⟩ w2 hI next1
 obtain ⟨hk, hF, hT, hl, ho⟩ := hI
 try simp only at hk hF hT hl ho
 show Run _ _ _ _ [(1, .func (.func 93) #[] #[]), (5, v12), (13, vl), (14, .int .i64 l.length), (15, .int .i64 k)] _ _
 have hle := hl.le
 have hol : (l.take k ++ List.replicate (l.length - k) []).length = l.length := by simp; omega
 refine run_sq (run_pl [yy 0] ?_)
 refine yL 16 3 15 14 ?_
 refine Sch.nil (run_sq ?_)
 refine run_i 16 rfl (fun h16 => ?_) (fun h16 => ?_)
 ·
  have hkl : k < l.length := by omega
  have hll2 := hll _ (List.getElem_mem hkl)
  refine run_sk (run_sq (run_bk 1 (run_sq (run_pl [yy 0, yy 1, nn 2, yy 3, yy 4] ?_))))
  refine yM 17 15 ?_
  refine iR 52 18 24 13 15 hl rfl (h := ?_)
  intro b18 o18 h18
  try simp only [Int.toNat_natCast] at h18
  refine lN (kq 19 (.load 52 (.tmp 18))) rfl rfl trivial h18 (by kernel_rfl) rfl rfl ?_
  intro v19 g19
  refine yA 6 17 ?_
  refine yA 7 19 ?_
  refine Sch.nil (run_pl [yy 0, yy 1, yy 2, yy 3, nn 4, yy 5, nn 6] ?_)
  refine yM 20 5 ?_
  refine yM 21 6 ?_
  refine yM 22 1 ?_
  refine yM 23 7 ?_
  refine cT (kq 24 (.call { callee := .value (.tmp 22), args := #[(.tmp 23)], argTypes := #[52] })) rfl rfl (enters_func (fun args w => Tryz.call93 args w) rfl rfl) (listR_ok hF g19 hll2) ?_
  rintro vw3 w3 ⟨s_2, hn⟩
  replace ho := ho.t s_2
  refine oR 52 25 24 20 21 ho rfl (by omega) (h := ?_)
  intro g25 hg25
  try simp only [Int.toNat_natCast]
  refine aU (k0 (.store 52 (.tmp 25) (.tmp 24))) rfl (a_storeO ho hg25 (by omega) rfl rfl (by kernel_rfl) hn) ?_
  rintro _ w4 ⟨rfl, s_3, ho⟩
  refine Sch.nil (run_inBlock (run_pl [yy 0, yy 1] ?_))
  refine yI 26 3 15 1 ?_
  refine yM 15 26 ?_
  refine Sch.nil ?_
  replace hF := (hF.st s_2).st s_3; replace hT := (hT.t s_2).t s_3; replace hl := (hl.t s_2).t s_3
  refine kp (sr 1 (sr 5 (sr 13 (sr 14 (sub_cons 15 rfl (eq_int (by simp)) (sub_nil _)))))) (next1 (k + 1, C1) _ ⟨(by first | omega | (simp only; omega)), hF, hT, hl, (by simp only; rw [← each_set hkl]; exact ho)⟩ (by first | omega | (simp only; omega)))
 have hkl : k = l.length := by omega
 refine run_ex 0 ?_
 refine run_sq (run_pl [yy 0, yy 1] ?_)
 refine yM 27 5 ?_
 refine yA 4 27 ?_
 refine Sch.nil ?_
 refine rt1 Tryz.func92 Tryz.results92 ?_
 rw [hkl, List.take_length, Nat.sub_self, List.replicate_zero, List.append_nil] at ho
 obtain ⟨Cg, hcg, hFg, hmg, hog⟩ := ho.give hT hF0 (Mc_col1 C) (fun b _ => col1_lt C (by decide) b) (by decide) j hj
 exact ⟨Cg, (hT.out1 (by decide)).give hcg, hFg, hog⟩
theorem each_ok {w₀ : World} {C : Nat → Nat} {l : List (List Couple)} {vl : Value} {j : Nat} (hF : Lim w₀ C) (hl : RV w₀ (Mc C) l vl) (hll : ∀ x ∈ l, x.length ≤ 1000000) (hlen : l.length ≤ 1000000) (hj : j ≠ 0) : Calls Tryz.prog 92 #[vl, .func (.func 93) #[] #[]] w₀ (Ret fun v w' => ∃ C', Stp [] w₀ C w' C' ∧ Lim w' C' ∧ OwnL w' C' j 52 v l) := by
  obtain ⟨a0, c0, he0, hcc, _, hs0⟩ := rv_list.1 hl
  rcases a0 with _ | b0
  · have e : l = [] := by
      rcases hs0 with h | ⟨b, o, h, _⟩
      · exact h
      · cases h
    subst e; subst he0
    exact each0_ok hF
  · exact each1_ok he0 hF hl hll hlen hj
namespace F50
def c0 := bodyOf Tryz.f50
end F50
theorem persons_ok {w₀ : World} {C : Nat → Nat} {l : List (List Couple)} {vl : Value} {j : Nat} (hF : Lim w₀ C) (hl : RV w₀ (Mc C) l vl) (hll : ∀ x ∈ l, x.length ≤ 1000000) (hlen : l.length ≤ 1000000) (hj : j ≠ 0) : Calls Tryz.prog 50 #[vl] w₀ (Ret fun v w' => ∃ C', Stp [] w₀ C w' C' ∧ Lim w' C' ∧ OwnL w' C' j 52 v l) := by
 refine c_st F50.c0 5 [vl] Tryz.func50 ?_
 show Run _ _ _ _ [(0, vl)] _ _
 refine run_sq (run_pl [yy 0] ?_)
 refine yV (kq 2 (.assign (.const (.slice none 0 0)))) (fun _ => val_assign rfl) ?_
 refine Sch.nil (run_sq (run_pl [yy 0, nn 1, yy 2] ?_))
 refine yM 3 0 ?_
 refine cT (kq 4 (.call { callee := .value (.func 92), args := #[(.tmp 3), (.func 93)], argTypes := #[24, 142] })) rfl rfl (ent Tryz.call92 rfl) (each_ok hF hl hll hlen hj) ?_
 rintro v w1 ⟨C2, s_1, hF, ho⟩
 refine yA 2 4 ?_
 refine Sch.nil ?_
 refine rt1 Tryz.func50 Tryz.results50 ?_
 exact ⟨C2, s_1, hF, ho⟩
end
end Go.Proofs.YtmdhggfehknjjaaGreat
