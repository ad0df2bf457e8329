/- Steps through functions of the program. -/
import Derived.Test.YtionghonhnedgaaGreatJV2
set_option linter.unusedVariables false
set_option linter.unusedSimpArgs false
set_option maxRecDepth 100000
set_option maxHeartbeats 4000000
namespace Go.Proofs.YtionghonhnedgaaGreat
open Go.K Go.K.Rep

namespace F90
noncomputable def c0 := bodyOf Tryz.f90
noncomputable def c8 := (cl (cr (cl (cr (cr c0)))))
end F90
theorem size_ok {n : Nat} (h5 : n ≤ 5) (w₀ : World) : Calls Tryz.prog 90 #[.int .i64 n] w₀ (Ret fun v w' => v = .int .i64 ((3 ^ n : Nat) : Int) ∧ w' = w₀) := by
 refine calls_start (c := F90.c0) (N := 13) [.int .i64 n] Tryz.func90 (by kernel_rfl) (by kernel_rfl) (by kernel_rfl) ?_
 show Run _ _ _ _ [(0, .int .i64 n)] _ _
 refine run_sq ?_
 refine run_pl [yy 0] ?_
 refine yAc 2 (.int .i64 0) ?_
 refine Sch.nil ?_
 refine run_sq ?_
 refine run_pl [yy 0] ?_
 refine yAc 3 (.int .i64 1) ?_
 refine Sch.nil ?_
 refine run_sq ?_
 refine run_sq ?_
 refine run_pl [yy 0] ?_
 refine yAc 4 (.int .i64 0) ?_
 refine Sch.nil ?_
 refine run_bk 0 ?_
 
 refine run_lp (ι := Nat) (I := fun x w => x ≤ n ∧ w = w₀) (e := fun x => [(0, .int .i64 n), (3, .int .i64 ((3 ^ x : Nat) : Int)), (4, .int .i64 x)]) (m := fun x => n - x) (x₀ := 0) (sr 0 (sr 3 (sr 4 (sub_nil _)))) ?_ ?_
 · exact ⟨Nat.zero_le _, rfl⟩
 intro i w1 hI next
 obtain ⟨hi, rfl⟩ := hI
 try simp only at hi
 have next1 := next
 clear next
 show Run _ _ _ _ [(0, .int .i64 n), (3, .int .i64 ((3 ^ i : Nat) : Int)), (4, .int .i64 i)] _ _
 have hp3 := pow3 (show i ≤ 5 by omega)
 obtain ⟨q, hq⟩ : ∃ q, q = 3 ^ i := ⟨_, rfl⟩
 rw [← hq] at hp3 ⊢
 refine run_sq ?_
 refine run_sq ?_
 refine run_pl [yy 0, yy 1, yy 2] ?_
 refine yM 5 4 ?_
 refine yM 6 0 ?_
 refine yV (kq 7 (.binOp .lss 3 (.tmp 5) (.tmp 6) 3)) (fun _ => val_lss rfl rfl) ?_
 refine Sch.nil ?_
 refine run_i 7 rfl (fun h7 => ?_) (fun h7 => ?_)
 ·
  have hil : i < n := by omega
  refine run_sk ?_
  refine run_sq ?_
  refine run_bk 1 ?_
  refine run_pl [yy 0, yy 1, yy 2] ?_
  refine yM 10 3 ?_
  refine yV (kq 11 (.binOp .mul 3 (.tmp 10) (.const (.int .i64 3)) 3)) (fun _ => val_muli rfl rfl (by omega) (by omega)) ?_
  refine yA 3 11 ?_
  refine Sch.nil ?_
  refine run_inBlock ?_
  refine run_pl [yy 0, yy 1, yy 2] ?_
  refine yM 8 4 ?_
  refine yV (kq 9 (.binOp .add 3 (.tmp 8) (.const (.int .i64 1)) 3)) (fun _ => val_addi rfl rfl (by omega) (by omega)) ?_
  refine yA 4 9 ?_
  refine Sch.nil ?_
  refine kp (sub_cons 0 rfl rfl (sub_cons 3 rfl (eq_int (by simp only [Nat.pow_succ, ← hq]; omega)) (sub_cons 4 rfl (eq_int (by simp)) (sub_nil _)))) (next1 (i + 1) _ ⟨(by first | omega | (simp only; omega)), rfl⟩ (by first | omega | (simp only; omega)))
 ·
  have hil : i = n := by omega
  subst hil; subst hq
  refine run_ex 0 ?_
  refine run_sq ?_
  refine run_pl [yy 0, yy 1] ?_
  refine yM 12 3 ?_
  refine yA 2 12 ?_
  refine Sch.nil ?_
  refine run_ret1 (by kernel_rfl) Tryz.func90 Tryz.results90 rfl ?_
  exact ⟨rfl, rfl⟩
namespace F56
noncomputable def c0 := bodyOf Tryz.f56
noncomputable def c7 := (cl (cl (cr (cl (cr c0)))))
noncomputable def c14 := (cl (cr (cl (cr (cr c0)))))
noncomputable def c21 := (cl (cr (cr (cr (cr c0)))))
noncomputable def c27 := (cl (cl (cl (cl (cr c21)))))
noncomputable def c28 := (cr (cl (cl (cl (cr c21)))))
noncomputable def c32 := (cl (cr (cl (cl (cr c21)))))
noncomputable def c36 := (cr (cr (cl (cl (cr c21)))))
noncomputable def c37 := (cr (cr (cr (cr (cr c0)))))
end F56
/-- The reference's 'Digits', of a pattern that is valid. -/
theorem digits17_ok {w₀ : World} {C : Nat → Nat} {p n : Nat} (hF : Lim w₀ C) (h1 : 1 ≤ n) (h5 : n ≤ 5) (hp : p < 3 ^ n) : Calls Tryz.prog 56 #[.int .i64 p, .int .i64 n] w₀ (Ret fun v w' => ∃ u, v = .tuple #[u, .int .i64 0] ∧ Stp [] w₀ C w' C ∧ RV w' (Mc C) (digs p n) u) := by
 have hF0 := hF
 have hT := Stp.refl [2, 3, 4, 5, 6, 7, 8, 9] w₀ (col1 C)
 replace hF := hF.col1
 have hp2 := pow3 h5
 refine calls_start (c := F56.c0) (N := 35) [.int .i64 p, .int .i64 n] Tryz.func56 (by kernel_rfl) (by kernel_rfl) (by kernel_rfl) ?_
 show Run _ _ _ _ [(0, .int .i64 p), (1, .int .i64 n)] _ _
 refine run_sq ?_
 refine run_pl [yy 0, yy 1] ?_
 refine yV (kq 4 (.assign (.const (.slice none 0 0)))) (fun _ => val_assign rfl) ?_
 refine yAc 5 (.int .i64 0) ?_
 refine Sch.nil ?_
 refine run_sq ?_
 refine run_sq ?_
 refine run_pl [yy 0, yy 1, yy 2, yy 3, yy 4, yy 5] ?_
 refine yM 8 1 ?_
 refine yV (kq 9 (.binOp .lss 3 (.tmp 8) (.const (.int .i64 1)) 3)) (fun _ => val_is (val_lss rfl rfl) (show _ = Value.bool false from congrArg Value.bool (decide_eq_false (by omega)))) ?_
 refine yM 10 9 ?_
 refine yMg 11 1 2 false ?_
 refine yV (kg 12 (.binOp .gtr 3 (.tmp 11) (.const (.int .i64 5)) 3) 2 false) (fun _ => val_is (val_gtr rfl rfl) (show _ = Value.bool false from congrArg Value.bool (decide_eq_false (by omega)))) ?_
 refine yOf 13 10 12 ?_
 refine Sch.nil ?_
 refine run_cF 13 ?_
 refine run_sk ?_
 refine run_sq ?_
 refine run_sq ?_
 refine run_pl [yy 0, yy 1, yy 2, yy 3, yy 4, nn 5, yy 6, yy 7] ?_
 refine yM 14 0 ?_
 refine yV (kq 15 (.binOp .lss 3 (.tmp 14) (.const (.int .i64 0)) 3)) (fun _ => val_is (val_lss rfl rfl) (show _ = Value.bool false from congrArg Value.bool (decide_eq_false (by omega)))) ?_
 refine yM 16 15 ?_
 refine yMg 17 0 2 false ?_
 refine yMg 18 1 2 false ?_
 refine cS (kg 19 (.call { callee := .value (.func 90), args := #[(.tmp 18)], argTypes := #[3] }) 2 false) rfl rfl (ent Tryz.call90 rfl) (size_ok h5 _) ?_
 rintro vw1 w1 ⟨rfl, e⟩
 obtain rfl := e.symm
 refine ⟨trivial, ?_⟩
 refine yV (kg 20 (.binOp .geq 3 (.tmp 17) (.tmp 19) 3) 2 false) (fun _ => val_is (val_geq rfl rfl) (show _ = Value.bool false from congrArg Value.bool (decide_eq_false (by omega)))) ?_
 refine yOf 21 16 20 ?_
 refine Sch.nil ?_
 refine run_cF 21 ?_
 refine run_sk ?_
 refine run_sq ?_
 refine run_pl [yy 0] ?_
 refine yV (kq 6 (.assign (.const (.slice none 0 0)))) (fun _ => val_assign rfl) ?_
 refine Sch.nil ?_
 refine run_sq ?_
 refine run_sq ?_
 refine run_pl [yy 0] ?_
 refine yAc 7 (.int .i64 0) ?_
 refine Sch.nil ?_
 refine run_bk 0 ?_
 
 refine run_lp (ι := Nat × Value × (Nat → Nat)) (I := fun x w => x.1 ≤ n ∧ Lim w x.2.2 ∧ Stp [2, 3, 4, 5, 6, 7, 8, 9] w₀ (col1 C) w x.2.2 ∧ OwnL w x.2.2 3 3 x.2.1 (digs p x.1)) (e := fun x => [(0, .int .i64 ((p / 3 ^ x.1 : Nat) : Int)), (1, .int .i64 n), (6, x.2.1), (7, .int .i64 x.1)]) (m := fun x => n - x.1) (x₀ := (0, .slice none 0 0, col1 C)) (sub_cons 0 rfl (eq_int (by simp)) (sr 1 (sr 6 (sr 7 (sub_nil _))))) ?_ ?_
 · exact ⟨Nat.zero_le _, hF, hT, OwnL.nil⟩
 intro ⟨i, vo, C1⟩ w2 hI next
 obtain ⟨hi, hF, hT, ho⟩ := hI
 try simp only at hi hF hT ho
 have next1 := next
 clear next
 show Run _ _ _ _ [(0, .int .i64 ((p / 3 ^ i : Nat) : Int)), (1, .int .i64 n), (6, vo), (7, .int .i64 i)] _ _
 have hdl := digs_len p i
 obtain ⟨q, hq⟩ : ∃ q, q = p / 3 ^ i := ⟨_, rfl⟩
 have hql : q ≤ p := by rw [hq]; exact Nat.div_le_self _ _
 rw [← hq]
 refine run_sq ?_
 refine run_sq ?_
 refine run_pl [yy 0, yy 1, yy 2] ?_
 refine yM 22 7 ?_
 refine yM 23 1 ?_
 refine yV (kq 24 (.binOp .lss 3 (.tmp 22) (.tmp 23) 3)) (fun _ => val_lss rfl rfl) ?_
 refine Sch.nil ?_
 refine run_i 24 rfl (fun h24 => ?_) (fun h24 => ?_)
 ·
  have hil : i < n := by omega
  refine run_sk ?_
  refine run_sq ?_
  refine run_bk 1 ?_
  refine run_sq ?_
  refine run_pl [yy 0, yy 1, yy 2, nn 3, nn 4, yy 5] ?_
  refine yM 27 6 ?_
  refine yM 28 0 ?_
  refine yV (kq 29 (.binOp .rem 3 (.tmp 28) (.const (.int .i64 3)) 3)) (fun _ => val_is (val_modi rfl rfl (Int.natCast_nonneg _) (by decide)) (show _ = Value.int .i64 ((dg p i : Nat) : Int) from by unfold dg; rw [← hq, Int.natCast_emod]; rfl)) ?_
  refine aS (kq 30 (.buildSlice 22 1 #[(0, (.tmp 29))])) rfl rfl (a_buildSlice (ys := ([dg p i] : List Nat)) (e := 3) (bytes := 8) hF (by kernel_rfl) rfl (by decide) (by decide) ⟨rfl, ⟨_, rfl, rv_nat.2 rfl⟩, trivial⟩) ?_
  rintro v30 w3 ⟨hs, g31, hF⟩
  refine ⟨trivial, ?_⟩
  replace hT := hT.t hs; replace ho := ho.t hs
  refine aS (kq 31 (.call { callee := .builtin .append, args := #[(.tmp 27), (.tmp 30)], argTypes := #[22, 22] })) rfl rfl (a_append (e := 3) (bytes := 8) hF (by decide) rfl rfl (by kernel_rfl) (by decide) ho g31 (by simp only [List.length_cons, List.length_nil]; omega) (by simp only [List.length_cons, List.length_nil]; omega)) ?_
  rintro v31 w4 ⟨Cw4, hs, ho, hF⟩
  refine ⟨trivial, ?_⟩
  replace hT := hT.t hs; replace g31 := g31.t hs
  refine yA 6 31 ?_
  refine Sch.nil ?_
  refine run_pl [yy 0, yy 1, yy 2] ?_
  refine yM 32 0 ?_
  refine yV (kq 33 (.binOp .quo 3 (.tmp 32) (.const (.int .i64 3)) 3)) (fun _ => val_is (val_divi rfl rfl (Int.natCast_nonneg _) (by decide) (by omega)) (show _ = Value.int .i64 ((p / 3 ^ (i + 1) : Nat) : Int) from by rw [Nat.pow_succ, ← Nat.div_div_eq_div_mul, ← hq, Int.natCast_ediv]; rfl)) ?_
  refine yA 0 33 ?_
  refine Sch.nil ?_
  refine run_inBlock ?_
  refine run_pl [yy 0, yy 1, yy 2] ?_
  refine yM 25 7 ?_
  refine yV (kq 26 (.binOp .add 3 (.tmp 25) (.const (.int .i64 1)) 3)) (fun _ => val_addi rfl rfl (by omega) (by omega)) ?_
  refine yA 7 26 ?_
  refine Sch.nil ?_
  refine kp (sub_cons 0 rfl rfl (sub_cons 1 rfl rfl (sub_cons 6 rfl rfl (sub_cons 7 rfl (eq_int (by simp)) (sub_nil _))))) (next1 (i + 1, v31, Cw4) _ ⟨(by first | omega | (simp only; omega)), hF, hT, (by simp only; rw [digs_succ]; exact ho)⟩ (by first | omega | (simp only; omega)))
 ·
  have hil : i = n := by omega
  subst hil
  refine run_ex 0 ?_
  refine run_sq ?_
  refine run_pl [yy 0, yy 1, yy 2] ?_
  refine yM 34 6 ?_
  refine yA 4 34 ?_
  refine yAc 5 (.int .i64 0) ?_
  refine Sch.nil ?_
  refine run_ret2 (by kernel_rfl) Tryz.func56 Tryz.results56 rfl rfl ?_
  exact ⟨_, rfl, hT.out1 (by decide), ho.out hT hF0 (Mc_col1 C) (fun b _ => col1_lt C (by decide) b) (by omega)⟩
namespace F74
noncomputable def c0 := bodyOf Tryz.f74
noncomputable def c8 := (cl (cr (cr (cl (cr c0)))))
end F74
theorem digits25_ok {w₀ : World} {C : Nat → Nat} {pr : Int} {ag df : List Int} {va vd : Value} {p : Nat} (hF : Lim w₀ C) (hW : WOK pr ag df) (ha : RV w₀ (Mc C) ag va) (hd : RV w₀ (Mc C) df vd) (hp : p < 3 ^ ag.length) : Calls Tryz.prog 74 #[.agg #[.int .i64 pr, va, vd], .int .i64 p] w₀ (Ret fun v w' => ∃ u, v = .tuple #[u, .int .i64 0] ∧ Stp [] w₀ C w' C ∧ RV w' (Mc C) (digs p ag.length) u) := by
 have hF0 := hF
 have hT := Stp.refl [2, 3, 4, 5, 6, 7, 8, 9] w₀ (col1 C)
 replace hF := hF.col1
 replace ha : RV w₀ (Mc (col1 C)) ag va := by rw [Mc_col1]; exact ha
 replace hd : RV w₀ (Mc (col1 C)) df vd := by rw [Mc_col1]; exact hd
 refine calls_start (c := F74.c0) (N := 19) [.agg #[.int .i64 pr, va, vd], .int .i64 p] Tryz.func74 (by kernel_rfl) (by kernel_rfl) (by kernel_rfl) ?_
 show Run _ _ _ _ [(0, .agg #[.int .i64 pr, va, vd]), (1, .int .i64 p)] _ _
 refine run_sq ?_
 refine run_pl [nn 0, yy 1, yy 2] ?_
 refine aS (kq 2 (.box 28 (.tmp 0))) rfl rfl (a_box (cs := [.int .i64 pr, va, vd]) hF 3 rfl rfl) ?_
 rintro _ w1 ⟨Cw1, bw1, rfl, hs, hx, hF⟩
 refine ⟨trivial, ?_⟩
 replace hT := hT.t hs; replace ha := ha.t hs; replace hd := hd.t hs
 refine yV (kq 4 (.assign (.const (.slice none 0 0)))) (fun _ => val_assign rfl) ?_
 refine yAc 5 (.int .i64 0) ?_
 refine Sch.nil ?_
 refine run_sq ?_
 refine run_sq ?_
 refine run_pl [nn 0, nn 1, yy 2] ?_
 refine nS (kq 7 (.load 28 (.tmp 2))) rfl rfl trivial (val_loadOwnAgg (n := 3) (vs := [.int .i64 pr, va, vd]) hx.at_ (by kernel_rfl) (by kernel_rfl) rfl rfl rfl) ?_
 refine cS (kq 8 (.call { callee := .value (.func 100), args := #[(.tmp 7)], argTypes := #[28] })) rfl rfl (ent Tryz.call100 rfl) (wcheck25_ok hF hW ha hd) ?_
 rintro vw2 w2 ⟨rfl, hs⟩
 refine ⟨trivial, ?_⟩
 replace hF := hF.st hs
 replace hT := hT.t hs; replace ha := ha.t hs; replace hd := hd.t hs; replace hx := hx.t hs
 refine yA 6 8 ?_
 refine Sch.nil ?_
 refine run_sq ?_
 refine run_pl [yy 0, yy 1] ?_
 refine yM 9 6 ?_
 refine yV (kq 10 (.binOp .neq 52 (.tmp 9) (.const (.int .i64 0)) 52)) (fun _ => val_is (val_neq rfl rfl) (show _ = Value.bool false from congrArg Value.bool (decide_eq_false (by decide)))) ?_
 refine Sch.nil ?_
 refine run_cF 10 ?_
 refine run_sk ?_
 refine run_sq ?_
 refine run_pl [yy 0, yy 1, nn 2, yy 3, nn 4, yy 5, yy 6, yy 7, yy 8] ?_
 refine yM 12 1 ?_
 refine yF 13 28 2 1 1 ?_
 refine nS (kq 14 (.load 22 (.tmp 13))) rfl rfl trivial (val_loadOwn hx.at_ (by kernel_rfl) rfl rfl) ?_
 refine yS (kq 15 (.call { callee := .builtin .len, args := #[(.tmp 14)], argTypes := #[22] })) rfl rfl (fun w' hS => ha.lenV rfl Tryz.underlying22 w' ) ?_
 refine cS (kq 16 (.call { callee := .value (.func 56), args := #[(.tmp 12), (.tmp 15)], argTypes := #[3, 3] })) rfl rfl (ent Tryz.call56 rfl) (digits17_ok hF hW.l1 hW.l5 hp) ?_
 rintro vw3 w3 ⟨ug, rfl, hs, hg⟩
 refine ⟨trivial, ?_⟩
 replace hF := hF.st hs
 replace hT := hT.t hs; replace ha := ha.t hs; replace hd := hd.t hs; replace hx := hx.t hs
 refine yV (kq 17 (.extract (.tmp 16) 0)) (fun _ => val_extract rfl rfl) ?_
 refine yV (kq 18 (.extract (.tmp 16) 1)) (fun _ => val_extract rfl rfl) ?_
 refine yA 4 17 ?_
 refine yA 5 18 ?_
 refine Sch.nil ?_
 refine run_ret2 (by kernel_rfl) Tryz.func74 Tryz.results74 rfl rfl ?_
 exact ⟨_, rfl, hT.out1 (by decide), hg.out hT hF0 (Mc_col1 C)⟩
namespace F36
noncomputable def c0 := bodyOf Tryz.f36
noncomputable def c8 := (cl (cr (cl (cr (cr c0)))))
noncomputable def c15 := (cl (cr (cr (cr (cr c0)))))
noncomputable def c21 := (cl (cl (cl (cl (cr c15)))))
noncomputable def c22 := (cr (cl (cl (cl (cr c15)))))
noncomputable def c26 := (cl (cr (cl (cl (cr c15)))))
noncomputable def c38 := (cr (cr (cl (cl (cr c15)))))
noncomputable def c39 := (cr (cr (cr (cr (cr c0)))))
end F36
/-- The reference's 'Score'. -/
theorem score25_ok {w₀ : World} {C : Nat → Nat} {pr : Int} {ag df : List Int} {va vd : Value} {p : Nat} (hF : Lim w₀ C) (hW : WOK pr ag df) (ha : RV w₀ (Mc C) ag va) (hd : RV w₀ (Mc C) df vd) (hp : p < 3 ^ ag.length) : Calls Tryz.prog 36 #[.agg #[.int .i64 pr, va, vd], .int .i64 p] w₀ (Ret fun v w' => v = .tuple #[.int .i64 (scN pr ag df p ag.length), .int .i64 0] ∧ Stp [] w₀ C w' C) := by
 have hF0 := hF
 have hT := Stp.refl [2, 3, 4, 5, 6, 7, 8, 9] w₀ (col1 C)
 replace hF := hF.col1
 replace ha : RV w₀ (Mc (col1 C)) ag va := by rw [Mc_col1]; exact ha
 replace hd : RV w₀ (Mc (col1 C)) df vd := by rw [Mc_col1]; exact hd
 refine calls_start (c := F36.c0) (N := 52) [.agg #[.int .i64 pr, va, vd], .int .i64 p] Tryz.func36 (by kernel_rfl) (by kernel_rfl) (by kernel_rfl) ?_
 show Run _ _ _ _ [(0, .agg #[.int .i64 pr, va, vd]), (1, .int .i64 p)] _ _
 refine run_sq ?_
 refine run_pl [nn 0, yy 1, yy 2] ?_
 refine aS (kq 2 (.box 28 (.tmp 0))) rfl rfl (a_box (cs := [.int .i64 pr, va, vd]) hF 3 rfl rfl) ?_
 rintro _ w1 ⟨Cw1, bw1, rfl, hs, hx, hF⟩
 refine ⟨trivial, ?_⟩
 replace hT := hT.t hs; replace ha := ha.t hs; replace hd := hd.t hs
 refine yAc 4 (.int .i64 0) ?_
 refine yAc 5 (.int .i64 0) ?_
 refine Sch.nil ?_
 refine run_sq ?_
 refine run_pl [nn 0, yy 1, nn 2, yy 3, yy 4, yy 5, yy 6, yy 7] ?_
 refine nS (kq 11 (.load 28 (.tmp 2))) rfl rfl trivial (val_loadOwnAgg (n := 3) (vs := [.int .i64 pr, va, vd]) hx.at_ (by kernel_rfl) (by kernel_rfl) rfl rfl rfl) ?_
 refine yM 12 1 ?_
 refine cS (kq 13 (.call { callee := .value (.func 74), args := #[(.tmp 11), (.tmp 12)], argTypes := #[28, 3] })) rfl rfl (ent Tryz.call74 rfl) (digits25_ok hF hW ha hd hp) ?_
 rintro vw2 w2 ⟨ug, rfl, hs, hg⟩
 refine ⟨trivial, ?_⟩
 replace hF := hF.st hs
 replace hT := hT.t hs; replace ha := ha.t hs; replace hd := hd.t hs; replace hx := hx.t hs
 refine yM 10 13 ?_
 refine yV (kq 14 (.extract (.tmp 10) 0)) (fun _ => val_extract rfl rfl) ?_
 refine yV (kq 15 (.extract (.tmp 10) 1)) (fun _ => val_extract rfl rfl) ?_
 refine yA 6 14 ?_
 refine yA 7 15 ?_
 refine Sch.nil ?_
 refine run_sq ?_
 refine run_sq ?_
 refine run_pl [yy 0, yy 1] ?_
 refine yM 16 7 ?_
 refine yV (kq 17 (.binOp .neq 52 (.tmp 16) (.const (.int .i64 0)) 52)) (fun _ => val_is (val_neq rfl rfl) (show _ = Value.bool false from congrArg Value.bool (decide_eq_false (by decide)))) ?_
 refine Sch.nil ?_
 refine run_cF 17 ?_
 refine run_sk ?_
 refine run_sq ?_
 refine run_pl [yy 0, nn 1, yy 2] ?_
 refine yF 19 28 2 0 0 ?_
 refine nS (kq 20 (.load 3 (.tmp 19))) rfl rfl trivial (val_loadOwn hx.at_ (by kernel_rfl) rfl rfl) ?_
 refine yA 8 20 ?_
 refine Sch.nil ?_
 refine run_sq ?_
 refine run_sq ?_
 refine run_pl [yy 0] ?_
 refine yAc 9 (.int .i64 0) ?_
 refine Sch.nil ?_
 refine run_bk 0 ?_
 
 refine run_lp (ι := Nat × (Nat → Nat)) (I := fun x w => x.1 ≤ ag.length ∧ Lim w x.2 ∧ Stp [2, 3, 4, 5, 6, 7, 8, 9] w₀ (col1 C) w x.2 ∧ RV w (Mc x.2) ag va ∧ RV w (Mc x.2) df vd ∧ RV w (Mc x.2) (digs p ag.length) ug ∧ OwnB w x.2 3 bw1 (.cells [.int .i64 pr, va, vd].toArray 28)) (e := fun x => [(2, .pointer (some ⟨bw1, 0, none⟩)), (6, ug), (8, .int .i64 (scN pr ag df p x.1)), (9, .int .i64 x.1)]) (m := fun x => ag.length - x.1) (x₀ := (0, Cw1)) (sr 2 (sr 6 (sr 8 (sr 9 (sub_nil _))))) ?_ ?_
 · exact ⟨Nat.zero_le _, hF, hT, ha, hd, hg, hx⟩
 intro ⟨i, C1⟩ w3 hI next
 obtain ⟨hi, hF, hT, ha, hd, hg, hx⟩ := hI
 try simp only at hi hF hT ha hd hg hx
 have next1 := next
 clear next
 show Run _ _ _ _ [(2, .pointer (some ⟨bw1, 0, none⟩)), (6, ug), (8, .int .i64 (scN pr ag df p i)), (9, .int .i64 i)] _ _
 have hle := hW.l5
 have hld := hW.ld
 have hdl := digs_len p ag.length
 have hsb := hW.sc p hi
 refine run_sq ?_
 refine run_sq ?_
 refine run_pl [yy 0, yy 1, yy 2, yy 3] ?_
 refine yM 21 9 ?_
 refine yM 22 6 ?_
 refine yS (kq 23 (.call { callee := .builtin .len, args := #[(.tmp 22)], argTypes := #[22] })) rfl rfl (fun w' hS => hg.lenV rfl Tryz.underlying22 w' ) ?_
 refine yV (kq 24 (.binOp .lss 3 (.tmp 21) (.tmp 23) 3)) (fun _ => val_lss rfl rfl) ?_
 refine Sch.nil ?_
 refine run_i 24 rfl (fun h24 => ?_) (fun h24 => ?_)
 ·
  have hil : i < ag.length := by omega
  have hid : i < df.length := by omega
  have hab := hW.amt_b hil p
  have hfa := hW.fa i hil
  have hfd := hW.fd i hid
  unfold fitW at hfa hfd
  have hdg := dg_lt p i
  refine run_sk ?_
  refine run_sq ?_
  refine run_bk 1 ?_
  refine run_sq ?_
  refine run_sq ?_
  refine run_pl [yy 0, yy 1, yy 2, nn 3, yy 4] ?_
  refine yM 27 6 ?_
  refine yM 28 9 ?_
  refine iS (e := 3) (kq 29 (.indexAddr 22 (.tmp 27) (.tmp 28))) rfl rfl hg rfl (by kernel_rfl) rfl (by omega) (by omega) ?_
  intro b29 o29 h29
  try simp only [Int.toNat_natCast] at h29
  refine lN (kq 30 (.load 3 (.tmp 29))) rfl rfl trivial h29 (by kernel_rfl) rfl rfl ?_
  intro v30 g30
  first | (obtain rfl := rv_nat.1 g30) | (obtain rfl := rv_int.1 g30)
  rw [digs_get]
  refine yV (kq 31 (.binOp .eql 3 (.tmp 30) (.const (.int .i64 2)) 3)) (fun _ => val_eql rfl rfl) ?_
  refine Sch.nil ?_
  refine run_i 31 rfl (fun h31 => ?_) (fun h31 => ?_)
  ·
   have hd2 : dg p i = 2 := by omega
   have e2 : amt ag df p i = ag[i] := by unfold amt cntL; rw [hd2, getD_in hil]; rfl
   refine run_pl [yy 0, yy 1, nn 2, yy 3, yy 4, nn 5, yy 6, yy 7] ?_
   refine yM 32 8 ?_
   refine yF 33 28 2 1 1 ?_
   refine nS (kq 34 (.load 22 (.tmp 33))) rfl rfl trivial (val_loadOwn hx.at_ (by kernel_rfl) rfl rfl) ?_
   refine yM 35 9 ?_
   refine iS (e := 3) (kq 36 (.indexAddr 22 (.tmp 34) (.tmp 35))) rfl rfl ha rfl (by kernel_rfl) rfl (by omega) (by omega) ?_
   intro b36 o36 h36
   try simp only [Int.toNat_natCast] at h36
   refine lN (kq 37 (.load 3 (.tmp 36))) rfl rfl trivial h36 (by kernel_rfl) rfl rfl ?_
   intro v37 g37
   first | (obtain rfl := rv_nat.1 g37) | (obtain rfl := rv_int.1 g37)
   refine yV (kq 38 (.binOp .add 3 (.tmp 32) (.tmp 37) 3)) (fun _ => val_addi rfl rfl (by omega) (by omega)) ?_
   refine yA 8 38 ?_
   refine Sch.nil ?_
   refine run_sq ?_
   refine run_pl [yy 0, yy 1, yy 2, nn 3, yy 4] ?_
   refine yM 39 6 ?_
   refine yM 40 9 ?_
   refine iS (e := 3) (kq 41 (.indexAddr 22 (.tmp 39) (.tmp 40))) rfl rfl hg rfl (by kernel_rfl) rfl (by omega) (by omega) ?_
   intro b41 o41 h41
   try simp only [Int.toNat_natCast] at h41
   refine lN (kq 42 (.load 3 (.tmp 41))) rfl rfl trivial h41 (by kernel_rfl) rfl rfl ?_
   intro v42 g42
   first | (obtain rfl := rv_nat.1 g42) | (obtain rfl := rv_int.1 g42)
   rw [digs_get]
   refine yV (kq 43 (.binOp .eql 3 (.tmp 42) (.const (.int .i64 1)) 3)) (fun _ => val_eql rfl rfl) ?_
   refine Sch.nil ?_
   refine run_i 43 rfl (fun h43 => ?_) (fun h43 => ?_)
   ·
    exact absurd h43 (by omega)
   ·
    have hd1 := hd2
    refine run_sk ?_
    refine run_inBlock ?_
    refine run_pl [yy 0, yy 1, yy 2] ?_
    refine yM 25 9 ?_
    refine yV (kq 26 (.binOp .add 3 (.tmp 25) (.const (.int .i64 1)) 3)) (fun _ => val_addi rfl rfl (by omega) (by omega)) ?_
    refine yA 9 26 ?_
    refine Sch.nil ?_
    refine kp (sub_cons 2 rfl rfl (sub_cons 6 rfl rfl (sub_cons 8 rfl (eq_int (by simp only; rw [scN, e2])) (sub_cons 9 rfl (eq_int (by simp)) (sub_nil _))))) (next1 (i + 1, C1) _ ⟨(by first | omega | (simp only; omega)), hF, hT, ha, hd, hg, hx⟩ (by first | omega | (simp only; omega)))
  ·
   have hd2 : dg p i ≠ 2 := by omega
   refine run_sk ?_
   refine run_sq ?_
   refine run_pl [yy 0, yy 1, yy 2, nn 3, yy 4] ?_
   refine yM 39 6 ?_
   refine yM 40 9 ?_
   refine iS (e := 3) (kq 41 (.indexAddr 22 (.tmp 39) (.tmp 40))) rfl rfl hg rfl (by kernel_rfl) rfl (by omega) (by omega) ?_
   intro b41 o41 h41
   try simp only [Int.toNat_natCast] at h41
   refine lN (kq 42 (.load 3 (.tmp 41))) rfl rfl trivial h41 (by kernel_rfl) rfl rfl ?_
   intro v42 g42
   first | (obtain rfl := rv_nat.1 g42) | (obtain rfl := rv_int.1 g42)
   rw [digs_get]
   refine yV (kq 43 (.binOp .eql 3 (.tmp 42) (.const (.int .i64 1)) 3)) (fun _ => val_eql rfl rfl) ?_
   refine Sch.nil ?_
   refine run_i 43 rfl (fun h43 => ?_) (fun h43 => ?_)
   ·
    have hd1 : dg p i = 1 := by omega
    have e1 : amt ag df p i = df[i] := by unfold amt cntL; rw [hd1, getD_in hid]; rfl
    refine run_pl [yy 0, yy 1, nn 2, yy 3, yy 4, nn 5, yy 6, yy 7] ?_
    refine yM 44 8 ?_
    refine yF 45 28 2 2 2 ?_
    refine nS (kq 46 (.load 22 (.tmp 45))) rfl rfl trivial (val_loadOwn hx.at_ (by kernel_rfl) rfl rfl) ?_
    refine yM 47 9 ?_
    refine iS (e := 3) (kq 48 (.indexAddr 22 (.tmp 46) (.tmp 47))) rfl rfl hd rfl (by kernel_rfl) rfl (by omega) (by omega) ?_
    intro b48 o48 h48
    try simp only [Int.toNat_natCast] at h48
    refine lN (kq 49 (.load 3 (.tmp 48))) rfl rfl trivial h48 (by kernel_rfl) rfl rfl ?_
    intro v49 g49
    first | (obtain rfl := rv_nat.1 g49) | (obtain rfl := rv_int.1 g49)
    refine yV (kq 50 (.binOp .add 3 (.tmp 44) (.tmp 49) 3)) (fun _ => val_addi rfl rfl (by omega) (by omega)) ?_
    refine yA 8 50 ?_
    refine Sch.nil ?_
    refine run_inBlock ?_
    refine run_pl [yy 0, yy 1, yy 2] ?_
    refine yM 25 9 ?_
    refine yV (kq 26 (.binOp .add 3 (.tmp 25) (.const (.int .i64 1)) 3)) (fun _ => val_addi rfl rfl (by omega) (by omega)) ?_
    refine yA 9 26 ?_
    refine Sch.nil ?_
    refine kp (sub_cons 2 rfl rfl (sub_cons 6 rfl rfl (sub_cons 8 rfl (eq_int (by simp only; rw [scN, e1])) (sub_cons 9 rfl (eq_int (by simp)) (sub_nil _))))) (next1 (i + 1, C1) _ ⟨(by first | omega | (simp only; omega)), hF, hT, ha, hd, hg, hx⟩ (by first | omega | (simp only; omega)))
   ·
    have hd0 : dg p i = 0 := by omega
    have e0 : amt ag df p i = 0 := by unfold amt cntL; rw [hd0]; rfl
    refine run_sk ?_
    refine run_inBlock ?_
    refine run_pl [yy 0, yy 1, yy 2] ?_
    refine yM 25 9 ?_
    refine yV (kq 26 (.binOp .add 3 (.tmp 25) (.const (.int .i64 1)) 3)) (fun _ => val_addi rfl rfl (by omega) (by omega)) ?_
    refine yA 9 26 ?_
    refine Sch.nil ?_
    refine kp (sub_cons 2 rfl rfl (sub_cons 6 rfl rfl (sub_cons 8 rfl (eq_int (by simp only; rw [scN, e0, Int.add_zero])) (sub_cons 9 rfl (eq_int (by simp)) (sub_nil _))))) (next1 (i + 1, C1) _ ⟨(by first | omega | (simp only; omega)), hF, hT, ha, hd, hg, hx⟩ (by first | omega | (simp only; omega)))
 ·
  have hil : i = ag.length := by omega
  refine run_ex 0 ?_
  refine run_sq ?_
  refine run_pl [yy 0, yy 1, yy 2] ?_
  refine yM 51 8 ?_
  refine yA 4 51 ?_
  refine yAc 5 (.int .i64 0) ?_
  refine Sch.nil ?_
  refine run_ret2 (by kernel_rfl) Tryz.func36 Tryz.results36 rfl rfl ?_
  exact ⟨by subst hil; rfl, hT.out1 (by decide)⟩
end Go.Proofs.YtionghonhnedgaaGreat
