/- Steps through functions of the program. -/
import Derived.Test.YtdmgmlmlielfbaaGreatJG1
import Derived.Test.YtdmgmlmlielfbaaGreatJF9
import Derived.Test.YtdmgmlmlielfbaaGreatJC7
import Derived.Test.YtdmgmlmlielfbaaGreatJE7
import Derived.Test.YtdmgmlmlielfbaaGreatL2
import Derived.Test.YtdmgmlmlielfbaaGreatL3
set_option linter.unusedVariables false
set_option linter.unusedSimpArgs false
set_option maxRecDepth 100000
set_option maxHeartbeats 4000000
namespace Go.Proofs.YtdmgmlmlielfbaaGreat
open Go.K Go.K.Rep
noncomputable section
namespace F39
def c0 := bodyOf Tryz.f39
end F39
theorem solve_ok {w₀ : World} {C : Nat → Nat} {l : List Bond} {ds : List Dcs} {vl vz : Value} {gf : Nat} {wf : List Bond → List (List Couple) × Int} (hcall : ∀ args w, (callFunc gf args).run Tryz.prog w = .ok (.enter gf args) w) (hW : WayOK Tryz.prog gf l ds wf) (hF : Lim w₀ C) (hl : RV w₀ (Mc C) l vl) (hz : RV w₀ (Mc C) ds vz) (hck : checkS l = 0) (hl4 : l.length ≤ 4096) (hm4 : ds.length ≤ 4096) (hO : ∀ i (h : i < ds.length), dcsOK ds[i]) (hA1 : ∀ i (h : i + 1 < ds.length), cmpD ds[i] ds[i + 1] < 0)
    (hw : ∀ x ∈ l, 1 ≤ x.w ∧ x.w ≤ 1048576) (hPy : ∀ x ∈ allW wf (splitS l), 0 < x.length) (h12 : (allW wf (splitS l)).length ≤ 12) : Calls Tryz.prog 39 #[vl, vz, .func (.func gf) #[] #[]] w₀ (Ret fun v w' => Stp [] w₀ C w' C ∧
      ((∃ k, ∃ hk : k < (splitS l).length, (∀ q (hq : q < k), (wf (splitS l)[q]).2 = 0) ∧ (wf (splitS l)[k]).2 ≠ 0 ∧ v = .tuple #[.slice none 0 0, .int .i64 0, .int .i64 (wf (splitS l)[k]).2]) ∨
       ((∀ q (hq : q < (splitS l).length), (wf (splitS l)[q]).2 = 0) ∧ ∃ zs vp, StS cmpH (allW wf (splitS l)) zs ∧ v = .tuple #[vp, .int .i64 (valueB l zs), .int .i64 0] ∧ RV w' (Mc C) zs vp))) := by
 have hF0 := hF
 have hT := Stp.refl [2, 3, 4, 5, 6, 7, 8, 9] w₀ (col1 C)
 replace hF := hF.col1
 replace hl := hl.c1
 replace hz := hz.c1
 refine c_st F39.c0 57 [vl, vz, .func (.func gf) #[] #[]] Tryz.func39 ?_
 show Run _ _ _ _ [(0, vl), (1, vz), (2, .func (.func gf) #[] #[])] _ _
 refine run_sq (run_pl [yy 0, yy 1, yy 2] ?_)
 refine yV (kq 6 (.assign (.const (.slice none 0 0)))) (fun _ => val_assign rfl) ?_
 refine yAc 7 (.int .i64 0) ?_
 refine yAc 8 (.int .i64 0) ?_
 refine Sch.nil (run_sq (run_pl [yy 0, yy 1, nn 2, yy 3, yy 4, yy 5, nn 6, nn 7, yy 8] ?_))
 refine yM 19 0 ?_
 refine yM 20 1 ?_
 refine cG 21 52 [19, 20] [23, 24] Tryz.call52 rfl (cchk_ok hF hl hz hck hm4 hO hA1) ?_
 rintro vw1 w1 ⟨vm, rfl, s_1, hap⟩
 refine yM 18 21 ?_
 refine yE 22 18 0 ?_
 refine yE 23 18 1 ?_
 replace hF := hF.st s_1
 refine aT (kq 9 (.alloc 75)) rfl rfl (a_alloc (cs := [.slice none 0 0, .map none]) hF 4 (by kernel_rfl)) ?_
 rintro _ w2 ⟨Cw2, bw2, rfl, s_2, bx, hF⟩
 replace hl := (hl.t s_1).t s_2; replace hap := hap.t s_2
 refine aU (k0 (.store 75 (.tmp 9) (.tmp 22))) rfl (a_storeAll (vs := [vl, vm]) (n := 2) rfl rfl (by kernel_rfl) rfl rfl (by intro u hu; simp only [List.mem_cons, List.not_mem_nil, or_false] at hu; rcases hu with rfl | rfl <;> first | rfl | exact (hl.one rfl).2 | exact hap.one.2) bx rfl) ?_
 rintro _ w3 ⟨rfl, s_3, bx⟩
 refine yA 10 23 ?_
 refine Sch.nil (run_sq (run_sq (run_pl [yy 0, yy 1] ?_)))
 refine yM 24 10 ?_
 refine yV (kq 25 (.binOp .neq 36 (.tmp 24) (.const (.int .i64 0)) 36)) (fun _ => val_is (val_neq rfl rfl) (show _ = Value.bool false from congrArg Value.bool (decide_eq_false (by decide)))) ?_
 refine Sch.nil (run_cF 25 (run_sk (run_sq (run_pl [yy 0, nn 1, yy 2, yy 3, yy 4, yy 5, yy 6] ?_))))
 refine yM 28 0 ?_
 replace hF := hF.st s_3; replace hl := hl.t s_3
 refine cG 29 33 [28] [23] Tryz.call33 rfl (split_ok hF hl (by omega)) ?_
 rintro vw4 w4 ⟨vu, rfl, s_4, hu⟩
 rw [if_pos hck] at hu
 rw [hck]
 refine yM 27 29 ?_
 refine yE 30 27 0 ?_
 refine yE 31 27 1 ?_
 refine yA 11 30 ?_
 refine yA 12 31 ?_
 refine Sch.nil (run_sq (run_pl [yy 0] ?_))
 refine yV (kq 13 (.assign (.const (.slice none 0 0)))) (fun _ => val_assign rfl) ?_
 refine Sch.nil (run_sq (run_sq (run_pl [yy 0, yy 1, yy 2] ?_)))
 refine yM 32 11 ?_
 refine yS (kq 33 (.call { callee := .builtin .len, args := #[(.tmp 32)], argTypes := #[33] })) rfl rfl (fun w' hS => hu.lenV rfl Tryz.underlying33 w' ) ?_
 refine yC 34 (.int .i64 0) ?_
 refine Sch.nil (run_bk 0 ?_)
 refine run_lp (ι := Nat × Value × (Nat → Nat)) (I := fun x w => x.1 ≤ (splitS l).length ∧ (∀ q (hq : q < x.1) (hq2 : q < (splitS l).length), (wf (splitS l)[q]).2 = 0) ∧ Lim w x.2.2 ∧ Stp [2, 3, 4, 5, 6, 7, 8, 9] w₀ (col1 C) w x.2.2 ∧ RV w (Mc x.2.2) l vl ∧ ApM w (Mc x.2.2) ds vm ∧ OwnB w x.2.2 4 bw2 (.cells [vl, vm].toArray 75) ∧ RV w (Mc x.2.2) (splitS l) vu ∧ OwnL w x.2.2 6 53 x.2.1 (allW wf ((splitS l).take x.1))) (e := fun x => [(0, vl), (2, .func (.func gf) #[] #[]), (9, .pointer (some ⟨bw2, 0, none⟩)), (13, x.2.1), (32, vu), (33, .int .i64 (splitS l).length), (34, .int .i64 x.1)]) (m := fun x => (splitS l).length - x.1) (x₀ := (0, .slice none 0 0, Cw2)) (sr 0 (sr 2 (sr 9 (sr 13 (sr 32 (sr 33 (sr 34 (sub_nil _)))))))) ?_ ?_
 ·
   replace hT := (((hT.t s_1).t s_2).t s_3).t s_4; replace hap := (hap.t s_3).t s_4; replace hF := hF.st s_4; replace hl := hl.t s_4; replace bx := bx.t s_4
   exact ⟨Nat.zero_le _, fun q hq => by simp only at hq; omega, hF, hT, hl, hap, bx, hu, OwnL.nil⟩
 intro ⟨k, vo, C1⟩ w5 hI next1
 obtain ⟨hk, h0, hF, hT, hl, hap, bx, hu, ho⟩ := hI
 try simp only at hk h0 hF hT hl hap bx hu ho
 show Run _ _ _ _ [(0, vl), (2, .func (.func gf) #[] #[]), (9, .pointer (some ⟨bw2, 0, none⟩)), (13, vo), (32, vu), (33, .int .i64 (splitS l).length), (34, .int .i64 k)] _ _
 have hle := hu.le
 refine run_sq (run_pl [yy 0] ?_)
 refine yL 35 3 34 33 ?_
 refine Sch.nil (run_sq ?_)
 refine run_i 35 rfl (fun h35 => ?_) (fun h35 => ?_)
 ·
  have hkl : k < (splitS l).length := by omega
  have hnx := allW_next (wf := wf) hkl
  have hal := allW_le (wf := wf) (ps := (splitS l)) (k + 1)
  have hnl := congrArg List.length hnx
  rw [List.length_append] at hnl
  refine run_sk (run_sq (run_bk 1 (run_sq (run_pl [yy 0, nn 1, yy 2] ?_))))
  refine iR 23 36 33 32 34 hu rfl (h := ?_)
  intro b36 o36 h36
  try simp only [Int.toNat_natCast] at h36
  refine lN (kq 37 (.load 23 (.tmp 36))) rfl rfl trivial h36 (by kernel_rfl) rfl rfl ?_
  intro v37 g37
  refine yA 15 37 ?_
  refine Sch.nil (run_sq (run_pl [yy 0, nn 1, yy 2, nn 3, yy 4, yy 5, yy 6, yy 7, yy 8] ?_))
  refine yM 39 2 ?_
  refine nS (kq 40 (.load 75 (.tmp 9))) rfl rfl trivial (val_loadOwnAgg (n := 2) (vs := [vl, vm]) bx.at_ (by kernel_rfl) (by kernel_rfl) rfl rfl rfl) ?_
  refine yM 41 15 ?_
  refine cT (kq 42 (.call { callee := .value (.tmp 39), args := #[(.tmp 40), (.tmp 41)], argTypes := #[75, 23] })) rfl rfl (enters_func hcall rfl rfl) (hW _ _ k hkl _ _ _ hF g37 hap) ?_
  rintro vw6 w6 ⟨vp, rfl, s_5, hps⟩
  refine yM 38 42 ?_
  refine yE 43 38 0 ?_
  refine yE 44 38 1 ?_
  refine yA 16 43 ?_
  refine yA 17 44 ?_
  refine Sch.nil (run_sq (run_sq (run_pl [yy 0, yy 1] ?_)))
  refine yM 45 17 ?_
  refine yV (kq 46 (.binOp .neq 36 (.tmp 45) (.const (.int .i64 0)) 36)) (fun _ => val_neq rfl rfl) ?_
  refine Sch.nil ?_
  refine run_i 46 rfl (fun h46 => ?_) (fun h46 => ?_)
  ·
   refine run_sq (run_pl [yy 0, yy 1, yy 2, yy 3] ?_)
   refine yM 47 17 ?_
   refine yV (kq 6 (.assign (.const (.slice none 0 0)))) (fun _ => val_assign rfl) ?_
   refine yAc 7 (.int .i64 0) ?_
   refine yA 8 47 ?_
   refine Sch.nil ?_
   refine run_ret3 (by kernel_rfl) Tryz.func39 Tryz.results39 rfl rfl rfl ?_
   replace hT := hT.t s_5
   exact ⟨hT.out1 (by decide), .inl ⟨k, hkl, fun q hq => h0 q hq (by omega), h46, rfl⟩⟩
  have h46b : (wf ((splitS l)[k]'hkl)).2 = 0 := by omega
  refine run_sk (run_pl [yy 0, yy 1, nn 2, yy 3] ?_)
  refine yM 48 13 ?_
  refine yM 49 16 ?_
  replace hF := hF.st s_5; replace ho := ho.t s_5
  refine aT (kq 50 (.call { callee := .builtin .append, args := #[(.tmp 48), (.tmp 49)], argTypes := #[25, 25] })) rfl rfl (a_append (e := 53) (bytes := 24) hF (by decide) rfl rfl (by kernel_rfl) (by decide) ho hps (by omega) (by omega)) ?_
  rintro v50 w7 ⟨Cw7, s_6, ho, hF⟩
  refine yA 13 50 ?_
  refine Sch.nil (run_inBlock (run_pl [yy 0, yy 1] ?_))
  refine yI 51 3 34 1 ?_
  refine yM 34 51 ?_
  refine Sch.nil ?_
  replace hT := (hT.t s_5).t s_6; replace hl := (hl.t s_5).t s_6; replace hap := (hap.t s_5).t s_6; replace bx := (bx.t s_5).t s_6; replace hu := (hu.t s_5).t s_6
  refine kp (sub_cons 0 rfl rfl (sub_cons 2 rfl rfl (sub_cons 9 rfl rfl (sub_cons 13 rfl rfl (sub_cons 32 rfl rfl (sub_cons 33 rfl rfl (sub_cons 34 rfl (eq_int (by simp)) (sub_nil _)))))))) (next1 (k + 1, v50, Cw7) _ ⟨(by first | omega | (simp only; omega)), (fun q hq hq2 => by
       simp only at hq
       by_cases e : q = k
       · subst e; exact h46b
       · exact h0 q (by omega) hq2), hF, hT, hl, hap, bx, hu, (by simp only; rw [hnx]; exact ho)⟩ (by first | omega | (simp only; omega)))
 have hkl : k = (splitS l).length := by omega
 rw [hkl, List.take_length] at ho
 refine run_ex 0 ?_
 refine run_sq (run_pl [yy 0, nn 1, yy 2, yy 3, nn 4, yy 5, yy 6, yy 7] ?_)
 refine yM 52 13 ?_
 refine cG 53 71 [52] [25] Tryz.call71 rfl (sorted_ok hF (by decide) ho hPy h12) ?_
 rintro vw8 w8 ⟨rfl, zs, hSt, s_7, ho, hF⟩
 have hzl := hSt.len
 refine yM 54 0 ?_
 refine yM 55 13 ?_
 replace hl := hl.t s_7
 refine cG 56 28 [54, 55] [23, 25] Tryz.call28 rfl (value_ok (C := C0) (lim00 _) hl.c0 (ho.rv0 (by omega)) hw hl4) ?_
 rintro _ w9 ⟨rfl, s_8⟩
 replace s_8 := s_8.re (C1)
 refine yA 6 53 ?_
 refine yA 7 56 ?_
 refine yAc 8 (.int .i64 0) ?_
 refine Sch.nil ?_
 refine run_ret3 (by kernel_rfl) Tryz.func39 Tryz.results39 rfl rfl rfl ?_
 replace hT := (hT.t s_7).t s_8; replace ho := ho.t s_8
 exact ⟨hT.out1 (by decide), .inr ⟨fun q hq => h0 q (by omega) hq, zs, _, hSt, rfl, ho.out hT hF0 (Mc_col1 C) (fun b _ => col1_lt C (by decide) b) (by omega)⟩⟩
end
end Go.Proofs.YtdmgmlmlielfbaaGreat
