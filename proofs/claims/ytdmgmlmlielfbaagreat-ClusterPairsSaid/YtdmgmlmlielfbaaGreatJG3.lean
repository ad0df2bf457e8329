/- Steps through functions of the program. -/
import Derived.Test.YtdmgmlmlielfbaaGreatJG2
set_option linter.unusedVariables false
set_option linter.unusedSimpArgs false
set_option maxRecDepth 100000
set_option maxHeartbeats 4000000
namespace Go.Proofs.YtdmgmlmlielfbaaGreat
open Go.K Go.K.Rep
noncomputable section
namespace F18
def c0 := bodyOf Tryz.f18
end F18
theorem topG_ok {w₀ : World} {C : Nat → Nat} {l : List Bond} {ds : List Dcs} {vl vz : Value} (hW : WayOK Tryz.prog 40 l ds (wayG ds)) (hF : Lim w₀ C) (hl : RV w₀ (Mc C) l vl) (hz : RV w₀ (Mc C) ds vz) (hck : checkS l = 0) (hl4 : l.length ≤ 4096) (hm4 : ds.length ≤ 4096) (hO : ∀ i (h : i < ds.length), dcsOK ds[i]) (hA1 : ∀ i (h : i + 1 < ds.length), cmpD ds[i] ds[i + 1] < 0)
    (hw : ∀ x ∈ l, 1 ≤ x.w ∧ x.w ≤ 1048576) (hPy : ∀ x ∈ allW (wayG ds) (splitS l), 0 < x.length) (h12 : (allW (wayG ds) (splitS l)).length ≤ 12) : Calls Tryz.prog 18 #[vl, vz] w₀ (Ret fun v w' => Stp [] w₀ C w' C ∧
      ((∃ k, ∃ hk : k < (splitS l).length, (∀ q (hq : q < k), (wayG ds (splitS l)[q]).2 = 0) ∧ (wayG ds (splitS l)[k]).2 ≠ 0 ∧ v = .tuple #[.slice none 0 0, .int .i64 0, .int .i64 (wayG ds (splitS l)[k]).2]) ∨
       ((∀ q (hq : q < (splitS l).length), (wayG ds (splitS l)[q]).2 = 0) ∧ ∃ zs vp, StS cmpH (allW (wayG ds) (splitS l)) zs ∧ v = .tuple #[vp, .int .i64 (valueB l zs), .int .i64 0] ∧ RV w' (Mc C) zs vp))) := by
 refine c_st F18.c0 13 [vl, vz] Tryz.func18 ?_
 show Run _ _ _ _ [(0, vl), (1, vz)] _ _
 refine run_sq (run_pl [yy 0, yy 1, yy 2] ?_)
 refine yV (kq 4 (.assign (.const (.slice none 0 0)))) (fun _ => val_assign rfl) ?_
 refine yAc 5 (.int .i64 0) ?_
 refine yAc 6 (.int .i64 0) ?_
 refine Sch.nil (run_sq (run_pl [yy 0, yy 1, nn 2, yy 3, yy 4, yy 5, yy 6, yy 7, yy 8] ?_))
 refine yM 7 0 ?_
 refine yM 8 1 ?_
 refine cT (kq 9 (.call { callee := .value (.func 39), args := #[(.tmp 7), (.tmp 8), (.func 40)], argTypes := #[23, 24, 77] })) rfl rfl (ent Tryz.call39 rfl) (solve_ok (gf := 40) (wf := wayG ds) (fun args w => Tryz.call40 args w) hW hF hl hz hck hl4 hm4 hO hA1 hw hPy h12) ?_
 rintro vr w1 ⟨s_1, hout⟩
 obtain ⟨r1, r2, r3, hvr⟩ : ∃ r1 r2 r3, vr = .tuple #[r1, r2, r3] := by
  rcases hout with ⟨k, hk, _, _, e⟩ | ⟨_, zs, vp, _, e, _⟩
  · exact ⟨_, _, _, e⟩
  exact ⟨_, _, _, e⟩
 subst hvr
 refine yE 10 9 0 ?_
 refine yE 11 9 1 ?_
 refine yE 12 9 2 ?_
 refine yA 4 10 ?_
 refine yA 5 11 ?_
 refine yA 6 12 ?_
 refine Sch.nil ?_
 refine run_ret3 (by kernel_rfl) Tryz.func18 Tryz.results18 rfl rfl rfl ?_
 exact ⟨s_1, hout⟩
namespace F21
def c0 := bodyOf Tryz.f21
end F21
theorem topS_ok {w₀ : World} {C : Nat → Nat} {l : List Bond} {ds : List Dcs} {vl vz : Value} (hW : WayOK Tryz.prog 44 l ds (wayS ds)) (hF : Lim w₀ C) (hl : RV w₀ (Mc C) l vl) (hz : RV w₀ (Mc C) ds vz) (hck : checkS l = 0) (hl4 : l.length ≤ 4096) (hm4 : ds.length ≤ 4096) (hO : ∀ i (h : i < ds.length), dcsOK ds[i]) (hA1 : ∀ i (h : i + 1 < ds.length), cmpD ds[i] ds[i + 1] < 0)
    (hw : ∀ x ∈ l, 1 ≤ x.w ∧ x.w ≤ 1048576) (hPy : ∀ x ∈ allW (wayS ds) (splitS l), 0 < x.length) (h12 : (allW (wayS ds) (splitS l)).length ≤ 12) : Calls Tryz.prog 21 #[vl, vz] w₀ (Ret fun v w' => Stp [] w₀ C w' C ∧
      ((∃ k, ∃ hk : k < (splitS l).length, (∀ q (hq : q < k), (wayS ds (splitS l)[q]).2 = 0) ∧ (wayS ds (splitS l)[k]).2 ≠ 0 ∧ v = .tuple #[.slice none 0 0, .int .i64 0, .int .i64 (wayS ds (splitS l)[k]).2]) ∨
       ((∀ q (hq : q < (splitS l).length), (wayS ds (splitS l)[q]).2 = 0) ∧ ∃ zs vp, StS cmpH (allW (wayS ds) (splitS l)) zs ∧ v = .tuple #[vp, .int .i64 (valueB l zs), .int .i64 0] ∧ RV w' (Mc C) zs vp))) := by
 refine c_st F21.c0 13 [vl, vz] Tryz.func21 ?_
 show Run _ _ _ _ [(0, vl), (1, vz)] _ _
 refine run_sq (run_pl [yy 0, yy 1, yy 2] ?_)
 refine yV (kq 4 (.assign (.const (.slice none 0 0)))) (fun _ => val_assign rfl) ?_
 refine yAc 5 (.int .i64 0) ?_
 refine yAc 6 (.int .i64 0) ?_
 refine Sch.nil (run_sq (run_pl [yy 0, yy 1, nn 2, yy 3, yy 4, yy 5, yy 6, yy 7, yy 8] ?_))
 refine yM 7 0 ?_
 refine yM 8 1 ?_
 refine cT (kq 9 (.call { callee := .value (.func 39), args := #[(.tmp 7), (.tmp 8), (.func 44)], argTypes := #[23, 24, 77] })) rfl rfl (ent Tryz.call39 rfl) (solve_ok (gf := 44) (wf := wayS ds) (fun args w => Tryz.call44 args w) hW hF hl hz hck hl4 hm4 hO hA1 hw hPy h12) ?_
 rintro vr w1 ⟨s_1, hout⟩
 obtain ⟨r1, r2, r3, hvr⟩ : ∃ r1 r2 r3, vr = .tuple #[r1, r2, r3] := by
  rcases hout with ⟨k, hk, _, _, e⟩ | ⟨_, zs, vp, _, e, _⟩
  · exact ⟨_, _, _, e⟩
  exact ⟨_, _, _, e⟩
 subst hvr
 refine yE 10 9 0 ?_
 refine yE 11 9 1 ?_
 refine yE 12 9 2 ?_
 refine yA 4 10 ?_
 refine yA 5 11 ?_
 refine yA 6 12 ?_
 refine Sch.nil ?_
 refine run_ret3 (by kernel_rfl) Tryz.func21 Tryz.results21 rfl rfl rfl ?_
 exact ⟨s_1, hout⟩
namespace F23
def c0 := bodyOf Tryz.f23
end F23
theorem topX_ok {w₀ : World} {C : Nat → Nat} {l : List Bond} {ds : List Dcs} {vl vz : Value} (hW : WayOK Tryz.prog 51 l ds (wayX ds)) (hF : Lim w₀ C) (hl : RV w₀ (Mc C) l vl) (hz : RV w₀ (Mc C) ds vz) (hck : checkS l = 0) (hl4 : l.length ≤ 4096) (hm4 : ds.length ≤ 4096) (hO : ∀ i (h : i < ds.length), dcsOK ds[i]) (hA1 : ∀ i (h : i + 1 < ds.length), cmpD ds[i] ds[i + 1] < 0)
    (hw : ∀ x ∈ l, 1 ≤ x.w ∧ x.w ≤ 1048576) (hPy : ∀ x ∈ allW (wayX ds) (splitS l), 0 < x.length) (h12 : (allW (wayX ds) (splitS l)).length ≤ 12) : Calls Tryz.prog 23 #[vl, vz] w₀ (Ret fun v w' => Stp [] w₀ C w' C ∧
      ((∃ k, ∃ hk : k < (splitS l).length, (∀ q (hq : q < k), (wayX ds (splitS l)[q]).2 = 0) ∧ (wayX ds (splitS l)[k]).2 ≠ 0 ∧ v = .tuple #[.slice none 0 0, .int .i64 0, .int .i64 (wayX ds (splitS l)[k]).2]) ∨
       ((∀ q (hq : q < (splitS l).length), (wayX ds (splitS l)[q]).2 = 0) ∧ ∃ zs vp, StS cmpH (allW (wayX ds) (splitS l)) zs ∧ v = .tuple #[vp, .int .i64 (valueB l zs), .int .i64 0] ∧ RV w' (Mc C) zs vp))) := by
 refine c_st F23.c0 13 [vl, vz] Tryz.func23 ?_
 show Run _ _ _ _ [(0, vl), (1, vz)] _ _
 refine run_sq (run_pl [yy 0, yy 1, yy 2] ?_)
 refine yV (kq 4 (.assign (.const (.slice none 0 0)))) (fun _ => val_assign rfl) ?_
 refine yAc 5 (.int .i64 0) ?_
 refine yAc 6 (.int .i64 0) ?_
 refine Sch.nil (run_sq (run_pl [yy 0, yy 1, nn 2, yy 3, yy 4, yy 5, yy 6, yy 7, yy 8] ?_))
 refine yM 7 0 ?_
 refine yM 8 1 ?_
 refine cT (kq 9 (.call { callee := .value (.func 39), args := #[(.tmp 7), (.tmp 8), (.func 51)], argTypes := #[23, 24, 77] })) rfl rfl (ent Tryz.call39 rfl) (solve_ok (gf := 51) (wf := wayX ds) (fun args w => Tryz.call51 args w) hW hF hl hz hck hl4 hm4 hO hA1 hw hPy h12) ?_
 rintro vr w1 ⟨s_1, hout⟩
 obtain ⟨r1, r2, r3, hvr⟩ : ∃ r1 r2 r3, vr = .tuple #[r1, r2, r3] := by
  rcases hout with ⟨k, hk, _, _, e⟩ | ⟨_, zs, vp, _, e, _⟩
  · exact ⟨_, _, _, e⟩
  exact ⟨_, _, _, e⟩
 subst hvr
 refine yE 10 9 0 ?_
 refine yE 11 9 1 ?_
 refine yE 12 9 2 ?_
 refine yA 4 10 ?_
 refine yA 5 11 ?_
 refine yA 6 12 ?_
 refine Sch.nil ?_
 refine run_ret3 (by kernel_rfl) Tryz.func23 Tryz.results23 rfl rfl rfl ?_
 exact ⟨s_1, hout⟩
end
end Go.Proofs.YtdmgmlmlielfbaaGreat
