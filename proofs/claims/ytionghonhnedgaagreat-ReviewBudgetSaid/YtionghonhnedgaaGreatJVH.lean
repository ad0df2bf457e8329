/- Steps through functions of the program. -/
import Derived.Test.YtionghonhnedgaaGreatJVG
import Derived.Test.YtionghonhnedgaaGreatL2
import Derived.Test.YtionghonhnedgaaGreatShelf
set_option linter.unusedVariables false
set_option linter.unusedSimpArgs false
set_option maxRecDepth 100000
set_option maxHeartbeats 4000000
namespace Go.Proofs.YtionghonhnedgaaGreat
open Go.K Go.K.Rep

/-- 'slices.SortFunc' of what was shown. -/
theorem sortS_ok {w : World} {C : Nat → Nat} {j : Nat} {v : Value} {ys : List Shw} (hF : Lim w C) (ho : OwnL w C j 50 v ys) (hd : Dist ys) (hlen : ys.length ≤ 140737488355328) :
    Calls Tryz.prog 98 #[v, .func (.func 45) #[] #[]] w (Ret fun u w' => u = .tuple #[] ∧ ∃ zs, StS cmpS ys zs ∧ Stp [j] w C w' C ∧ OwnL w' C j 50 v zs ∧ Lim w' C) :=
  sort_dist (enc := encS) (cf := cmpS) Go.Proofs.Tryz.sortShown (fun w => Tryz.isAgg50 w) (fun w => Tryz.sizeOf50 w) (fun h M x vs => rep_shw) (fun x => rfl) (by decide)
    (fun x u hu => by simp only [encS, List.mem_cons, List.not_mem_nil, or_false] at hu; rcases hu with rfl | rfl | rfl | rfl | rfl <;> rfl) cmpS_3 (fun i k hi hk hne => hd.ne hi hk hne) (fun args w => Tryz.call45 args w)
    (fun W x y => (compareS_ok (C := fun _ => 0) (fun b hb => absurd rfl hb)).mono (by rintro e w' ⟨u, rfl, rfl, hs⟩; exact ⟨_, rfl, rfl, hs.ext.mono (fun b _ hb => by simp at hb)⟩)) hF ho hlen

namespace F64
noncomputable def c0 := bodyOf Tryz.f64
end F64
/-- 'with'. -/
theorem with_ok {w₀ : World} {C : Nat → Nat} {l m : List Shw} {vl vm : Value} (hF : Lim w₀ C) (hl : RV w₀ (Mc C) l vl) (hm : RV w₀ (Mc C) m vm) (hDi : Dist (l ++ m)) (hlen : l.length + m.length ≤ 100000) : Calls Tryz.prog 64 #[vl, vm] w₀ (Ret fun v w' => ∃ zs, StS cmpS (l ++ m) zs ∧ Stp [] w₀ C w' C ∧ RV w' (Mc C) zs v) := by
 have hF0 := hF
 have hT := Stp.refl [2, 3, 4, 5, 6, 7, 8, 9] w₀ (col1 C)
 replace hF := hF.col1
 replace hl : RV w₀ (Mc (col1 C)) l vl := by rw [Mc_col1]; exact hl
 replace hm : RV w₀ (Mc (col1 C)) m vm := by rw [Mc_col1]; exact hm
 have hfl : [l, m].flatten = l ++ m := by simp
 have hcl : (l ++ m).length = l.length + m.length := List.length_append
 refine calls_start (c := F64.c0) (N := 13) [vl, vm] Tryz.func64 (by kernel_rfl) (by kernel_rfl) (by kernel_rfl) ?_
 show Run _ _ _ _ [(0, vl), (1, vm)] _ _
 refine run_sq ?_
 refine run_pl [yy 0] ?_
 refine yV (kq 4 (.assign (.const (.slice none 0 0)))) (fun _ => val_assign rfl) ?_
 refine Sch.nil ?_
 refine run_sq ?_
 refine run_pl [yy 0, yy 1, nn 2, nn 3, yy 4] ?_
 refine yM 6 0 ?_
 refine yM 7 1 ?_
 refine aS (kq 8 (.buildSlice 136 2 #[(0, (.tmp 6)), (1, (.tmp 7))])) rfl rfl (a_buildSlice (ys := ([l, m] : List (List Shw))) (e := 23) (bytes := 24) hF (by kernel_rfl) rfl (by decide) (by decide) ⟨rfl, ⟨_, rfl, hl⟩, rfl, ⟨_, rfl, hm⟩, trivial⟩) ?_
 rintro v8 w1 ⟨hs, g8, hF⟩
 refine ⟨trivial, ?_⟩
 replace hT := hT.t hs; replace hl := hl.t hs; replace hm := hm.t hs
 refine cS (kq 9 (.call { callee := .value (.func 65), args := #[(.tmp 8)], argTypes := #[136] })) rfl rfl (ent Tryz.call65 rfl) (concatS_ok hF g8 (by rw [hfl]; omega) 3 (by decide)) ?_
 rintro vk w2 ⟨Cb, hs, hF, ho⟩
 refine ⟨trivial, ?_⟩
 replace hT := hT.t hs; replace hl := hl.t hs; replace hm := hm.t hs; replace g8 := g8.t hs
 rw [hfl] at ho
 refine yA 5 9 ?_
 refine Sch.nil ?_
 refine run_sq ?_
 refine run_pl [yy 0, nn 1] ?_
 refine yM 10 5 ?_
 refine cS (kq 11 (.call { callee := .value (.func 98), args := #[(.tmp 10), (.func 45)], argTypes := #[23, 89] })) rfl rfl (ent Tryz.call98 rfl) (sortS_ok hF ho hDi (by omega)) ?_
 rintro vw3 w3 ⟨rfl, zs, hSt, hs, ho, hF⟩
 have hzl := hSt.len
 refine ⟨trivial, ?_⟩
 replace hT := hT.t hs; replace hl := hl.t hs; replace hm := hm.t hs; replace g8 := g8.t hs
 refine Sch.nil ?_
 refine run_sq ?_
 refine run_pl [yy 0, yy 1] ?_
 refine yM 12 5 ?_
 refine yA 4 12 ?_
 refine Sch.nil ?_
 refine run_ret1 (by kernel_rfl) Tryz.func64 Tryz.results64 rfl ?_
 exact ⟨zs, hSt, hT.out1 (by decide), ho.out hT hF0 (Mc_col1 C) (fun b _ => col1_lt C (by decide) b) (by omega)⟩
end Go.Proofs.YtionghonhnedgaaGreat
