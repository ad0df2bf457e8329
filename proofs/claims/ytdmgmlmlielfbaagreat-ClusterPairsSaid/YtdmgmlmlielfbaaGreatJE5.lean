/- Steps through functions of the program. -/
import Derived.Test.YtdmgmlmlielfbaaGreatJE4
import Derived.Test.YtdmgmlmlielfbaaGreatL2
set_option linter.unusedVariables false
set_option linter.unusedSimpArgs false
set_option maxRecDepth 100000
set_option maxHeartbeats 4000000
namespace Go.Proofs.YtdmgmlmlielfbaaGreat
open Go.K Go.K.Rep
noncomputable section
namespace F63G
def c0 := bodyOf Tryz.f63
end F63G
theorem indexL_ok {w₀ : World} {C : Nat → Nat} {l : List (List Couple)} {vl : Value} {p : List Couple → Bool} {nf : Nat} {caps : Array Value} (hcall : ∀ args w, (callFunc nf args).run Tryz.prog w = .ok (.enter nf args) w) (hp : ∀ w1, Stp [] w₀ C w1 C → ∀ x ∈ l, ∀ vx, RV w1 (Mc C) x vx → Calls Tryz.prog nf ([vx] ++ caps.toList).toArray w1 (Ret fun v w' => v = .bool (p x) ∧ Stp [] w1 C w' C)) (hF : Lim w₀ C) (hl : RV w₀ (Mc C) l vl) : Calls Tryz.prog 63 #[vl, .func (.func nf) #[] caps] w₀ (Ret fun v w' => v = .int .i64 (idxOf p l) ∧ Stp [] w₀ C w' C) := by
 have hT := Stp.refl [] w₀ C
 refine c_st F63G.c0 19 [vl, .func (.func nf) #[] caps] Tryz.func63 ?_
 show Run _ _ _ _ [(0, vl), (1, .func (.func nf) #[] caps)] _ _
 refine run_sq (run_pl [yy 0] ?_)
 refine yAc 4 (.int .i64 0) ?_
 refine Sch.nil (run_sq (run_sq (run_pl [yy 0, yy 1, yy 2] ?_)))
 refine yM 6 0 ?_
 refine yS (kq 7 (.call { callee := .builtin .len, args := #[(.tmp 6)], argTypes := #[25] })) rfl rfl (fun w' hS => hl.lenV rfl Tryz.underlying25 w' ) ?_
 refine yC 8 (.int .i64 0) ?_
 refine Sch.nil (run_bk 0 ?_)
 refine run_lp (ι := Nat) (I := fun x w => x ≤ l.length ∧ (∀ i (hi : i < x) (hl : i < l.length), p l[i] = false) ∧ Lim w C ∧ Stp [] w₀ C w C ∧ RV w (Mc C) l vl) (e := fun x => [(0, vl), (1, .func (.func nf) #[] caps), (7, .int .i64 l.length), (8, .int .i64 x)]) (m := fun x => l.length - x) (x₀ := 0) (sr 0 (sr 1 (sr 7 (sr 8 (sub_nil _))))) ?_ ?_
 · exact ⟨Nat.zero_le _, fun i hi _ => by first | omega | (simp only at hi; omega), hF, hT, hl⟩
 intro k w1 hI next1
 obtain ⟨hk, h0, hF, hT, hl⟩ := hI
 try simp only at hk h0 hF hT hl
 show Run _ _ _ _ [(0, vl), (1, .func (.func nf) #[] caps), (7, .int .i64 l.length), (8, .int .i64 k)] _ _
 have hle := hl.le
 refine run_sq (run_pl [yy 0] ?_)
 refine yL 9 3 8 7 ?_
 refine Sch.nil (run_sq ?_)
 refine run_i 9 rfl (fun h9 => ?_) (fun h9 => ?_)
 ·
  have hkl : k < l.length := by omega
  refine run_sk (run_sq (run_bk 1 (run_sq (run_pl [yy 0, yy 1] ?_))))
  refine yM 10 8 ?_
  refine yA 5 10 ?_
  refine Sch.nil (run_sq (run_pl [yy 0, yy 1, yy 2, yy 3, nn 4, nn 5] ?_))
  refine yM 11 1 ?_
  refine yM 12 0 ?_
  refine yM 13 5 ?_
  refine iR 53 14 25 12 13 hl rfl (h := ?_)
  intro b14 o14 h14
  try simp only [Int.toNat_natCast] at h14
  refine lN (kq 15 (.load 53 (.tmp 14))) rfl rfl trivial h14 (by kernel_rfl) rfl rfl ?_
  intro v15 g15
  refine cT (kq 16 (.call { callee := .value (.tmp 11), args := #[(.tmp 15)], argTypes := #[53] })) rfl rfl (enters_func hcall rfl rfl) (hp _ hT (l[k]'hkl) (List.getElem_mem hkl) _ g15) ?_
  rintro vw2 w2 ⟨rfl, s_1⟩
  refine Sch.nil ?_
  refine run_c 16 rfl (fun h16 => ?_) (fun h16 => ?_)
  ·
   refine run_sq (run_pl [yy 0, yy 1] ?_)
   refine yM 17 5 ?_
   refine yA 4 17 ?_
   refine Sch.nil ?_
   refine rt1 Tryz.func63 Tryz.results63 ?_
   replace hT := hT.t s_1
   exact ⟨by rw [idxOf_at hkl (fun i hi => h0 i hi (by omega)) h16], hT⟩
  refine run_sk (run_inBlock (run_pl [yy 0, yy 1] ?_))
  refine yI 18 3 8 1 ?_
  refine yM 8 18 ?_
  refine Sch.nil ?_
  replace hF := hF.st s_1; replace hT := hT.t s_1; replace hl := hl.t s_1
  refine kp (sub_cons 0 rfl rfl (sub_cons 1 rfl rfl (sub_cons 7 rfl rfl (sub_cons 8 rfl (eq_int (by simp)) (sub_nil _))))) (next1 (k + 1) _ ⟨(by first | omega | (simp only; omega)), (fun i hi hl => by
       by_cases e : i = k
       · subst e; exact h16
       · exact h0 i (by first | omega | (simp only at hi; omega)) hl), hF, hT, hl⟩ (by first | omega | (simp only; omega)))
 have hkl : k = l.length := by omega
 refine run_ex 0 ?_
 refine run_sq (run_pl [yy 0] ?_)
 refine yV (kq 4 (.assign (.const (.int .i64 (-1))))) (fun _ => val_assign rfl) ?_
 refine Sch.nil ?_
 refine rt1 Tryz.func63 Tryz.results63 ?_
 exact ⟨by rw [idxOf_none (fun i hi => h0 i (by omega) hi)], hT⟩
namespace F59
def c0 := bodyOf Tryz.f59
end F59
theorem containsL_ok {w₀ : World} {C : Nat → Nat} {l : List (List Couple)} {vl : Value} {p : List Couple → Bool} {nf : Nat} {caps : Array Value} (hcall : ∀ args w, (callFunc nf args).run Tryz.prog w = .ok (.enter nf args) w) (hp : ∀ w1, Stp [] w₀ C w1 C → ∀ x ∈ l, ∀ vx, RV w1 (Mc C) x vx → Calls Tryz.prog nf ([vx] ++ caps.toList).toArray w1 (Ret fun v w' => v = .bool (p x) ∧ Stp [] w1 C w' C)) (hF : Lim w₀ C) (hl : RV w₀ (Mc C) l vl) : Calls Tryz.prog 59 #[vl, .func (.func nf) #[] caps] w₀ (Ret fun v w' => v = .bool (l.any p) ∧ Stp [] w₀ C w' C) := by
 have hT := Stp.refl [] w₀ C
 refine c_st F59.c0 9 [vl, .func (.func nf) #[] caps] Tryz.func59 ?_
 show Run _ _ _ _ [(0, vl), (1, .func (.func nf) #[] caps)] _ _
 refine run_sq (run_pl [yy 0] ?_)
 refine yAc 4 (.bool false) ?_
 refine Sch.nil (run_sq (run_pl [yy 0, yy 1, nn 2, yy 3, yy 4] ?_))
 refine yM 5 0 ?_
 refine yM 6 1 ?_
 refine cG 7 63 [5, 6] [25, 86] Tryz.call63 rfl (indexL_ok hcall hp hF hl) ?_
 rintro vw1 w1 ⟨rfl, s_1⟩
 refine yV (kq 8 (.binOp .geq 3 (.tmp 7) (.const (.int .i64 0)) 3)) (fun _ => val_geq rfl rfl) ?_
 refine yA 4 8 ?_
 refine Sch.nil ?_
 refine rt1 Tryz.func59 Tryz.results59 ?_
 replace hT := hT.t s_1
 exact ⟨by rw [idxOf_ge], hT⟩
end
end Go.Proofs.YtdmgmlmlielfbaaGreat
