/- Steps through functions of the program. -/
import Derived.Test.YtgooehopkmbkfaaJV1
set_option linter.unusedVariables false
set_option linter.unusedSimpArgs false
set_option maxRecDepth 100000
set_option maxHeartbeats 4000000
namespace Go.Proofs.Ytgooehopkmbkfaa
open Go.K Go.K.Rep

namespace F21
noncomputable def c0 := bodyOf Try.f21
noncomputable def c7 := (cl (cl (cr (cl (cr c0)))))
noncomputable def c14 := (cl (cr (cl (cr (cr c0)))))
noncomputable def c23 := (cl (cl (cr (cr (cl c14)))))
noncomputable def o6 := rops (cl (cr c23))
end F21
/-- 'same'. -/
theorem same_ok {w₀ : World} {C : Nat → Nat} {xs ys : List Couple} {px py : Value} (hF : Lim w₀ C) (hx : RV w₀ (Mc C) xs px) (hy : RV w₀ (Mc C) ys py) : Calls Try.prog 21 #[px, py] w₀ (Ret fun v w' => v = .bool (decide (xs = ys)) ∧ Stp [] w₀ C w' C) := by
 have hF0 := hF
 have hT := Stp.refl [2, 3, 4, 5, 6, 7, 8, 9] w₀ (col1 C)
 replace hF := hF.col1
 replace hx : RV w₀ (Mc (col1 C)) xs px := by rw [Mc_col1]; exact hx
 replace hy : RV w₀ (Mc (col1 C)) ys py := by rw [Mc_col1]; exact hy
 refine calls_start (c := F21.c0) (N := 26) [px, py] Try.func21 (by kernel_rfl) (by kernel_rfl) (by kernel_rfl) ?_
 show Run _ _ _ _ [(0, px), (1, py)] _ _
 refine run_sq ?_
 refine run_pl [yy 0] ?_
 refine yAc 4 (.bool false) ?_
 refine Sch.nil ?_
 refine run_sq ?_
 refine run_sq ?_
 refine run_pl [yy 0, yy 1, yy 2, yy 3, yy 4] ?_
 refine yM 6 0 ?_
 refine yS (kq 7 (.call { callee := .builtin .len, args := #[(.tmp 6)], argTypes := #[24] })) rfl rfl (fun w' hS => hx.lenV rfl Try.underlying24 w' ) ?_
 refine yM 8 1 ?_
 refine yS (kq 9 (.call { callee := .builtin .len, args := #[(.tmp 8)], argTypes := #[24] })) rfl rfl (fun w' hS => hy.lenV rfl Try.underlying24 w' ) ?_
 refine yV (kq 10 (.binOp .neq 3 (.tmp 7) (.tmp 9) 3)) (fun _ => val_neq rfl rfl) ?_
 refine Sch.nil ?_
 refine run_i 10 rfl (fun h10 => ?_) (fun h10 => ?_)
 ·
  refine run_sq ?_
  refine run_pl [yy 0] ?_
  refine yAc 4 (.bool false) ?_
  refine Sch.nil ?_
  refine run_ret1 (by kernel_rfl) Try.func21 Try.results21 rfl ?_
  exact ⟨by rw [decide_eq_false (fun e => h10 (by rw [e]))], hT.out1 (by decide)⟩
 ·
  have hlen : xs.length = ys.length := by omega
  refine run_sk ?_
  refine run_sq ?_
  refine run_sq ?_
  refine run_pl [yy 0, yy 1, yy 2] ?_
  refine yM 11 0 ?_
  refine yS (kq 12 (.call { callee := .builtin .len, args := #[(.tmp 11)], argTypes := #[24] })) rfl rfl (fun w' hS => hx.lenV rfl Try.underlying24 w' ) ?_
  refine yV (kq 13 (.move (.const (.int .i64 0)))) (fun _ => val_move rfl) ?_
  refine Sch.nil ?_
  refine run_bk 0 ?_
  
  refine run_lp (ι := Nat × (Nat → Nat)) (I := fun x w => x.1 ≤ xs.length ∧ (∀ q (h1 : q < xs.length) (h2 : q < ys.length), q < x.1 → xs[q] = ys[q]) ∧ Lim w x.2 ∧ Stp [2, 3, 4, 5, 6, 7, 8, 9] w₀ (col1 C) w x.2 ∧ RV w (Mc x.2) xs px ∧ RV w (Mc x.2) ys py) (e := fun x => [(0, px), (1, py), (12, .int .i64 xs.length), (13, .int .i64 x.1)]) (m := fun x => xs.length - x.1) (x₀ := (0, col1 C)) (sr 0 (sr 1 (sr 12 (sr 13 (sub_nil _))))) ?_ ?_
  · exact ⟨Nat.zero_le _, (fun q _ _ hq => by simp only at hq; omega), hF, hT, hx, hy⟩
  intro ⟨i, C1⟩ w1 hI next
  obtain ⟨hi, h0, hF, hT, hx, hy⟩ := hI
  try simp only at hi h0 hF hT hx hy
  have next1 := next
  clear next
  show Run _ _ _ _ [(0, px), (1, py), (12, .int .i64 xs.length), (13, .int .i64 i)] _ _
  have hle := hx.le
  refine run_sq ?_
  refine run_pl [yy 0] ?_
  refine yV (kq 14 (.binOp .lss 3 (.tmp 13) (.tmp 12) 3)) (fun _ => val_lss rfl rfl) ?_
  refine Sch.nil ?_
  refine run_sq ?_
  refine run_i 14 rfl (fun h14 => ?_) (fun h14 => ?_)
  ·
   have hil : i < xs.length := by omega
   have hil2 : i < ys.length := by omega
   refine run_sk ?_
   refine run_sq ?_
   refine run_bk 1 ?_
   refine run_sq ?_
   refine run_pl [yy 0, yy 1] ?_
   refine yM 15 13 ?_
   refine yA 5 15 ?_
   refine Sch.nil ?_
   refine run_sq ?_
   refine run_draw (id := 6) (ops := F21.o6) [] (C1) [yy 0, yy 1, yy 2, yy 3, yy 4, yy 5, yy 6, yy 7, yy 8] Try_mixed (by kernel_rfl) (by kernel_rfl) (by kernel_rfl) ?_
   intro w2 hs
   replace hF := hF.st hs
   replace hT := hT.t hs; replace hx := hx.t hs; replace hy := hy.t hs
   refine yM 16 0 ?_
   refine yM 17 5 ?_
   refine iS (e := 53) (kq 18 (.indexAddr 24 (.tmp 16) (.tmp 17))) rfl rfl hx rfl (by kernel_rfl) rfl (by omega) (by omega) ?_
   intro b18 o18 h18
   try simp only [Int.toNat_natCast] at h18
   refine lSA (kq 19 (.load 53 (.tmp 18))) rfl rfl (fun w' hS => h18.sy hS) h18 (by kernel_rfl) (by kernel_rfl) rfl rfl ?_
   intro v19 g19
   obtain rfl := rv_couple.1 g19
   refine yM 20 1 ?_
   refine yM 21 5 ?_
   refine iS (e := 53) (kq 22 (.indexAddr 24 (.tmp 20) (.tmp 21))) rfl rfl hy rfl (by kernel_rfl) rfl (by omega) (by omega) ?_
   intro b22 o22 h22
   try simp only [Int.toNat_natCast] at h22
   refine lSA (kq 23 (.load 53 (.tmp 22))) rfl rfl (fun w' hS => h22.sy hS) h22 (by kernel_rfl) (by kernel_rfl) rfl rfl ?_
   intro v23 g23
   obtain rfl := rv_couple.1 g23
   refine yV (kq 24 (.binOp .neq 53 (.tmp 19) (.tmp 23) 53)) (fun _ => val_neC (a := (xs[i]'hil)) (b := (ys[i]'hil2)) Try.underlying53 (by decide) (by decide) (by kernel_rfl) Try.underlying3 rfl rfl) ?_
   refine Sch.nil ?_
   refine run_i 24 rfl (fun h24 => ?_) (fun h24 => ?_)
   ·
    refine run_sq ?_
    refine run_pl [yy 0] ?_
    refine yAc 4 (.bool false) ?_
    refine Sch.nil ?_
    refine run_ret1 (by kernel_rfl) Try.func21 Try.results21 rfl ?_
    exact ⟨by rw [decide_eq_false (fun e => h24 (by subst e; rfl))], hT.out1 (by decide)⟩
   ·
    refine run_sk ?_
    refine run_inBlock ?_
    refine run_pl [yy 0, yy 1] ?_
    refine yV (kq 25 (.binOp .add 3 (.tmp 13) (.const (.int .i64 1)) 3)) (fun _ => val_addi rfl rfl (by omega) (by omega)) ?_
    refine yM 13 25 ?_
    refine Sch.nil ?_
    refine kp (sub_cons 0 rfl rfl (sub_cons 1 rfl rfl (sub_cons 12 rfl rfl (sub_cons 13 rfl (eq_int (by simp)) (sub_nil _))))) (next1 (i + 1, C1) _ ⟨(by first | omega | (simp only; omega)), (fun q h1 h2 hq => by
        simp only at hq
        by_cases e : q = i
        · subst e; exact Classical.not_not.1 h24
        · exact h0 q h1 h2 (by omega)), hF, hT, hx, hy⟩ (by first | omega | (simp only; omega)))
  ·
   have hil : i = xs.length := by omega
   refine run_ex 0 ?_
   refine run_sq ?_
   refine run_pl [yy 0] ?_
   refine yAc 4 (.bool true) ?_
   refine Sch.nil ?_
   refine run_ret1 (by kernel_rfl) Try.func21 Try.results21 rfl ?_
   exact ⟨by rw [decide_eq_true (List.ext_getElem hlen (fun q h1 h2 => h0 q h1 h2 (by omega)))], hT.out1 (by decide)⟩
end Go.Proofs.Ytgooehopkmbkfaa
