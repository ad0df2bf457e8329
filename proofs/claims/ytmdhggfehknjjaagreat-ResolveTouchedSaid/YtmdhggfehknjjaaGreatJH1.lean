/- Steps through functions of the program. -/
import Derived.Test.YtmdhggfehknjjaaGreatJG4
import Derived.Test.YtmdhggfehknjjaaGreatL2
set_option linter.unusedVariables false
set_option linter.unusedSimpArgs false
set_option maxRecDepth 100000
set_option maxHeartbeats 4000000
namespace Go.Proofs.YtmdhggfehknjjaaGreat
open Go.K Go.K.Rep
noncomputable section
namespace F85
def c0 := bodyOf Tryz.f85
def c14 := (cl (cr (cl (cr (cr c0)))))
def c23 := (cl (cl (cr (cr (cl c14)))))
def o6 := rops (cl (cr c23))
end F85
theorem equalB_ok {w₀ : World} {C : Nat → Nat} {xs ys : List Bond} {va vb : Value} (hF : Lim w₀ C) (ha : RV w₀ (Mc C) xs va) (hb : RV w₀ (Mc C) ys vb) : Calls Tryz.prog 85 #[va, vb] w₀ (Ret fun v w' => v = .bool (decide (xs = ys)) ∧ Stp [] w₀ C w' C) := by
 have hF0 := hF
 have hT := Stp.refl [2, 3, 4, 5, 6, 7, 8, 9] w₀ (col1 C)
 replace hF := hF.col1
 replace ha := ha.c1
 replace hb := hb.c1
 refine c_st F85.c0 26 [va, vb] Tryz.func85 ?_
 show Run _ _ _ _ [(0, va), (1, vb)] _ _
 refine run_sq (run_pl [yy 0] ?_)
 refine yAc 4 (.bool false) ?_
 refine Sch.nil (run_sq (run_sq (run_pl [yy 0, yy 1, yy 2, yy 3, yy 4] ?_)))
 refine yM 6 0 ?_
 refine yS (kq 7 (.call { callee := .builtin .len, args := #[(.tmp 6)], argTypes := #[23] })) rfl rfl (fun w' hS => ha.lenV rfl Tryz.underlying23 w' ) ?_
 refine yM 8 1 ?_
 refine yS (kq 9 (.call { callee := .builtin .len, args := #[(.tmp 8)], argTypes := #[23] })) rfl rfl (fun w' hS => hb.lenV rfl Tryz.underlying23 w' ) ?_
 refine yV (kq 10 (.binOp .neq 3 (.tmp 7) (.tmp 9) 3)) (fun _ => val_neq rfl rfl) ?_
 refine Sch.nil ?_
 refine run_i 10 rfl (fun h10 => ?_) (fun h10 => ?_)
 ·
  have hne : xs ≠ ys := fun e => by rw [e] at h10; exact h10 rfl
  refine run_sq (run_pl [yy 0] ?_)
  refine yAc 4 (.bool false) ?_
  refine Sch.nil ?_
  refine rt1 Tryz.func85 Tryz.results85 ?_
  exact ⟨by rw [decide_eq_false hne], hT.out1 (by decide)⟩
 have hll : xs.length = ys.length := by omega
 refine run_sk (run_sq (run_sq (run_pl [yy 0, yy 1, yy 2] ?_)))
 refine yM 11 0 ?_
 refine yS (kq 12 (.call { callee := .builtin .len, args := #[(.tmp 11)], argTypes := #[23] })) rfl rfl (fun w' hS => ha.lenV rfl Tryz.underlying23 w' ) ?_
 refine yC 13 (.int .i64 0) ?_
 refine Sch.nil (run_bk 0 ?_)
 refine run_lp (ι := Nat × (Nat → Nat)) (I := fun x w => x.1 ≤ xs.length ∧ (∀ i (hi : i < x.1) (h1 : i < xs.length) (h2 : i < ys.length), xs[i] = ys[i]) ∧ Lim w x.2 ∧ Stp [2, 3, 4, 5, 6, 7, 8, 9] w₀ (col1 C) w x.2 ∧ RV w (Mc x.2) xs va ∧ RV w (Mc x.2) ys vb) (e := fun x => [(0, va), (1, vb), (12, .int .i64 xs.length), (13, .int .i64 x.1)]) (m := fun x => xs.length - x.1) (x₀ := (0, col1 C)) (sr 0 (sr 1 (sr 12 (sr 13 (sub_nil _))))) ?_ ?_
 · exact ⟨Nat.zero_le _, fun i hi => by simp only at hi; omega, hF, hT, ha, hb⟩
 intro ⟨k, C1⟩ w1 hI next1
 obtain ⟨hk, h0, hF, hT, ha, hb⟩ := hI
 try simp only at hk h0 hF hT ha hb
 show Run _ _ _ _ [(0, va), (1, vb), (12, .int .i64 xs.length), (13, .int .i64 k)] _ _
 have hle := ha.le
 refine run_sq (run_pl [yy 0] ?_)
 refine yL 14 3 13 12 ?_
 refine Sch.nil (run_sq ?_)
 refine run_i 14 rfl (fun h14 => ?_) (fun h14 => ?_)
 ·
  have hkl : k < xs.length := by omega
  have hkl2 : k < ys.length := by omega
  refine run_sk (run_sq (run_bk 1 (run_sq (run_pl [yy 0, yy 1] ?_))))
  refine yM 15 13 ?_
  refine yA 5 15 ?_
  refine Sch.nil (run_sq ?_)
  refine run_draw (id := 6) (ops := F85.o6) [] (C1) [yy 0, yy 1, yy 2, yy 3, yy 4, yy 5, yy 6, yy 7, yy 8] Tryz_mixed (by kernel_rfl) (by kernel_rfl) (by kernel_rfl) ?_
  intro w2 s_1
  refine yM 16 0 ?_
  refine yM 17 5 ?_
  replace ha := ha.t s_1
  refine iR 58 18 23 16 17 ha rfl (h := ?_)
  intro b18 o18 h18
  try simp only [Int.toNat_natCast] at h18
  refine lSA (kq 19 (.load 58 (.tmp 18))) rfl rfl (fun w' hS => h18.sy hS) h18 (by kernel_rfl) (by kernel_rfl) rfl rfl ?_
  intro v19 g19
  refine yM 20 1 ?_
  refine yM 21 5 ?_
  replace hb := hb.t s_1
  refine iR 58 22 23 20 21 hb rfl (h := ?_)
  intro b22 o22 h22
  try simp only [Int.toNat_natCast] at h22
  refine lSA (kq 23 (.load 58 (.tmp 22))) rfl rfl (fun w' hS => h22.sy hS) h22 (by kernel_rfl) (by kernel_rfl) rfl rfl ?_
  intro v23 g23
  obtain rfl := rv_bond.1 g19
  obtain rfl := rv_bond.1 g23
  refine yV (kq 24 (.binOp .neq 58 (.tmp 19) (.tmp 23) 58)) (fun _ => val_neBond (a := _) (b := _) Tryz.underlying58 (by decide) (by decide) (by decide) (by kernel_rfl) (eqOK_couple Tryz.underlying55 (by decide) (by decide) (by kernel_rfl) Tryz.underlying3) Tryz.underlying3 (by kernel_rfl) (by kernel_rfl) (by kernel_rfl) rfl rfl) ?_
  refine Sch.nil ?_
  refine run_i 24 rfl (fun h24 => ?_) (fun h24 => ?_)
  ·
   have hne : xs ≠ ys := fun e => h24 (by subst e; rfl)
   refine run_sq (run_pl [yy 0] ?_)
   refine yAc 4 (.bool false) ?_
   refine Sch.nil ?_
   refine rt1 Tryz.func85 Tryz.results85 ?_
   replace hT := hT.t s_1
   exact ⟨by rw [decide_eq_false hne], hT.out1 (by decide)⟩
  have hek : xs[k] = ys[k] := Classical.not_not.1 h24
  refine run_sk (run_inBlock (run_pl [yy 0, yy 1] ?_))
  refine yI 25 3 13 1 ?_
  refine yM 13 25 ?_
  refine Sch.nil ?_
  replace hF := hF.st s_1; replace hT := hT.t s_1
  refine kp (sub_cons 0 rfl rfl (sub_cons 1 rfl rfl (sub_cons 12 rfl rfl (sub_cons 13 rfl (eq_int (by simp)) (sub_nil _))))) (next1 (k + 1, C1) _ ⟨(by first | omega | (simp only; omega)), (fun i hi h1 h2 => by
        simp only at hi
        by_cases e : i = k
        · subst e; exact hek
        · exact h0 i (by omega) h1 h2), hF, hT, ha, hb⟩ (by first | omega | (simp only; omega)))
 have hkl : k = xs.length := by omega
 have heq : xs = ys := list_eq_all hll (fun i h1 h2 => h0 i (by omega) h1 h2)
 refine run_ex 0 ?_
 refine run_sq (run_pl [yy 0] ?_)
 refine yAc 4 (.bool true) ?_
 refine Sch.nil ?_
 refine rt1 Tryz.func85 Tryz.results85 ?_
 exact ⟨by rw [decide_eq_true heq], hT.out1 (by decide)⟩
namespace F87
def c0 := bodyOf Tryz.f87
def c14 := (cl (cr (cl (cr (cr c0)))))
def c23 := (cl (cl (cr (cr (cl c14)))))
def o6 := rops (cl (cr c23))
end F87
theorem equalCC_ok {w₀ : World} {C : Nat → Nat} {xs ys : List CC} {va vb : Value} (hF : Lim w₀ C) (ha : RV w₀ (Mc C) xs va) (hb : RV w₀ (Mc C) ys vb) : Calls Tryz.prog 87 #[va, vb] w₀ (Ret fun v w' => v = .bool (decide (xs = ys)) ∧ Stp [] w₀ C w' C) := by
 have hF0 := hF
 have hT := Stp.refl [2, 3, 4, 5, 6, 7, 8, 9] w₀ (col1 C)
 replace hF := hF.col1
 replace ha := ha.c1
 replace hb := hb.c1
 refine c_st F87.c0 26 [va, vb] Tryz.func87 ?_
 show Run _ _ _ _ [(0, va), (1, vb)] _ _
 refine run_sq (run_pl [yy 0] ?_)
 refine yAc 4 (.bool false) ?_
 refine Sch.nil (run_sq (run_sq (run_pl [yy 0, yy 1, yy 2, yy 3, yy 4] ?_)))
 refine yM 6 0 ?_
 refine yS (kq 7 (.call { callee := .builtin .len, args := #[(.tmp 6)], argTypes := #[136] })) rfl rfl (fun w' hS => ha.lenV rfl Tryz.underlying136 w' ) ?_
 refine yM 8 1 ?_
 refine yS (kq 9 (.call { callee := .builtin .len, args := #[(.tmp 8)], argTypes := #[136] })) rfl rfl (fun w' hS => hb.lenV rfl Tryz.underlying136 w' ) ?_
 refine yV (kq 10 (.binOp .neq 3 (.tmp 7) (.tmp 9) 3)) (fun _ => val_neq rfl rfl) ?_
 refine Sch.nil ?_
 refine run_i 10 rfl (fun h10 => ?_) (fun h10 => ?_)
 ·
  have hne : xs ≠ ys := fun e => by rw [e] at h10; exact h10 rfl
  refine run_sq (run_pl [yy 0] ?_)
  refine yAc 4 (.bool false) ?_
  refine Sch.nil ?_
  refine rt1 Tryz.func87 Tryz.results87 ?_
  exact ⟨by rw [decide_eq_false hne], hT.out1 (by decide)⟩
 have hll : xs.length = ys.length := by omega
 refine run_sk (run_sq (run_sq (run_pl [yy 0, yy 1, yy 2] ?_)))
 refine yM 11 0 ?_
 refine yS (kq 12 (.call { callee := .builtin .len, args := #[(.tmp 11)], argTypes := #[136] })) rfl rfl (fun w' hS => ha.lenV rfl Tryz.underlying136 w' ) ?_
 refine yC 13 (.int .i64 0) ?_
 refine Sch.nil (run_bk 0 ?_)
 refine run_lp (ι := Nat × (Nat → Nat)) (I := fun x w => x.1 ≤ xs.length ∧ (∀ i (hi : i < x.1) (h1 : i < xs.length) (h2 : i < ys.length), xs[i] = ys[i]) ∧ Lim w x.2 ∧ Stp [2, 3, 4, 5, 6, 7, 8, 9] w₀ (col1 C) w x.2 ∧ RV w (Mc x.2) xs va ∧ RV w (Mc x.2) ys vb) (e := fun x => [(0, va), (1, vb), (12, .int .i64 xs.length), (13, .int .i64 x.1)]) (m := fun x => xs.length - x.1) (x₀ := (0, col1 C)) (sr 0 (sr 1 (sr 12 (sr 13 (sub_nil _))))) ?_ ?_
 · exact ⟨Nat.zero_le _, fun i hi => by simp only at hi; omega, hF, hT, ha, hb⟩
 intro ⟨k, C1⟩ w1 hI next1
 obtain ⟨hk, h0, hF, hT, ha, hb⟩ := hI
 try simp only at hk h0 hF hT ha hb
 show Run _ _ _ _ [(0, va), (1, vb), (12, .int .i64 xs.length), (13, .int .i64 k)] _ _
 have hle := ha.le
 refine run_sq (run_pl [yy 0] ?_)
 refine yL 14 3 13 12 ?_
 refine Sch.nil (run_sq ?_)
 refine run_i 14 rfl (fun h14 => ?_) (fun h14 => ?_)
 ·
  have hkl : k < xs.length := by omega
  have hkl2 : k < ys.length := by omega
  refine run_sk (run_sq (run_bk 1 (run_sq (run_pl [yy 0, yy 1] ?_))))
  refine yM 15 13 ?_
  refine yA 5 15 ?_
  refine Sch.nil (run_sq ?_)
  refine run_draw (id := 6) (ops := F87.o6) [] (C1) [yy 0, yy 1, yy 2, yy 3, yy 4, yy 5, yy 6, yy 7, yy 8] Tryz_mixed (by kernel_rfl) (by kernel_rfl) (by kernel_rfl) ?_
  intro w2 s_1
  refine yM 16 0 ?_
  refine yM 17 5 ?_
  replace ha := ha.t s_1
  refine iR 138 18 136 16 17 ha rfl (h := ?_)
  intro b18 o18 h18
  try simp only [Int.toNat_natCast] at h18
  refine lSA (kq 19 (.load 138 (.tmp 18))) rfl rfl (fun w' hS => h18.sy hS) h18 (by kernel_rfl) (by kernel_rfl) rfl rfl ?_
  intro v19 g19
  refine yM 20 1 ?_
  refine yM 21 5 ?_
  replace hb := hb.t s_1
  refine iR 138 22 136 20 21 hb rfl (h := ?_)
  intro b22 o22 h22
  try simp only [Int.toNat_natCast] at h22
  refine lSA (kq 23 (.load 138 (.tmp 22))) rfl rfl (fun w' hS => h22.sy hS) h22 (by kernel_rfl) (by kernel_rfl) rfl rfl ?_
  intro v23 g23
  obtain rfl := rv_cc.1 g19
  obtain rfl := rv_cc.1 g23
  refine yV (kq 24 (.binOp .neq 138 (.tmp 19) (.tmp 23) 138)) (fun _ => val_neCC (a := _) (b := _) (eqOK_pair Tryz.underlying138 (by decide) (by decide) (by kernel_rfl) Tryz.underlying55 (by decide) (by decide) (by kernel_rfl) Tryz.underlying3 (by kernel_rfl) (by kernel_rfl)) (by kernel_rfl) rfl rfl) ?_
  refine Sch.nil ?_
  refine run_i 24 rfl (fun h24 => ?_) (fun h24 => ?_)
  ·
   have hne : xs ≠ ys := fun e => h24 (by subst e; rfl)
   refine run_sq (run_pl [yy 0] ?_)
   refine yAc 4 (.bool false) ?_
   refine Sch.nil ?_
   refine rt1 Tryz.func87 Tryz.results87 ?_
   replace hT := hT.t s_1
   exact ⟨by rw [decide_eq_false hne], hT.out1 (by decide)⟩
  have hek : xs[k] = ys[k] := Classical.not_not.1 h24
  refine run_sk (run_inBlock (run_pl [yy 0, yy 1] ?_))
  refine yI 25 3 13 1 ?_
  refine yM 13 25 ?_
  refine Sch.nil ?_
  replace hF := hF.st s_1; replace hT := hT.t s_1
  refine kp (sub_cons 0 rfl rfl (sub_cons 1 rfl rfl (sub_cons 12 rfl rfl (sub_cons 13 rfl (eq_int (by simp)) (sub_nil _))))) (next1 (k + 1, C1) _ ⟨(by first | omega | (simp only; omega)), (fun i hi h1 h2 => by
        simp only at hi
        by_cases e : i = k
        · subst e; exact hek
        · exact h0 i (by omega) h1 h2), hF, hT, ha, hb⟩ (by first | omega | (simp only; omega)))
 have hkl : k = xs.length := by omega
 have heq : xs = ys := list_eq_all hll (fun i h1 h2 => h0 i (by omega) h1 h2)
 refine run_ex 0 ?_
 refine run_sq (run_pl [yy 0] ?_)
 refine yAc 4 (.bool true) ?_
 refine Sch.nil ?_
 refine rt1 Tryz.func87 Tryz.results87 ?_
 exact ⟨by rw [decide_eq_true heq], hT.out1 (by decide)⟩
namespace X42
def c0 := bodyOf Tryz.f42
end X42
theorem copyB_ok0 {w₀ : World} {C : Nat → Nat} {c0 : Nat} (hF : Lim w₀ C) (hw : RV w₀ (Mc C) ([] : List Bond) (.slice none 0 c0)) : Calls Tryz.prog 42 #[.slice none 0 c0] w₀ (Ret fun v w' => Stp [] w₀ C w' C ∧ RV w' (Mc C) ([] : List Bond) v) := by
 have hF0 := hF
 have hT := Stp.refl [2, 3, 4, 5, 6, 7, 8, 9] w₀ (col1 C)
 replace hF := hF.col1
 replace hw : RV w₀ (Mc (col1 C)) ([] : List Bond) (.slice none 0 c0) := by rw [Mc_col1]; exact hw
 refine c_st X42.c0 8 [.slice none 0 c0] Tryz.func42 ?_
 show Run _ _ _ _ [(0, .slice none 0 c0)] _ _
 refine run_sq (run_pl [yy 0] ?_)
 refine yV (kq 2 (.assign (.const (.slice none 0 0)))) (fun _ => val_assign rfl) ?_
 refine Sch.nil (run_sq (run_sq (run_pl [yy 0, yy 1] ?_)))
 refine yM 3 0 ?_
 refine yV (kq 4 (.binOp .eql 23 (.tmp 3) (.const (.slice none 0 0)) 23)) (fun _ => val_eqNilN rfl Tryz.underlying23) ?_
 refine Sch.nil (run_cT 4 (run_sq (run_pl [yy 0] ?_)))
 refine yV (kq 2 (.assign (.const (.slice none 0 0)))) (fun _ => val_assign rfl) ?_
 refine Sch.nil ?_
 refine rt1 Tryz.func42 Tryz.results42 ?_
 exact ⟨hT.out1 (by decide), rv_nil⟩
theorem copyB_ok1 {w₀ : World} {C : Nat → Nat} {px : Value} (hF : Lim w₀ C) (hw : RV w₀ (Mc C) ([] : List Bond) px) {b0 : Addr} {c0 : Nat} (he0 : px = .slice (some b0) 0 c0) : Calls Tryz.prog 42 #[px] w₀ (Ret fun v w' => Stp [] w₀ C w' C ∧ RV w' (Mc C) ([] : List Bond) v) := by
 have hF0 := hF
 have hT := Stp.refl [2, 3, 4, 5, 6, 7, 8, 9] w₀ (col1 C)
 replace hF := hF.col1
 replace hw : RV w₀ (Mc (col1 C)) ([] : List Bond) px := by rw [Mc_col1]; exact hw
 refine c_st X42.c0 8 [px] Tryz.func42 ?_
 show Run _ _ _ _ [(0, px)] _ _
 refine run_sq (run_pl [yy 0] ?_)
 refine yV (kq 2 (.assign (.const (.slice none 0 0)))) (fun _ => val_assign rfl) ?_
 refine Sch.nil (run_sq (run_sq (run_pl [yy 0, yy 1] ?_)))
 refine yM 3 0 ?_
 refine yV (kq 4 (.binOp .eql 23 (.tmp 3) (.const (.slice none 0 0)) 23)) (fun _ => val_eqNilX ((show _ = some px from rfl).trans (congrArg some he0)) Tryz.underlying23) ?_
 refine Sch.nil (run_cF 4 (run_sk (run_sq (run_pl [nn 0, yy 1, nn 2, yy 3] ?_))))
 refine aT (kq 5 (.buildSlice 23 0 #[])) rfl rfl (a_buildEmptyX (n := 5) (e := 58) (bytes := 40) hF (by kernel_rfl)) ?_
 rintro _ w1 ⟨⟨a5, rfl⟩, s_1, hF⟩
 refine yM 6 0 ?_
 replace hw := hw.t s_1
 refine aT (kq 7 (.call { callee := .builtin .append, args := #[(.tmp 5), (.tmp 6)], argTypes := #[23, 23] })) rfl rfl (a_appendE (α := Bond) (C := col1 C) (e := 58) (bytes := 40) rfl rfl (by kernel_rfl) hw) ?_
 rintro v7 w2 ⟨rfl, s_2⟩
 refine yA 2 7 ?_
 refine Sch.nil ?_
 refine rt1 Tryz.func42 Tryz.results42 ?_
 replace hT := (hT.t s_1).t s_2
 exact ⟨hT.out1 (by decide), rv_empX⟩
theorem copyB_ok2 {w₀ : World} {C : Nat → Nat} {xs : List Bond} {px : Value} (hF : Lim w₀ C) (hw : RV w₀ (Mc C) xs px) (hne : xs ≠ []) (hlen : xs.length ≤ 1000000) : Calls Tryz.prog 42 #[px] w₀ (Ret fun v w' => Stp [] w₀ C w' C ∧ RV w' (Mc C) xs v) := by
 have hF0 := hF
 have hT := Stp.refl [2, 3, 4, 5, 6, 7, 8, 9] w₀ (col1 C)
 replace hF := hF.col1
 replace hw := hw.c1
 obtain ⟨a0, c0, he0, hcc, _, hs0⟩ := rv_list.1 hw
 obtain ⟨b0, rfl⟩ : ∃ b, a0 = some b := by
   rcases hs0 with h | ⟨b, o, rfl, _⟩
   · exact absurd h hne
   exact ⟨_, rfl⟩
 clear hs0
 refine c_st X42.c0 8 [px] Tryz.func42 ?_
 show Run _ _ _ _ [(0, px)] _ _
 refine run_sq (run_pl [yy 0] ?_)
 refine yV (kq 2 (.assign (.const (.slice none 0 0)))) (fun _ => val_assign rfl) ?_
 refine Sch.nil (run_sq (run_sq (run_pl [yy 0, yy 1] ?_)))
 refine yM 3 0 ?_
 refine yV (kq 4 (.binOp .eql 23 (.tmp 3) (.const (.slice none 0 0)) 23)) (fun _ => val_eqNilX ((show _ = some px from rfl).trans (congrArg some he0)) Tryz.underlying23) ?_
 refine Sch.nil (run_cF 4 (run_sk (run_sq (run_pl [nn 0, yy 1, nn 2, yy 3] ?_))))
 refine aT (kq 5 (.buildSlice 23 0 #[])) rfl rfl (a_buildEmptyX (n := 5) (e := 58) (bytes := 40) hF (by kernel_rfl)) ?_
 rintro _ w1 ⟨⟨a5, rfl⟩, s_1, hF⟩
 refine yM 6 0 ?_
 replace hw := hw.t s_1
 refine aT (kq 7 (.call { callee := .builtin .append, args := #[(.tmp 5), (.tmp 6)], argTypes := #[23, 23] })) rfl rfl (a_appendR (j := 5) (e := 58) (bytes := 40) (ys := ([] : List Bond)) hF (by decide) rfl rfl (by kernel_rfl) (by decide) rv_empX hw hne (by simp only [List.length_nil]; omega) (by simp only [List.length_nil]; omega)) ?_
 rintro v7 w2 ⟨Cw2, s_2, hn, hF⟩
 refine yA 2 7 ?_
 refine Sch.nil ?_
 simp only [List.nil_append] at hn
 refine rt1 Tryz.func42 Tryz.results42 ?_
 replace hT := (hT.t s_1).t s_2
 exact ⟨hT.out1 (by decide), hn.out hT hF0 (Mc_col1 C) (fun b _ => col1_lt C (by decide) b) (by omega)⟩
theorem copyB_ok {w₀ : World} {C : Nat → Nat} {xs : List Bond} {px : Value} (hF : Lim w₀ C) (hw : RV w₀ (Mc C) xs px) (hlen : xs.length ≤ 1000000) : Calls Tryz.prog 42 #[px] w₀ (Ret fun v w' => Stp [] w₀ C w' C ∧ RV w' (Mc C) xs v) := by
  by_cases hne : xs = []
  · subst hne
    obtain ⟨a0, c0, he0, hcc, _, hs0⟩ := rv_list.1 hw
    have e0 : px = .slice a0 0 c0 := he0
    rcases a0 with _ | b0
    · subst e0; exact copyB_ok0 hF hw
    · exact copyB_ok1 hF hw e0
  · exact copyB_ok2 hF hw hne hlen
namespace X150
def c0 := bodyOf Tryz.f150
end X150
theorem copyR_ok0 {w₀ : World} {C : Nat → Nat} {c0 : Nat} (hF : Lim w₀ C) (hw : RV w₀ (Mc C) ([] : List Couple) (.slice none 0 c0)) : Calls Tryz.prog 150 #[.slice none 0 c0] w₀ (Ret fun v w' => Stp [] w₀ C w' C ∧ RV w' (Mc C) ([] : List Couple) v) := by
 have hF0 := hF
 have hT := Stp.refl [2, 3, 4, 5, 6, 7, 8, 9] w₀ (col1 C)
 replace hF := hF.col1
 replace hw : RV w₀ (Mc (col1 C)) ([] : List Couple) (.slice none 0 c0) := by rw [Mc_col1]; exact hw
 refine c_st X150.c0 8 [.slice none 0 c0] Tryz.func150 ?_
 show Run _ _ _ _ [(0, .slice none 0 c0)] _ _
 refine run_sq (run_pl [yy 0] ?_)
 refine yV (kq 2 (.assign (.const (.slice none 0 0)))) (fun _ => val_assign rfl) ?_
 refine Sch.nil (run_sq (run_sq (run_pl [yy 0, yy 1] ?_)))
 refine yM 3 0 ?_
 refine yV (kq 4 (.binOp .eql 52 (.tmp 3) (.const (.slice none 0 0)) 52)) (fun _ => val_eqNilN rfl Tryz.underlying52) ?_
 refine Sch.nil (run_cT 4 (run_sq (run_pl [yy 0] ?_)))
 refine yV (kq 2 (.assign (.const (.slice none 0 0)))) (fun _ => val_assign rfl) ?_
 refine Sch.nil ?_
 refine rt1 Tryz.func150 Tryz.results150 ?_
 exact ⟨hT.out1 (by decide), rv_nil⟩
theorem copyR_ok1 {w₀ : World} {C : Nat → Nat} {px : Value} (hF : Lim w₀ C) (hw : RV w₀ (Mc C) ([] : List Couple) px) {b0 : Addr} {c0 : Nat} (he0 : px = .slice (some b0) 0 c0) : Calls Tryz.prog 150 #[px] w₀ (Ret fun v w' => Stp [] w₀ C w' C ∧ RV w' (Mc C) ([] : List Couple) v) := by
 have hF0 := hF
 have hT := Stp.refl [2, 3, 4, 5, 6, 7, 8, 9] w₀ (col1 C)
 replace hF := hF.col1
 replace hw : RV w₀ (Mc (col1 C)) ([] : List Couple) px := by rw [Mc_col1]; exact hw
 refine c_st X150.c0 8 [px] Tryz.func150 ?_
 show Run _ _ _ _ [(0, px)] _ _
 refine run_sq (run_pl [yy 0] ?_)
 refine yV (kq 2 (.assign (.const (.slice none 0 0)))) (fun _ => val_assign rfl) ?_
 refine Sch.nil (run_sq (run_sq (run_pl [yy 0, yy 1] ?_)))
 refine yM 3 0 ?_
 refine yV (kq 4 (.binOp .eql 52 (.tmp 3) (.const (.slice none 0 0)) 52)) (fun _ => val_eqNilX ((show _ = some px from rfl).trans (congrArg some he0)) Tryz.underlying52) ?_
 refine Sch.nil (run_cF 4 (run_sk (run_sq (run_pl [nn 0, yy 1, nn 2, yy 3] ?_))))
 refine aT (kq 5 (.buildSlice 52 0 #[])) rfl rfl (a_buildEmptyX (n := 2) (e := 55) (bytes := 16) hF (by kernel_rfl)) ?_
 rintro _ w1 ⟨⟨a5, rfl⟩, s_1, hF⟩
 refine yM 6 0 ?_
 replace hw := hw.t s_1
 refine aT (kq 7 (.call { callee := .builtin .append, args := #[(.tmp 5), (.tmp 6)], argTypes := #[52, 52] })) rfl rfl (a_appendE (α := Couple) (C := col1 C) (e := 55) (bytes := 16) rfl rfl (by kernel_rfl) hw) ?_
 rintro v7 w2 ⟨rfl, s_2⟩
 refine yA 2 7 ?_
 refine Sch.nil ?_
 refine rt1 Tryz.func150 Tryz.results150 ?_
 replace hT := (hT.t s_1).t s_2
 exact ⟨hT.out1 (by decide), rv_empX⟩
theorem copyR_ok2 {w₀ : World} {C : Nat → Nat} {xs : List Couple} {px : Value} (hF : Lim w₀ C) (hw : RV w₀ (Mc C) xs px) (hne : xs ≠ []) (hlen : xs.length ≤ 1000000) : Calls Tryz.prog 150 #[px] w₀ (Ret fun v w' => Stp [] w₀ C w' C ∧ RV w' (Mc C) xs v) := by
 have hF0 := hF
 have hT := Stp.refl [2, 3, 4, 5, 6, 7, 8, 9] w₀ (col1 C)
 replace hF := hF.col1
 replace hw := hw.c1
 obtain ⟨a0, c0, he0, hcc, _, hs0⟩ := rv_list.1 hw
 obtain ⟨b0, rfl⟩ : ∃ b, a0 = some b := by
   rcases hs0 with h | ⟨b, o, rfl, _⟩
   · exact absurd h hne
   exact ⟨_, rfl⟩
 clear hs0
 refine c_st X150.c0 8 [px] Tryz.func150 ?_
 show Run _ _ _ _ [(0, px)] _ _
 refine run_sq (run_pl [yy 0] ?_)
 refine yV (kq 2 (.assign (.const (.slice none 0 0)))) (fun _ => val_assign rfl) ?_
 refine Sch.nil (run_sq (run_sq (run_pl [yy 0, yy 1] ?_)))
 refine yM 3 0 ?_
 refine yV (kq 4 (.binOp .eql 52 (.tmp 3) (.const (.slice none 0 0)) 52)) (fun _ => val_eqNilX ((show _ = some px from rfl).trans (congrArg some he0)) Tryz.underlying52) ?_
 refine Sch.nil (run_cF 4 (run_sk (run_sq (run_pl [nn 0, yy 1, nn 2, yy 3] ?_))))
 refine aT (kq 5 (.buildSlice 52 0 #[])) rfl rfl (a_buildEmptyX (n := 2) (e := 55) (bytes := 16) hF (by kernel_rfl)) ?_
 rintro _ w1 ⟨⟨a5, rfl⟩, s_1, hF⟩
 refine yM 6 0 ?_
 replace hw := hw.t s_1
 refine aT (kq 7 (.call { callee := .builtin .append, args := #[(.tmp 5), (.tmp 6)], argTypes := #[52, 52] })) rfl rfl (a_appendR (j := 5) (e := 55) (bytes := 16) (ys := ([] : List Couple)) hF (by decide) rfl rfl (by kernel_rfl) (by decide) rv_empX hw hne (by simp only [List.length_nil]; omega) (by simp only [List.length_nil]; omega)) ?_
 rintro v7 w2 ⟨Cw2, s_2, hn, hF⟩
 refine yA 2 7 ?_
 refine Sch.nil ?_
 simp only [List.nil_append] at hn
 refine rt1 Tryz.func150 Tryz.results150 ?_
 replace hT := (hT.t s_1).t s_2
 exact ⟨hT.out1 (by decide), hn.out hT hF0 (Mc_col1 C) (fun b _ => col1_lt C (by decide) b) (by omega)⟩
theorem copyR_ok {w₀ : World} {C : Nat → Nat} {xs : List Couple} {px : Value} (hF : Lim w₀ C) (hw : RV w₀ (Mc C) xs px) (hlen : xs.length ≤ 1000000) : Calls Tryz.prog 150 #[px] w₀ (Ret fun v w' => Stp [] w₀ C w' C ∧ RV w' (Mc C) xs v) := by
  by_cases hne : xs = []
  · subst hne
    obtain ⟨a0, c0, he0, hcc, _, hs0⟩ := rv_list.1 hw
    have e0 : px = .slice a0 0 c0 := he0
    rcases a0 with _ | b0
    · subst e0; exact copyR_ok0 hF hw
    · exact copyR_ok1 hF hw e0
  · exact copyR_ok2 hF hw hne hlen
namespace F93
def c0 := bodyOf Tryz.f93
end F93
theorem listR_ok {w₀ : World} {C : Nat → Nat} {xs : List Couple} {px : Value} (hF : Lim w₀ C) (hw : RV w₀ (Mc C) xs px) (hlen : xs.length ≤ 1000000) : Calls Tryz.prog 93 #[px] w₀ (Ret fun v w' => Stp [] w₀ C w' C ∧ RV w' (Mc C) xs v) := by
 have hF0 := hF
 have hT := Stp.refl [2, 3, 4, 5, 6, 7, 8, 9] w₀ (col1 C)
 replace hF := hF.col1
 replace hw := hw.c1
 refine c_st F93.c0 5 [px] Tryz.func93 ?_
 show Run _ _ _ _ [(0, px)] _ _
 refine run_sq (run_pl [yy 0] ?_)
 refine yV (kq 2 (.assign (.const (.slice none 0 0)))) (fun _ => val_assign rfl) ?_
 refine Sch.nil (run_sq (run_pl [yy 0, nn 1, yy 2] ?_))
 refine yM 3 0 ?_
 refine cG 4 150 [3] [52] Tryz.call150 rfl (copyR_ok hF hw hlen) ?_
 rintro vw1 w1 ⟨s_1, hn⟩
 refine yA 2 4 ?_
 refine Sch.nil ?_
 refine rt1 Tryz.func93 Tryz.results93 ?_
 replace hT := hT.t s_1
 exact ⟨hT.out1 (by decide), hn.out hT hF0 (Mc_col1 C)⟩
end
end Go.Proofs.YtmdhggfehknjjaaGreat
