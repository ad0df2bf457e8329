/- Steps through functions of the program. -/
import Derived.Test.YtdmgmlmlielfbaaGreatJC3
import Derived.Test.YtdmgmlmlielfbaaGreatL1
set_option linter.unusedVariables false
set_option linter.unusedSimpArgs false
set_option maxRecDepth 100000
set_option maxHeartbeats 4000000
namespace Go.Proofs.YtdmgmlmlielfbaaGreat
open Go.K Go.K.Rep
noncomputable section
namespace F99
def c0 := bodyOf Tryz.f99
def c7 := (cl (cl (cr (cl (cr c0)))))
def c17 := (cr (cl (cl (cr (cr c7)))))
def o4 := rops (cl c17)
end F99
theorem index_ok {w₀ : World} {C : Nat → Nat} {l : List Couple} {c : Couple} {vl : Value} (hF : Lim w₀ C) (hl : RV w₀ (Mc C) l vl) : Calls Tryz.prog 99 #[vl, .agg #[.int .i64 c.a, .int .i64 c.b]] w₀ (Ret fun v w' => v = .int .i64 (idxOf (fun x => decide (c = x)) l) ∧ Stp [] w₀ C w' C) := by
 have hF0 := hF
 have hT := Stp.refl [2, 3, 4, 5, 6, 7, 8, 9] w₀ (col1 C)
 replace hF := hF.col1
 replace hl := hl.c1
 refine c_st F99.c0 19 [vl, .agg #[.int .i64 c.a, .int .i64 c.b]] Tryz.func99 ?_
 show Run _ _ _ _ [(0, vl), (1, .agg #[.int .i64 c.a, .int .i64 c.b])] _ _
 refine run_sq (run_pl [nn 0, yy 1] ?_)
 refine aT (kq 3 (.box 47 (.tmp 1))) rfl rfl (a_box (cs := [.int .i64 c.a, .int .i64 c.b]) hF 3 rfl rfl) ?_
 rintro _ w1 ⟨Cw1, bw1, rfl, s_1, hx, hF⟩
 refine yAc 4 (.int .i64 0) ?_
 refine Sch.nil (run_sq (run_sq (run_pl [yy 0, yy 1, yy 2] ?_)))
 refine yM 6 0 ?_
 replace hl := hl.t s_1
 refine yS (kq 7 (.call { callee := .builtin .len, args := #[(.tmp 6)], argTypes := #[53] })) rfl rfl (fun w' hS => hl.lenV rfl Tryz.underlying53 w' ) ?_
 refine yC 8 (.int .i64 0) ?_
 refine Sch.nil (run_bk 0 ?_)
 refine run_lp (ι := Nat × (Nat → Nat)) (I := fun x w => x.1 ≤ l.length ∧ (∀ i (hi : i < x.1) (hl : i < l.length), decide (c = l[i]) = false) ∧ Lim w x.2 ∧ Stp [2, 3, 4, 5, 6, 7, 8, 9] w₀ (col1 C) w x.2 ∧ RV w (Mc x.2) l vl ∧ OwnB w x.2 3 bw1 (.cells [.int .i64 c.a, .int .i64 c.b].toArray 47)) (e := fun x => [(0, vl), (3, .pointer (some ⟨bw1, 0, none⟩)), (7, .int .i64 l.length), (8, .int .i64 x.1)]) (m := fun x => l.length - x.1) (x₀ := (0, Cw1)) (sr 0 (sr 3 (sr 7 (sr 8 (sub_nil _))))) ?_ ?_
 ·
   replace hT := hT.t s_1
   exact ⟨Nat.zero_le _, fun i hi _ => by simp only at hi; omega, hF, hT, hl, hx⟩
 intro ⟨k, C1⟩ w2 hI next1
 obtain ⟨hk, h0, hF, hT, hl, hx⟩ := hI
 try simp only at hk h0 hF hT hl hx
 show Run _ _ _ _ [(0, vl), (3, .pointer (some ⟨bw1, 0, none⟩)), (7, .int .i64 l.length), (8, .int .i64 k)] _ _
 have hle := hl.le
 refine run_sq (run_pl [yy 0] ?_)
 refine yL 9 3 8 7 ?_
 refine Sch.nil (run_sq ?_)
 refine run_i 9 rfl (fun h9 => ?_) (fun h9 => ?_)
 ·
  have hkl : k < l.length := by omega
  refine run_sk (run_sq (run_bk 1 (run_sq (run_pl [yy 0, yy 1] ?_))))
  refine yM 10 8 ?_
  refine yA 5 10 ?_
  refine Sch.nil (run_sq ?_)
  refine run_draw (id := 4) (ops := F99.o4) [] (C1) [yy 0, yy 1, yy 2, yy 3, yy 4, yy 5] Tryz_mixed (by kernel_rfl) (by kernel_rfl) (by kernel_rfl) ?_
  intro w3 s_2
  replace hx := hx.t s_2
  refine yS (kq 11 (.load 47 (.tmp 3))) rfl rfl (fun w' hS => val_loadOwnAgg (n := 2) (hx.stay hS (by decide)) (by kernel_rfl) (by kernel_rfl) rfl rfl rfl) ?_
  refine yM 12 0 ?_
  refine yM 13 5 ?_
  replace hl := hl.t s_2
  refine iR 47 14 53 12 13 hl rfl (h := ?_)
  intro b14 o14 h14
  try simp only [Int.toNat_natCast] at h14
  refine lSA (kq 15 (.load 47 (.tmp 14))) rfl rfl (fun w' hS => h14.sy hS) h14 (by kernel_rfl) (by kernel_rfl) rfl rfl ?_
  intro v15 g15
  obtain rfl := rv_couple.1 g15
  refine yV (kq 16 (.binOp .eql 47 (.tmp 11) (.tmp 15) 47)) (fun _ => val_eqC (a := c) (b := _) Tryz.underlying47 (by decide) (by decide) (by kernel_rfl) Tryz.underlying3 rfl rfl) ?_
  refine Sch.nil ?_
  refine run_i 16 rfl (fun h16 => ?_) (fun h16 => ?_)
  ·
   refine run_sq (run_pl [yy 0, yy 1] ?_)
   refine yM 17 5 ?_
   refine yA 4 17 ?_
   refine Sch.nil ?_
   refine rt1 Tryz.func99 Tryz.results99 ?_
   replace hT := hT.t s_2
   exact ⟨by rw [idxOf_at (p := fun x => decide (c = x)) hkl (fun i hi => h0 i hi (by omega)) (decide_eq_true h16)], hT.out1 (by decide)⟩
  refine run_sk (run_inBlock (run_pl [yy 0, yy 1] ?_))
  refine yI 18 3 8 1 ?_
  refine yM 8 18 ?_
  refine Sch.nil ?_
  replace hF := hF.st s_2; replace hT := hT.t s_2
  refine kp (sub_cons 0 rfl rfl (sub_cons 3 rfl rfl (sub_cons 7 rfl rfl (sub_cons 8 rfl (eq_int (by simp)) (sub_nil _))))) (next1 (k + 1, C1) _ ⟨(by first | omega | (simp only; omega)), (fun i hi hl => by
       simp only at hi
       by_cases e : i = k
       · subst e; exact decide_eq_false h16
       · exact h0 i (by omega) hl), hF, hT, hl, hx⟩ (by first | omega | (simp only; omega)))
 have hkl : k = l.length := by omega
 refine run_ex 0 ?_
 refine run_sq (run_pl [yy 0] ?_)
 refine yV (kq 4 (.assign (.const (.int .i64 (-1))))) (fun _ => val_assign rfl) ?_
 refine Sch.nil ?_
 refine rt1 Tryz.func99 Tryz.results99 ?_
 exact ⟨by rw [idxOf_none (p := fun x => decide (c = x)) (fun i hi => h0 i (by omega) hi)], hT.out1 (by decide)⟩
namespace F61
def c0 := bodyOf Tryz.f61
end F61
theorem contains_ok {w₀ : World} {C : Nat → Nat} {l : List Couple} {c : Couple} {vl : Value} (hF : Lim w₀ C) (hl : RV w₀ (Mc C) l vl) : Calls Tryz.prog 61 #[vl, .agg #[.int .i64 c.a, .int .i64 c.b]] w₀ (Ret fun v w' => v = .bool (l.any fun x => decide (c = x)) ∧ Stp [] w₀ C w' C) := by
 have hF0 := hF
 have hT := Stp.refl [2, 3, 4, 5, 6, 7, 8, 9] w₀ (col1 C)
 replace hF := hF.col1
 replace hl := hl.c1
 refine c_st F61.c0 9 [vl, .agg #[.int .i64 c.a, .int .i64 c.b]] Tryz.func61 ?_
 show Run _ _ _ _ [(0, vl), (1, .agg #[.int .i64 c.a, .int .i64 c.b])] _ _
 refine run_sq (run_pl [nn 0, yy 1] ?_)
 refine aT (kq 3 (.box 47 (.tmp 1))) rfl rfl (a_box (cs := [.int .i64 c.a, .int .i64 c.b]) hF 3 rfl rfl) ?_
 rintro _ w1 ⟨Cw1, bw1, rfl, s_1, hx, hF⟩
 refine yAc 4 (.bool false) ?_
 refine Sch.nil (run_sq (run_pl [yy 0, nn 1, nn 2, yy 3, yy 4] ?_))
 refine yM 5 0 ?_
 refine nS (kq 6 (.load 47 (.tmp 3))) rfl rfl trivial (val_loadOwnAgg (n := 2) (vs := encR c) hx.at_ (by kernel_rfl) (by kernel_rfl) rfl rfl rfl) ?_
 replace hl := hl.t s_1
 refine cG 7 99 [5, 6] [53, 47] Tryz.call99 rfl (index_ok hF hl) ?_
 rintro vw2 w2 ⟨rfl, s_2⟩
 refine yV (kq 8 (.binOp .geq 3 (.tmp 7) (.const (.int .i64 0)) 3)) (fun _ => val_geq rfl rfl) ?_
 refine yA 4 8 ?_
 refine Sch.nil ?_
 refine rt1 Tryz.func61 Tryz.results61 ?_
 replace hT := (hT.t s_1).t s_2
 exact ⟨by rw [idxOf_ge], hT.out1 (by decide)⟩
end
end Go.Proofs.YtdmgmlmlielfbaaGreat
