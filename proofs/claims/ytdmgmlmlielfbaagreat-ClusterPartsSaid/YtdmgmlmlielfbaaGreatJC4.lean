/- Steps through functions of the program. -/
import Derived.Test.YtdmgmlmlielfbaaGreatJC3
import Derived.Test.YtdmgmlmlielfbaaGreatL1
set_option linter.unusedVariables false
set_option linter.unusedSimpArgs false
set_option maxRecDepth 100000
set_option maxHeartbeats 4000000
namespace Go.Proofs.YtdmgmlmlielfbaaGreat
open Go.K Go.K.Rep

namespace F99
noncomputable def c0 := bodyOf Tryz.f99
noncomputable def c7 := (cl (cl (cr (cl (cr c0)))))
noncomputable def c16 := (cl (cl (cl (cr (cr c7)))))
noncomputable def c17 := (cr (cl (cl (cr (cr c7)))))
noncomputable def o4 := rops (cl c17)
end F99
/-- 'slices.Index'. -/
theorem index_ok {w₀ : World} {C : Nat → Nat} {l : List Couple} {c : Couple} {vl : Value} (hF : Lim w₀ C) (hl : RV w₀ (Mc C) l vl) : Calls Tryz.prog 99 #[vl, .agg #[.int .i64 c.a, .int .i64 c.b]] w₀ (Ret fun v w' => v = .int .i64 (idxOf (fun x => decide (c = x)) l) ∧ Stp [] w₀ C w' C) := by
 have hF0 := hF
 have hT := Stp.refl [2, 3, 4, 5, 6, 7, 8, 9] w₀ (col1 C)
 replace hF := hF.col1
 replace hl : RV w₀ (Mc (col1 C)) l vl := by rw [Mc_col1]; exact hl
 refine calls_start (c := F99.c0) (N := 19) [vl, .agg #[.int .i64 c.a, .int .i64 c.b]] Tryz.func99 (by kernel_rfl) (by kernel_rfl) (by kernel_rfl) ?_
 show Run _ _ _ _ [(0, vl), (1, .agg #[.int .i64 c.a, .int .i64 c.b])] _ _
 refine run_sq ?_
 refine run_pl [nn 0, yy 1] ?_
 refine aS (kq 3 (.box 47 (.tmp 1))) rfl rfl (a_box (cs := [.int .i64 c.a, .int .i64 c.b]) hF 3 rfl rfl) ?_
 rintro _ w1 ⟨Cw1, bw1, rfl, hs, hx, hF⟩
 refine ⟨trivial, ?_⟩
 replace hT := hT.t hs; replace hl := hl.t hs
 refine yAc 4 (.int .i64 0) ?_
 refine Sch.nil ?_
 refine run_sq ?_
 refine run_sq ?_
 refine run_pl [yy 0, yy 1, yy 2] ?_
 refine yM 6 0 ?_
 refine yS (kq 7 (.call { callee := .builtin .len, args := #[(.tmp 6)], argTypes := #[53] })) rfl rfl (fun w' hS => hl.lenV rfl Tryz.underlying53 w' ) ?_
 refine yV (kq 8 (.move (.const (.int .i64 0)))) (fun _ => val_move rfl) ?_
 refine Sch.nil ?_
 refine run_bk 0 ?_
 
 refine run_lp (ι := Nat × (Nat → Nat)) (I := fun x w => x.1 ≤ l.length ∧ (∀ i (hi : i < x.1) (hl : i < l.length), decide (c = l[i]) = false) ∧ Lim w x.2 ∧ Stp [2, 3, 4, 5, 6, 7, 8, 9] w₀ (col1 C) w x.2 ∧ RV w (Mc x.2) l vl ∧ OwnB w x.2 3 bw1 (.cells [.int .i64 c.a, .int .i64 c.b].toArray 47)) (e := fun x => [(0, vl), (3, .pointer (some ⟨bw1, 0, none⟩)), (7, .int .i64 l.length), (8, .int .i64 x.1)]) (m := fun x => l.length - x.1) (x₀ := (0, Cw1)) (sr 0 (sr 3 (sr 7 (sr 8 (sub_nil _))))) ?_ ?_
 · exact ⟨Nat.zero_le _, fun i hi _ => by simp only at hi; omega, hF, hT, hl, hx⟩
 intro ⟨k, C1⟩ w2 hI next
 obtain ⟨hk, h0, hF, hT, hl, hx⟩ := hI
 try simp only at hk h0 hF hT hl hx
 have next1 := next
 clear next
 show Run _ _ _ _ [(0, vl), (3, .pointer (some ⟨bw1, 0, none⟩)), (7, .int .i64 l.length), (8, .int .i64 k)] _ _
 have hle := hl.le
 refine run_sq ?_
 refine run_pl [yy 0] ?_
 refine yV (kq 9 (.binOp .lss 3 (.tmp 8) (.tmp 7) 3)) (fun _ => val_lss rfl rfl) ?_
 refine Sch.nil ?_
 refine run_sq ?_
 refine run_i 9 rfl (fun h9 => ?_) (fun h9 => ?_)
 ·
  have hkl : k < l.length := by omega
  refine run_sk ?_
  refine run_sq ?_
  refine run_bk 1 ?_
  refine run_sq ?_
  refine run_pl [yy 0, yy 1] ?_
  refine yM 10 8 ?_
  refine yA 5 10 ?_
  refine Sch.nil ?_
  refine run_sq ?_
  refine run_draw (id := 4) (ops := F99.o4) [] (C1) [yy 0, yy 1, yy 2, yy 3, yy 4, yy 5] Tryz_mixed (by kernel_rfl) (by kernel_rfl) (by kernel_rfl) ?_
  intro w3 hs
  replace hF := hF.st hs
  replace hT := hT.t hs; replace hl := hl.t hs; replace hx := hx.t hs
  refine yS (kq 11 (.load 47 (.tmp 3))) rfl rfl (fun w' hS => val_loadOwnAgg (n := 2) (hx.stay hS (by decide)) (by kernel_rfl) (by kernel_rfl) rfl rfl rfl) ?_
  refine yM 12 0 ?_
  refine yM 13 5 ?_
  refine iS (e := 47) (kq 14 (.indexAddr 53 (.tmp 12) (.tmp 13))) rfl rfl hl rfl (by kernel_rfl) rfl (by omega) (by omega) ?_
  intro b14 o14 h14
  try simp only [Int.toNat_natCast] at h14
  refine lSA (kq 15 (.load 47 (.tmp 14))) rfl rfl (fun w' hS => h14.sy hS) h14 (by kernel_rfl) (by kernel_rfl) rfl rfl ?_
  intro v15 g15
  obtain rfl := rv_couple.1 g15
  refine yV (kq 16 (.binOp .eql 47 (.tmp 11) (.tmp 15) 47)) (fun _ => val_eqC (a := c) (b := _) Tryz.underlying47 (by decide) (by decide) (by kernel_rfl) Tryz.underlying3 rfl rfl) ?_
  refine Sch.nil ?_
  refine run_i 16 rfl (fun h16 => ?_) (fun h16 => ?_)
  ·
   refine run_sq ?_
   refine run_pl [yy 0, yy 1] ?_
   refine yM 17 5 ?_
   refine yA 4 17 ?_
   refine Sch.nil ?_
   refine run_ret1 (by kernel_rfl) Tryz.func99 Tryz.results99 rfl ?_
   exact ⟨by rw [idxOf_at (p := fun x => decide (c = x)) hkl (fun i hi => h0 i hi (by omega)) (decide_eq_true h16)], hT.out1 (by decide)⟩
  ·
   refine run_sk ?_
   refine run_inBlock ?_
   refine run_pl [yy 0, yy 1] ?_
   refine yV (kq 18 (.binOp .add 3 (.tmp 8) (.const (.int .i64 1)) 3)) (fun _ => val_addi rfl rfl (by omega) (by omega)) ?_
   refine yM 8 18 ?_
   refine Sch.nil ?_
   refine kp (sub_cons 0 rfl rfl (sub_cons 3 rfl rfl (sub_cons 7 rfl rfl (sub_cons 8 rfl (eq_int (by simp)) (sub_nil _))))) (next1 (k + 1, C1) _ ⟨(by first | omega | (simp only; omega)), (fun i hi hl => by
       simp only at hi
       by_cases e : i = k
       · subst e; exact decide_eq_false h16
       · exact h0 i (by omega) hl), hF, hT, hl, hx⟩ (by first | omega | (simp only; omega)))
 ·
  have hkl : k = l.length := by omega
  refine run_ex 0 ?_
  refine run_sq ?_
  refine run_pl [yy 0] ?_
  refine yV (kq 4 (.assign (.const (.int .i64 (-1))))) (fun _ => val_assign rfl) ?_
  refine Sch.nil ?_
  refine run_ret1 (by kernel_rfl) Tryz.func99 Tryz.results99 rfl ?_
  exact ⟨by rw [idxOf_none (p := fun x => decide (c = x)) (fun i hi => h0 i (by omega) hi)], hT.out1 (by decide)⟩
namespace F61
noncomputable def c0 := bodyOf Tryz.f61
end F61
theorem contains_ok {w₀ : World} {C : Nat → Nat} {l : List Couple} {c : Couple} {vl : Value} (hF : Lim w₀ C) (hl : RV w₀ (Mc C) l vl) : Calls Tryz.prog 61 #[vl, .agg #[.int .i64 c.a, .int .i64 c.b]] w₀ (Ret fun v w' => v = .bool (l.any fun x => decide (c = x)) ∧ Stp [] w₀ C w' C) := by
 have hF0 := hF
 have hT := Stp.refl [2, 3, 4, 5, 6, 7, 8, 9] w₀ (col1 C)
 replace hF := hF.col1
 replace hl : RV w₀ (Mc (col1 C)) l vl := by rw [Mc_col1]; exact hl
 refine calls_start (c := F61.c0) (N := 9) [vl, .agg #[.int .i64 c.a, .int .i64 c.b]] Tryz.func61 (by kernel_rfl) (by kernel_rfl) (by kernel_rfl) ?_
 show Run _ _ _ _ [(0, vl), (1, .agg #[.int .i64 c.a, .int .i64 c.b])] _ _
 refine run_sq ?_
 refine run_pl [nn 0, yy 1] ?_
 refine aS (kq 3 (.box 47 (.tmp 1))) rfl rfl (a_box (cs := [.int .i64 c.a, .int .i64 c.b]) hF 3 rfl rfl) ?_
 rintro _ w1 ⟨Cw1, bw1, rfl, hs, hx, hF⟩
 refine ⟨trivial, ?_⟩
 replace hT := hT.t hs; replace hl := hl.t hs
 refine yAc 4 (.bool false) ?_
 refine Sch.nil ?_
 refine run_sq ?_
 refine run_pl [yy 0, nn 1, nn 2, yy 3, yy 4] ?_
 refine yM 5 0 ?_
 refine nS (kq 6 (.load 47 (.tmp 3))) rfl rfl trivial (val_loadOwnAgg (n := 2) (vs := encR c) hx.at_ (by kernel_rfl) (by kernel_rfl) rfl rfl rfl) ?_
 refine cS (kq 7 (.call { callee := .value (.func 99), args := #[(.tmp 5), (.tmp 6)], argTypes := #[53, 47] })) rfl rfl (ent Tryz.call99 rfl) (index_ok hF hl) ?_
 rintro vw2 w2 ⟨rfl, hs⟩
 refine ⟨trivial, ?_⟩
 replace hF := hF.st hs
 replace hT := hT.t hs; replace hl := hl.t hs; replace hx := hx.t hs
 refine yV (kq 8 (.binOp .geq 3 (.tmp 7) (.const (.int .i64 0)) 3)) (fun _ => val_geq rfl rfl) ?_
 refine yA 4 8 ?_
 refine Sch.nil ?_
 refine run_ret1 (by kernel_rfl) Tryz.func61 Tryz.results61 rfl ?_
 exact ⟨by rw [idxOf_ge], hT.out1 (by decide)⟩
namespace F64
noncomputable def c0 := bodyOf Tryz.f64
end F64
theorem findIn_ok {w₀ : World} {C : Nat → Nat} {l : List Couple} {c : Couple} {vl : Value} {b j : Nat} (hj : j ≠ 0) (hF : Lim w₀ C) (hx : OwnB w₀ C j b (.cells [.int .i64 c.a, .int .i64 c.b].toArray 47)) (hl : RV w₀ (Mc C) l vl) : Calls Tryz.prog 64 #[vl, .pointer (some ⟨b, 0, none⟩)] w₀ (Ret fun v w' => v = .bool (l.any fun x => decide (c = x)) ∧ Stp [] w₀ C w' C) := by
 have hF0 := hF
 have hT := Stp.refl [2, 3, 4, 5, 6, 7, 8, 9] w₀ (col1 C)
 replace hF := hF.col1
 replace hx : OwnB w₀ (col1 C) 1 b (.cells [.int .i64 c.a, .int .i64 c.b].toArray 47) := ⟨by unfold K.col1; rw [if_neg (by rw [hx.col]; exact hj)], hx.at_⟩
 replace hl : RV w₀ (Mc (col1 C)) l vl := by rw [Mc_col1]; exact hl
 refine calls_start (c := F64.c0) (N := 7) [vl, .pointer (some ⟨b, 0, none⟩)] Tryz.func64 (by kernel_rfl) (by kernel_rfl) (by kernel_rfl) ?_
 show Run _ _ _ _ [(0, vl), (1, .pointer (some ⟨b, 0, none⟩))] _ _
 refine run_sq ?_
 refine run_pl [yy 0] ?_
 refine yAc 3 (.bool false) ?_
 refine Sch.nil ?_
 refine run_sq ?_
 refine run_pl [yy 0, nn 1, nn 2, yy 3] ?_
 refine yM 4 0 ?_
 refine nS (kq 5 (.load 47 (.tmp 1))) rfl rfl trivial (val_loadOwnAgg (n := 2) (vs := encR c) hx.at_ (by kernel_rfl) (by kernel_rfl) rfl rfl rfl) ?_
 refine cS (kq 6 (.call { callee := .value (.func 61), args := #[(.tmp 4), (.tmp 5)], argTypes := #[53, 47] })) rfl rfl (ent Tryz.call61 rfl) (contains_ok hF hl) ?_
 rintro vw1 w1 ⟨rfl, hs⟩
 refine ⟨trivial, ?_⟩
 replace hF := hF.st hs
 replace hT := hT.t hs; replace hl := hl.t hs; replace hx := hx.t hs
 refine yA 3 6 ?_
 refine Sch.nil ?_
 refine run_ret1 (by kernel_rfl) Tryz.func64 Tryz.results64 rfl ?_
 exact ⟨rfl, hT.out1 (by decide)⟩
namespace F63
noncomputable def c0 := bodyOf Tryz.f63
noncomputable def c7 := (cl (cl (cr (cl (cr c0)))))
noncomputable def c16 := (cl (cl (cl (cr (cr c7)))))
noncomputable def c17 := (cr (cl (cl (cr (cr c7)))))
end F63
theorem indexFunc_ok {w₀ : World} {C : Nat → Nat} {l : List (List Couple)} {c : Couple} {vl : Value} {b j : Nat} (hj : j ≠ 0) (hF : Lim w₀ C) (hx : OwnB w₀ C j b (.cells [.int .i64 c.a, .int .i64 c.b].toArray 47)) (hl : RV w₀ (Mc C) l vl) : Calls Tryz.prog 63 #[vl, .func (.func 64) #[] #[.pointer (some ⟨b, 0, none⟩)]] w₀ (Ret fun v w' => v = .int .i64 (findS l c) ∧ Stp [] w₀ C w' C) := by
 have hF0 := hF
 have hT := Stp.refl [2, 3, 4, 5, 6, 7, 8, 9] w₀ (col1 C)
 replace hF := hF.col1
 replace hx : OwnB w₀ (col1 C) 1 b (.cells [.int .i64 c.a, .int .i64 c.b].toArray 47) := ⟨by unfold K.col1; rw [if_neg (by rw [hx.col]; exact hj)], hx.at_⟩
 replace hl : RV w₀ (Mc (col1 C)) l vl := by rw [Mc_col1]; exact hl
 refine calls_start (c := F63.c0) (N := 19) [vl, .func (.func 64) #[] #[.pointer (some ⟨b, 0, none⟩)]] Tryz.func63 (by kernel_rfl) (by kernel_rfl) (by kernel_rfl) ?_
 show Run _ _ _ _ [(0, vl), (1, .func (.func 64) #[] #[.pointer (some ⟨b, 0, none⟩)])] _ _
 refine run_sq ?_
 refine run_pl [yy 0] ?_
 refine yAc 4 (.int .i64 0) ?_
 refine Sch.nil ?_
 refine run_sq ?_
 refine run_sq ?_
 refine run_pl [yy 0, yy 1, yy 2] ?_
 refine yM 6 0 ?_
 refine yS (kq 7 (.call { callee := .builtin .len, args := #[(.tmp 6)], argTypes := #[25] })) rfl rfl (fun w' hS => hl.lenV rfl Tryz.underlying25 w' ) ?_
 refine yV (kq 8 (.move (.const (.int .i64 0)))) (fun _ => val_move rfl) ?_
 refine Sch.nil ?_
 refine run_bk 0 ?_
 
 refine run_lp (ι := Nat × (Nat → Nat)) (I := fun x w => x.1 ≤ l.length ∧ (∀ i (hi : i < x.1) (hl : i < l.length), (l[i].any fun x => decide (c = x)) = false) ∧ Lim w x.2 ∧ Stp [2, 3, 4, 5, 6, 7, 8, 9] w₀ (col1 C) w x.2 ∧ RV w (Mc x.2) l vl ∧ OwnB w x.2 1 b (.cells [.int .i64 c.a, .int .i64 c.b].toArray 47)) (e := fun x => [(0, vl), (1, .func (.func 64) #[] #[.pointer (some ⟨b, 0, none⟩)]), (7, .int .i64 l.length), (8, .int .i64 x.1)]) (m := fun x => l.length - x.1) (x₀ := (0, col1 C)) (sr 0 (sr 1 (sr 7 (sr 8 (sub_nil _))))) ?_ ?_
 · exact ⟨Nat.zero_le _, fun i hi _ => by simp only at hi; omega, hF, hT, hl, hx⟩
 intro ⟨k, C1⟩ w1 hI next
 obtain ⟨hk, h0, hF, hT, hl, hx⟩ := hI
 try simp only at hk h0 hF hT hl hx
 have next1 := next
 clear next
 show Run _ _ _ _ [(0, vl), (1, .func (.func 64) #[] #[.pointer (some ⟨b, 0, none⟩)]), (7, .int .i64 l.length), (8, .int .i64 k)] _ _
 have hle := hl.le
 refine run_sq ?_
 refine run_pl [yy 0] ?_
 refine yV (kq 9 (.binOp .lss 3 (.tmp 8) (.tmp 7) 3)) (fun _ => val_lss rfl rfl) ?_
 refine Sch.nil ?_
 refine run_sq ?_
 refine run_i 9 rfl (fun h9 => ?_) (fun h9 => ?_)
 ·
  have hkl : k < l.length := by omega
  refine run_sk ?_
  refine run_sq ?_
  refine run_bk 1 ?_
  refine run_sq ?_
  refine run_pl [yy 0, yy 1] ?_
  refine yM 10 8 ?_
  refine yA 5 10 ?_
  refine Sch.nil ?_
  refine run_sq ?_
  refine run_pl [yy 0, yy 1, yy 2, yy 3, nn 4, nn 5] ?_
  refine yM 11 1 ?_
  refine yM 12 0 ?_
  refine yM 13 5 ?_
  refine iS (e := 53) (kq 14 (.indexAddr 25 (.tmp 12) (.tmp 13))) rfl rfl hl rfl (by kernel_rfl) rfl (by omega) (by omega) ?_
  intro b14 o14 h14
  try simp only [Int.toNat_natCast] at h14
  refine lN (kq 15 (.load 53 (.tmp 14))) rfl rfl trivial h14 (by kernel_rfl) rfl rfl ?_
  intro v15 g15
  refine cS (kq 16 (.call { callee := .value (.tmp 11), args := #[(.tmp 15)], argTypes := #[53] })) rfl rfl (enters_func Tryz.call64 rfl rfl) (findIn_ok (by decide) hF hx g15) ?_
  rintro vw2 w2 ⟨rfl, hs⟩
  refine ⟨trivial, ?_⟩
  replace hF := hF.st hs
  replace hT := hT.t hs; replace hl := hl.t hs; replace hx := hx.t hs; replace h14 := h14.t hs; replace g15 := g15.t hs
  refine Sch.nil ?_
  refine run_c 16 rfl (fun h16 => ?_) (fun h16 => ?_)
  ·
   refine run_sq ?_
   refine run_pl [yy 0, yy 1] ?_
   refine yM 17 5 ?_
   refine yA 4 17 ?_
   refine Sch.nil ?_
   refine run_ret1 (by kernel_rfl) Tryz.func63 Tryz.results63 rfl ?_
   exact ⟨by unfold findS; rw [idxOf_at hkl (fun i hi => h0 i hi (by omega)) h16], hT.out1 (by decide)⟩
  ·
   refine run_sk ?_
   refine run_inBlock ?_
   refine run_pl [yy 0, yy 1] ?_
   refine yV (kq 18 (.binOp .add 3 (.tmp 8) (.const (.int .i64 1)) 3)) (fun _ => val_addi rfl rfl (by omega) (by omega)) ?_
   refine yM 8 18 ?_
   refine Sch.nil ?_
   refine kp (sub_cons 0 rfl rfl (sub_cons 1 rfl rfl (sub_cons 7 rfl rfl (sub_cons 8 rfl (eq_int (by simp)) (sub_nil _))))) (next1 (k + 1, C1) _ ⟨(by first | omega | (simp only; omega)), (fun i hi hl => by
       simp only at hi
       by_cases e : i = k
       · subst e; exact h16
       · exact h0 i (by omega) hl), hF, hT, hl, hx⟩ (by first | omega | (simp only; omega)))
 ·
  have hkl : k = l.length := by omega
  refine run_ex 0 ?_
  refine run_sq ?_
  refine run_pl [yy 0] ?_
  refine yV (kq 4 (.assign (.const (.int .i64 (-1))))) (fun _ => val_assign rfl) ?_
  refine Sch.nil ?_
  refine run_ret1 (by kernel_rfl) Tryz.func63 Tryz.results63 rfl ?_
  exact ⟨by unfold findS; rw [idxOf_none (fun i hi => h0 i (by omega) hi)], hT.out1 (by decide)⟩
namespace F34
noncomputable def c0 := bodyOf Tryz.f34
end F34
/-- 'Find'. -/
theorem find_ok {w₀ : World} {C : Nat → Nat} {l : List (List Couple)} {c : Couple} {vl : Value} (hF : Lim w₀ C) (hl : RV w₀ (Mc C) l vl) : Calls Tryz.prog 34 #[vl, .agg #[.int .i64 c.a, .int .i64 c.b]] w₀ (Ret fun v w' => v = .int .i64 (findS l c) ∧ Stp [] w₀ C w' C) := by
 have hF0 := hF
 have hT := Stp.refl [2, 3, 4, 5, 6, 7, 8, 9] w₀ (col1 C)
 replace hF := hF.col1
 replace hl : RV w₀ (Mc (col1 C)) l vl := by rw [Mc_col1]; exact hl
 refine calls_start (c := F34.c0) (N := 8) [vl, .agg #[.int .i64 c.a, .int .i64 c.b]] Tryz.func34 (by kernel_rfl) (by kernel_rfl) (by kernel_rfl) ?_
 show Run _ _ _ _ [(0, vl), (1, .agg #[.int .i64 c.a, .int .i64 c.b])] _ _
 refine run_sq ?_
 refine run_pl [nn 0, yy 1] ?_
 refine aS (kq 3 (.box 47 (.tmp 1))) rfl rfl (a_box (cs := [.int .i64 c.a, .int .i64 c.b]) hF 3 rfl rfl) ?_
 rintro _ w1 ⟨Cw1, bw1, rfl, hs, hx, hF⟩
 refine ⟨trivial, ?_⟩
 replace hT := hT.t hs; replace hl := hl.t hs
 refine yAc 4 (.int .i64 0) ?_
 refine Sch.nil ?_
 refine run_sq ?_
 refine run_pl [yy 0, yy 1, nn 2, yy 3] ?_
 refine yM 5 0 ?_
 refine yV (kq 6 (.makeFunc (.func 64) #[] #[(.tmp 3)])) (fun _ => val_makeFunc rfl rfl) ?_
 refine cS (kq 7 (.call { callee := .value (.func 63), args := #[(.tmp 5), (.tmp 6)], argTypes := #[25, 86] })) rfl rfl (ent Tryz.call63 rfl) (indexFunc_ok (by decide) hF hx hl) ?_
 rintro vw2 w2 ⟨rfl, hs⟩
 refine ⟨trivial, ?_⟩
 replace hF := hF.st hs
 replace hT := hT.t hs; replace hl := hl.t hs; replace hx := hx.t hs
 refine yA 4 7 ?_
 refine Sch.nil ?_
 refine run_ret1 (by kernel_rfl) Tryz.func34 Tryz.results34 rfl ?_
 exact ⟨rfl, hT.out1 (by decide)⟩
end Go.Proofs.YtdmgmlmlielfbaaGreat
