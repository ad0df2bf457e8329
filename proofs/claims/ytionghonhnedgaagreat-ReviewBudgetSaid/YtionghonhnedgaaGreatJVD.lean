/- Steps through functions of the program. -/
import Derived.Test.YtionghonhnedgaaGreatJVC
set_option linter.unusedVariables false
set_option linter.unusedSimpArgs false
set_option maxRecDepth 100000
set_option maxHeartbeats 4000000
namespace Go.Proofs.YtionghonhnedgaaGreat
open Go.K Go.K.Rep

namespace F93
noncomputable def c0 := bodyOf Tryz.f93
end F93
theorem isS_ok {w₀ : World} {C : Nat → Nat} {s : Shw} {r : Couple} {ver fld : Int} {b1 b2 b3 : Nat} (hF : Lim w₀ C) (h1 : RA w₀ (Mc C) r b1 0) (h2 : RA w₀ (Mc C) ver b2 0) (h3 : RA w₀ (Mc C) fld b3 0) : Calls Tryz.prog 93 #[.agg (encS s).toArray, .pointer (some ⟨b1, 0, none⟩), .pointer (some ⟨b2, 0, none⟩), .pointer (some ⟨b3, 0, none⟩)] w₀ (Ret fun v w' => v = .bool (isS r ver fld s) ∧ Stp [] w₀ C w' C) := by
 have hF0 := hF
 have hT := Stp.refl [2, 3, 4, 5, 6, 7, 8, 9] w₀ (col1 C)
 replace hF := hF.col1
 replace h1 := (show RA w₀ (Mc (col1 C)) r b1 0 from by rw [Mc_col1]; exact h1)
 replace h2 := (show RA w₀ (Mc (col1 C)) ver b2 0 from by rw [Mc_col1]; exact h2)
 replace h3 := (show RA w₀ (Mc (col1 C)) fld b3 0 from by rw [Mc_col1]; exact h3)
 refine calls_start (c := F93.c0) (N := 22) [.agg (encS s).toArray, .pointer (some ⟨b1, 0, none⟩), .pointer (some ⟨b2, 0, none⟩), .pointer (some ⟨b3, 0, none⟩)] Tryz.func93 (by kernel_rfl) (by kernel_rfl) (by kernel_rfl) ?_
 show Run _ _ _ _ [(0, .agg (encS s).toArray), (1, .pointer (some ⟨b1, 0, none⟩)), (2, .pointer (some ⟨b2, 0, none⟩)), (3, .pointer (some ⟨b3, 0, none⟩))] _ _
 refine run_sq ?_
 refine run_pl [nn 0, yy 1] ?_
 refine aS (kq 4 (.box 50 (.tmp 0))) rfl rfl (a_box (cs := encS s) hF 3 rfl rfl) ?_
 rintro _ w1 ⟨Cw1, bw1, rfl, hs, hx, hF⟩
 refine ⟨trivial, ?_⟩
 replace hT := hT.t hs; replace h1 := h1.t hs; replace h2 := h2.t hs; replace h3 := h3.t hs
 refine yAc 5 (.bool false) ?_
 refine Sch.nil ?_
 refine run_sq ?_
 by_cases hA : s.r = r
 ·
  by_cases hB : s.ver = ver
  ·
   refine run_pl [yy 0, nn 1, nn 2, yy 3, yy 4, yy 5, nn 6, nn 7, yy 8, yy 9, yy 10, yy 11, nn 12, nn 13, yy 14, yy 15, yy 16] ?_
   refine yF 6 50 4 0 0 ?_
   refine nS (kq 7 (.load 32 (.tmp 6))) rfl rfl trivial (val_loadOwnAgg (n := 2) (vs := encR s.r) hx.at_ (by kernel_rfl) (by kernel_rfl) rfl rfl rfl) ?_
   refine lNA (kq 8 (.load 32 (.tmp 1))) rfl rfl trivial h1 (by kernel_rfl) (by kernel_rfl) rfl rfl ?_
   intro v8 g8
   obtain rfl := rv_couple.1 g8
   refine yV (kq 9 (.binOp .eql 32 (.tmp 7) (.tmp 8) 32)) (fun _ => val_is (val_eqC (a := s.r) (b := r) Tryz.underlying32 (by decide) (by decide) (by kernel_rfl) Tryz.underlying3 rfl rfl) (show _ = Value.bool true from congrArg Value.bool (decide_eq_true hA))) ?_
   refine yM 10 9 ?_
   refine yFg 11 50 4 1 2 4 true ?_
   refine nS (kg 12 (.load 3 (.tmp 11)) 4 true) rfl rfl trivial (val_loadOwn hx.at_ (by kernel_rfl) rfl rfl) ?_
   refine lN (kg 13 (.load 3 (.tmp 2)) 4 true) rfl rfl trivial h2 (by kernel_rfl) rfl rfl ?_
   intro v13 g13
   first | (obtain rfl := rv_nat.1 g13) | (obtain rfl := rv_int.1 g13)
   refine yV (kg 14 (.binOp .eql 3 (.tmp 12) (.tmp 13) 3) 4 true) (fun _ => val_T (val_eql rfl rfl) hB) ?_
   refine yAt 15 10 14 ?_
   refine yM 16 15 ?_
   refine yFg 17 50 4 2 3 10 true ?_
   refine nS (kg 18 (.load 3 (.tmp 17)) 10 true) rfl rfl trivial (val_loadOwn hx.at_ (by kernel_rfl) rfl rfl) ?_
   refine lN (kg 19 (.load 3 (.tmp 3)) 10 true) rfl rfl trivial h3 (by kernel_rfl) rfl rfl ?_
   intro v19 g19
   first | (obtain rfl := rv_nat.1 g19) | (obtain rfl := rv_int.1 g19)
   refine yV (kg 20 (.binOp .eql 3 (.tmp 18) (.tmp 19) 3) 10 true) (fun _ => val_eql rfl rfl) ?_
   refine yAt 21 16 20 ?_
   refine yA 5 21 ?_
   refine Sch.nil ?_
   refine run_ret1 (by kernel_rfl) Tryz.func93 Tryz.results93 rfl ?_
   exact ⟨by unfold isS; congr 1; apply decide_eq_decide.2; exact ⟨fun e => ⟨hA, hB, e⟩, fun e => e.2.2⟩, hT.out1 (by decide)⟩
  ·
   refine run_pl [yy 0, nn 1, nn 2, yy 3, yy 4, yy 5, nn 6, nn 7, yy 8, yy 9, yy 10, yy 11, nn 12, nn 13, yy 14, yy 15, yy 16] ?_
   refine yF 6 50 4 0 0 ?_
   refine nS (kq 7 (.load 32 (.tmp 6))) rfl rfl trivial (val_loadOwnAgg (n := 2) (vs := encR s.r) hx.at_ (by kernel_rfl) (by kernel_rfl) rfl rfl rfl) ?_
   refine lNA (kq 8 (.load 32 (.tmp 1))) rfl rfl trivial h1 (by kernel_rfl) (by kernel_rfl) rfl rfl ?_
   intro v8 g8
   obtain rfl := rv_couple.1 g8
   refine yV (kq 9 (.binOp .eql 32 (.tmp 7) (.tmp 8) 32)) (fun _ => val_is (val_eqC (a := s.r) (b := r) Tryz.underlying32 (by decide) (by decide) (by kernel_rfl) Tryz.underlying3 rfl rfl) (show _ = Value.bool true from congrArg Value.bool (decide_eq_true hA))) ?_
   refine yM 10 9 ?_
   refine yFg 11 50 4 1 2 4 true ?_
   refine nS (kg 12 (.load 3 (.tmp 11)) 4 true) rfl rfl trivial (val_loadOwn hx.at_ (by kernel_rfl) rfl rfl) ?_
   refine lN (kg 13 (.load 3 (.tmp 2)) 4 true) rfl rfl trivial h2 (by kernel_rfl) rfl rfl ?_
   intro v13 g13
   first | (obtain rfl := rv_nat.1 g13) | (obtain rfl := rv_int.1 g13)
   refine yV (kg 14 (.binOp .eql 3 (.tmp 12) (.tmp 13) 3) 4 true) (fun _ => val_F (val_eql rfl rfl) hB) ?_
   refine yAt 15 10 14 ?_
   refine yM 16 15 ?_
   refine pX 17 10 true ?_
   refine pW (kg 18 (.load 3 (.tmp 17)) 10 true) rfl rfl trivial ?_
   refine pW (kg 19 (.load 3 (.tmp 3)) 10 true) rfl rfl trivial ?_
   refine pX 20 10 true ?_
   refine yAf 21 16 20 ?_
   refine yA 5 21 ?_
   refine Sch.nil ?_
   refine run_ret1 (by kernel_rfl) Tryz.func93 Tryz.results93 rfl ?_
   exact ⟨by unfold isS; rw [decide_eq_false (fun e => hB e.2.1)], hT.out1 (by decide)⟩
 ·
  refine run_pl [yy 0, nn 1, nn 2, yy 3, yy 4, yy 5, nn 6, nn 7, yy 8, yy 9, yy 10, yy 11, nn 12, nn 13, yy 14, yy 15, yy 16] ?_
  refine yF 6 50 4 0 0 ?_
  refine nS (kq 7 (.load 32 (.tmp 6))) rfl rfl trivial (val_loadOwnAgg (n := 2) (vs := encR s.r) hx.at_ (by kernel_rfl) (by kernel_rfl) rfl rfl rfl) ?_
  refine lNA (kq 8 (.load 32 (.tmp 1))) rfl rfl trivial h1 (by kernel_rfl) (by kernel_rfl) rfl rfl ?_
  intro v8 g8
  obtain rfl := rv_couple.1 g8
  refine yV (kq 9 (.binOp .eql 32 (.tmp 7) (.tmp 8) 32)) (fun _ => val_is (val_eqC (a := s.r) (b := r) Tryz.underlying32 (by decide) (by decide) (by kernel_rfl) Tryz.underlying3 rfl rfl) (show _ = Value.bool false from congrArg Value.bool (decide_eq_false hA))) ?_
  refine yM 10 9 ?_
  refine pX 11 4 true ?_
  refine pW (kg 12 (.load 3 (.tmp 11)) 4 true) rfl rfl trivial ?_
  refine pW (kg 13 (.load 3 (.tmp 2)) 4 true) rfl rfl trivial ?_
  refine pX 14 4 true ?_
  refine yAf 15 10 14 ?_
  refine yM 16 15 ?_
  refine pX 17 10 true ?_
  refine pW (kg 18 (.load 3 (.tmp 17)) 10 true) rfl rfl trivial ?_
  refine pW (kg 19 (.load 3 (.tmp 3)) 10 true) rfl rfl trivial ?_
  refine pX 20 10 true ?_
  refine yAf 21 16 20 ?_
  refine yA 5 21 ?_
  refine Sch.nil ?_
  refine run_ret1 (by kernel_rfl) Tryz.func93 Tryz.results93 rfl ?_
  exact ⟨by unfold isS; rw [decide_eq_false (fun e => hA e.1)], hT.out1 (by decide)⟩
namespace F120
noncomputable def c0 := bodyOf Tryz.f120
noncomputable def c7 := (cl (cl (cr (cl (cr c0)))))
noncomputable def c16 := (cl (cl (cl (cr (cr c7)))))
noncomputable def c17 := (cr (cl (cl (cr (cr c7)))))
end F120
theorem indexS_ok {w₀ : World} {C : Nat → Nat} {l : List Shw} {vl : Value} {r : Couple} {ver fld : Int} {b1 b2 b3 : Nat} (hF : Lim w₀ C) (hl : RV w₀ (Mc C) l vl) (h1 : RA w₀ (Mc C) r b1 0) (h2 : RA w₀ (Mc C) ver b2 0) (h3 : RA w₀ (Mc C) fld b3 0) : Calls Tryz.prog 120 #[vl, .func (.func 93) #[] #[.pointer (some ⟨b1, 0, none⟩), .pointer (some ⟨b2, 0, none⟩), .pointer (some ⟨b3, 0, none⟩)]] w₀ (Ret fun v w' => v = .int .i64 (idxOf (isS r ver fld) l) ∧ Stp [] w₀ C w' C) := by
 have hF0 := hF
 have hT := Stp.refl [2, 3, 4, 5, 6, 7, 8, 9] w₀ (col1 C)
 replace hF := hF.col1
 replace h1 := (show RA w₀ (Mc (col1 C)) r b1 0 from by rw [Mc_col1]; exact h1)
 replace h2 := (show RA w₀ (Mc (col1 C)) ver b2 0 from by rw [Mc_col1]; exact h2)
 replace h3 := (show RA w₀ (Mc (col1 C)) fld b3 0 from by rw [Mc_col1]; exact h3)
 replace hl : RV w₀ (Mc (col1 C)) l vl := by rw [Mc_col1]; exact hl
 refine calls_start (c := F120.c0) (N := 19) [vl, .func (.func 93) #[] #[.pointer (some ⟨b1, 0, none⟩), .pointer (some ⟨b2, 0, none⟩), .pointer (some ⟨b3, 0, none⟩)]] Tryz.func120 (by kernel_rfl) (by kernel_rfl) (by kernel_rfl) ?_
 show Run _ _ _ _ [(0, vl), (1, .func (.func 93) #[] #[.pointer (some ⟨b1, 0, none⟩), .pointer (some ⟨b2, 0, none⟩), .pointer (some ⟨b3, 0, none⟩)])] _ _
 refine run_sq ?_
 refine run_pl [yy 0] ?_
 refine yAc 4 (.int .i64 0) ?_
 refine Sch.nil ?_
 refine run_sq ?_
 refine run_sq ?_
 refine run_pl [yy 0, yy 1, yy 2] ?_
 refine yM 6 0 ?_
 refine yS (kq 7 (.call { callee := .builtin .len, args := #[(.tmp 6)], argTypes := #[23] })) rfl rfl (fun w' hS => hl.lenV rfl Tryz.underlying23 w' ) ?_
 refine yV (kq 8 (.move (.const (.int .i64 0)))) (fun _ => val_move rfl) ?_
 refine Sch.nil ?_
 refine run_bk 0 ?_
 
 refine run_lp (ι := Nat × (Nat → Nat)) (I := fun x w => x.1 ≤ l.length ∧ (∀ i (hi : i < x.1) (hl : i < l.length), isS r ver fld l[i] = false) ∧ Lim w x.2 ∧ Stp [2, 3, 4, 5, 6, 7, 8, 9] w₀ (col1 C) w x.2 ∧ RV w (Mc x.2) l vl ∧ RA w (Mc x.2) r b1 0 ∧ RA w (Mc x.2) ver b2 0 ∧ RA w (Mc x.2) fld b3 0) (e := fun x => [(0, vl), (1, .func (.func 93) #[] #[.pointer (some ⟨b1, 0, none⟩), .pointer (some ⟨b2, 0, none⟩), .pointer (some ⟨b3, 0, none⟩)]), (7, .int .i64 l.length), (8, .int .i64 x.1)]) (m := fun x => l.length - x.1) (x₀ := (0, col1 C)) (sr 0 (sr 1 (sr 7 (sr 8 (sub_nil _))))) ?_ ?_
 · exact ⟨Nat.zero_le _, fun i hi _ => by simp only at hi; omega, hF, hT, hl, h1, h2, h3⟩
 intro ⟨k, C1⟩ w1 hI next
 obtain ⟨hk, h0, hF, hT, hl, h1, h2, h3⟩ := hI
 try simp only at hk h0 hF hT hl h1 h2 h3
 have next1 := next
 clear next
 show Run _ _ _ _ [(0, vl), (1, .func (.func 93) #[] #[.pointer (some ⟨b1, 0, none⟩), .pointer (some ⟨b2, 0, none⟩), .pointer (some ⟨b3, 0, none⟩)]), (7, .int .i64 l.length), (8, .int .i64 k)] _ _
 have hle := hl.le
 refine run_sq ?_
 refine run_pl [yy 0] ?_
 refine yV (kq 9 (.binOp .lss 3 (.tmp 8) (.tmp 7) 3)) (fun _ => val_lss rfl rfl) ?_
 refine Sch.nil ?_
 refine run_sq ?_
 refine run_i 9 rfl (fun h9 => ?_) (fun h9 => ?_)
 ·
  have hkl : k < l.length := by omega
  refine run_sk ?_
  refine run_sq ?_
  refine run_bk 1 ?_
  refine run_sq ?_
  refine run_pl [yy 0, yy 1] ?_
  refine yM 10 8 ?_
  refine yA 5 10 ?_
  refine Sch.nil ?_
  refine run_sq ?_
  refine run_pl [yy 0, yy 1, yy 2, yy 3, nn 4, nn 5] ?_
  refine yM 11 1 ?_
  refine yM 12 0 ?_
  refine yM 13 5 ?_
  refine iS (e := 50) (kq 14 (.indexAddr 23 (.tmp 12) (.tmp 13))) rfl rfl hl rfl (by kernel_rfl) rfl (by omega) (by omega) ?_
  intro b14 o14 h14
  try simp only [Int.toNat_natCast] at h14
  refine lNA (kq 15 (.load 50 (.tmp 14))) rfl rfl trivial h14 (by kernel_rfl) (by kernel_rfl) rfl rfl ?_
  intro v15 g15
  obtain rfl := rv_shw.1 g15
  refine cS (kq 16 (.call { callee := .value (.tmp 11), args := #[(.tmp 15)], argTypes := #[50] })) rfl rfl (enters_func (fun args w => Tryz.call93 args w) rfl rfl) (isS_ok hF h1 h2 h3) ?_
  rintro vw2 w2 ⟨rfl, hs⟩
  refine ⟨trivial, ?_⟩
  replace hF := hF.st hs
  replace hT := hT.t hs; replace hl := hl.t hs; replace h1 := h1.t hs; replace h2 := h2.t hs; replace h3 := h3.t hs; replace h14 := h14.t hs
  refine Sch.nil ?_
  refine run_c 16 rfl (fun h16 => ?_) (fun h16 => ?_)
  ·
   refine run_sq ?_
   refine run_pl [yy 0, yy 1] ?_
   refine yM 17 5 ?_
   refine yA 4 17 ?_
   refine Sch.nil ?_
   refine run_ret1 (by kernel_rfl) Tryz.func120 Tryz.results120 rfl ?_
   exact ⟨by rw [idxOf_at hkl (fun i hi => h0 i hi (by omega)) h16], hT.out1 (by decide)⟩
  ·
   have h02 : ∀ i (hi : i < k + 1) (hl : i < l.length), isS r ver fld l[i] = false := by
     intro i hi hl
     by_cases e : i = k
     · subst e; exact h16
     · exact h0 i (by omega) hl
   refine run_sk ?_
   refine run_inBlock ?_
   refine run_pl [yy 0, yy 1] ?_
   refine yV (kq 18 (.binOp .add 3 (.tmp 8) (.const (.int .i64 1)) 3)) (fun _ => val_addi rfl rfl (by omega) (by omega)) ?_
   refine yM 8 18 ?_
   refine Sch.nil ?_
   refine kp (sub_cons 0 rfl rfl (sub_cons 1 rfl rfl (sub_cons 7 rfl rfl (sub_cons 8 rfl (eq_int (by simp)) (sub_nil _))))) (next1 (k + 1, C1) _ ⟨(by first | omega | (simp only; omega)), h02, hF, hT, hl, h1, h2, h3⟩ (by first | omega | (simp only; omega)))
 ·
  have hkl : k = l.length := by omega
  refine run_ex 0 ?_
  refine run_sq ?_
  refine run_pl [yy 0] ?_
  refine yV (kq 4 (.assign (.const (.int .i64 (-1))))) (fun _ => val_assign rfl) ?_
  refine Sch.nil ?_
  refine run_ret1 (by kernel_rfl) Tryz.func120 Tryz.results120 rfl ?_
  exact ⟨by rw [idxOf_none (fun i hi => h0 i (by omega) hi)], hT.out1 (by decide)⟩
namespace F92
noncomputable def c0 := bodyOf Tryz.f92
end F92
theorem containsS_ok {w₀ : World} {C : Nat → Nat} {l : List Shw} {vl : Value} {r : Couple} {ver fld : Int} {b1 b2 b3 : Nat} (hF : Lim w₀ C) (hl : RV w₀ (Mc C) l vl) (h1 : RA w₀ (Mc C) r b1 0) (h2 : RA w₀ (Mc C) ver b2 0) (h3 : RA w₀ (Mc C) fld b3 0) : Calls Tryz.prog 92 #[vl, .func (.func 93) #[] #[.pointer (some ⟨b1, 0, none⟩), .pointer (some ⟨b2, 0, none⟩), .pointer (some ⟨b3, 0, none⟩)]] w₀ (Ret fun v w' => v = .bool (hasS l r ver fld) ∧ Stp [] w₀ C w' C) := by
 have hF0 := hF
 have hT := Stp.refl [2, 3, 4, 5, 6, 7, 8, 9] w₀ (col1 C)
 replace hF := hF.col1
 replace h1 := (show RA w₀ (Mc (col1 C)) r b1 0 from by rw [Mc_col1]; exact h1)
 replace h2 := (show RA w₀ (Mc (col1 C)) ver b2 0 from by rw [Mc_col1]; exact h2)
 replace h3 := (show RA w₀ (Mc (col1 C)) fld b3 0 from by rw [Mc_col1]; exact h3)
 replace hl : RV w₀ (Mc (col1 C)) l vl := by rw [Mc_col1]; exact hl
 refine calls_start (c := F92.c0) (N := 9) [vl, .func (.func 93) #[] #[.pointer (some ⟨b1, 0, none⟩), .pointer (some ⟨b2, 0, none⟩), .pointer (some ⟨b3, 0, none⟩)]] Tryz.func92 (by kernel_rfl) (by kernel_rfl) (by kernel_rfl) ?_
 show Run _ _ _ _ [(0, vl), (1, .func (.func 93) #[] #[.pointer (some ⟨b1, 0, none⟩), .pointer (some ⟨b2, 0, none⟩), .pointer (some ⟨b3, 0, none⟩)])] _ _
 refine run_sq ?_
 refine run_pl [yy 0] ?_
 refine yAc 4 (.bool false) ?_
 refine Sch.nil ?_
 refine run_sq ?_
 refine run_pl [yy 0, yy 1, nn 2, yy 3, yy 4] ?_
 refine yM 5 0 ?_
 refine yM 6 1 ?_
 refine cS (kq 7 (.call { callee := .value (.func 120), args := #[(.tmp 5), (.tmp 6)], argTypes := #[23, 130] })) rfl rfl (ent Tryz.call120 rfl) (indexS_ok hF hl h1 h2 h3) ?_
 rintro vw1 w1 ⟨rfl, hs⟩
 refine ⟨trivial, ?_⟩
 replace hF := hF.st hs
 replace hT := hT.t hs; replace hl := hl.t hs; replace h1 := h1.t hs; replace h2 := h2.t hs; replace h3 := h3.t hs
 refine yV (kq 8 (.binOp .geq 3 (.tmp 7) (.const (.int .i64 0)) 3)) (fun _ => val_geq rfl rfl) ?_
 refine yA 4 8 ?_
 refine Sch.nil ?_
 refine run_ret1 (by kernel_rfl) Tryz.func92 Tryz.results92 rfl ?_
 exact ⟨by rw [idxOf_ge]; rfl, hT.out1 (by decide)⟩
namespace F59
noncomputable def c0 := bodyOf Tryz.f59
end F59
/-- 'shown'. -/
theorem shown_ok {w₀ : World} {C : Nat → Nat} {bud : Int} {l : List Shw} {vs vz : Value} {r : Couple} {ver fld : Int} (hF : Lim w₀ C) (hl : RV w₀ (Mc C) l vs) : Calls Tryz.prog 59 #[.agg #[.int .i64 bud, vs, vz], .agg #[.int .i64 r.a, .int .i64 r.b], .int .i64 ver, .int .i64 fld] w₀ (Ret fun v w' => v = .bool (hasS l r ver fld) ∧ Stp [] w₀ C w' C) := by
 have hF0 := hF
 have hT := Stp.refl [2, 3, 4, 5, 6, 7, 8, 9] w₀ (col1 C)
 replace hF := hF.col1
 replace hl : RV w₀ (Mc (col1 C)) l vs := by rw [Mc_col1]; exact hl
 refine calls_start (c := F59.c0) (N := 13) [.agg #[.int .i64 bud, vs, vz], .agg #[.int .i64 r.a, .int .i64 r.b], .int .i64 ver, .int .i64 fld] Tryz.func59 (by kernel_rfl) (by kernel_rfl) (by kernel_rfl) ?_
 show Run _ _ _ _ [(0, .agg #[.int .i64 bud, vs, vz]), (1, .agg #[.int .i64 r.a, .int .i64 r.b]), (2, .int .i64 ver), (3, .int .i64 fld)] _ _
 refine run_sq ?_
 refine run_pl [nn 0, nn 1, nn 2, nn 3, yy 4] ?_
 refine aS (kq 4 (.box 26 (.tmp 0))) rfl rfl (a_box (cs := [.int .i64 bud, vs, vz]) hF 3 rfl rfl) ?_
 rintro _ w1 ⟨Cw1, bw1, rfl, hs, hx, hF⟩
 refine ⟨trivial, ?_⟩
 replace hT := hT.t hs; replace hl := hl.t hs
 refine aS (kq 5 (.box 32 (.tmp 1))) rfl rfl (a_box (cs := encR r) hF 4 rfl rfl) ?_
 rintro _ w2 ⟨Cw2, bw2, rfl, hs, hr, hF⟩
 refine ⟨trivial, ?_⟩
 replace hT := hT.t hs; replace hl := hl.t hs; replace hx := hx.t hs
 refine aS (kq 6 (.box 3 (.tmp 2))) rfl rfl (a_box (cs := [.int .i64 ver]) hF 5 rfl rfl) ?_
 rintro _ w3 ⟨Cw3, bw3, rfl, hs, hv, hF⟩
 refine ⟨trivial, ?_⟩
 replace hT := hT.t hs; replace hl := hl.t hs; replace hx := hx.t hs; replace hr := hr.t hs
 refine aS (kq 7 (.box 3 (.tmp 3))) rfl rfl (a_box (cs := [.int .i64 fld]) hF 6 rfl rfl) ?_
 rintro _ w4 ⟨Cw4, bw4, rfl, hs, hf, hF⟩
 refine ⟨trivial, ?_⟩
 replace hT := hT.t hs; replace hl := hl.t hs; replace hx := hx.t hs; replace hr := hr.t hs; replace hv := hv.t hs
 refine yAc 8 (.bool false) ?_
 refine Sch.nil ?_
 refine run_sq ?_
 refine run_pl [yy 0, nn 1, yy 2, nn 3, yy 4] ?_
 refine yF 9 26 4 1 1 ?_
 refine nS (kq 10 (.load 23 (.tmp 9))) rfl rfl trivial (val_loadOwn hx.at_ (by kernel_rfl) rfl rfl) ?_
 refine yV (kq 11 (.makeFunc (.func 93) #[] #[(.tmp 5), (.tmp 6), (.tmp 7)])) (fun _ => val_makeFunc rfl rfl) ?_
 have h1 := hr.fra (n := 3) (x := r) (by decide) (rep_couple.2 rfl)
 have h2 := hv.fra (n := 3) (x := ver) (by decide) rv_ver
 have h3 := hf.fra (n := 3) (x := fld) (by decide) rv_ver
 replace hF := hF.frz 3
 replace hT := hT.frz (n := 3) (fun b => Nat.lt_of_lt_of_le (col1_lt2 C b) (by decide))
 replace hl := hl.frz 3
 refine cS (kq 12 (.call { callee := .value (.func 92), args := #[(.tmp 10), (.tmp 11)], argTypes := #[23, 130] })) rfl rfl (ent Tryz.call92 rfl) (containsS_ok hF hl h1 h2 h3) ?_
 rintro vw5 w5 ⟨rfl, hs⟩
 refine ⟨trivial, ?_⟩
 replace hF := hF.st hs
 replace hT := hT.t hs; replace hl := hl.t hs
 refine yA 8 12 ?_
 refine Sch.nil ?_
 refine run_ret1 (by kernel_rfl) Tryz.func59 Tryz.results59 rfl ?_
 exact ⟨rfl, hT.out1 (by decide)⟩
end Go.Proofs.YtionghonhnedgaaGreat
