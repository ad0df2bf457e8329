/- Steps through functions of the program. -/
import Derived.Test.YtionghonhnedgaaGreatJVK
set_option linter.unusedVariables false
set_option linter.unusedSimpArgs false
set_option maxRecDepth 100000
set_option maxHeartbeats 4000000
namespace Go.Proofs.YtionghonhnedgaaGreat
open Go.K Go.K.Rep

namespace F68
noncomputable def c0 := bodyOf Tryz.f68
noncomputable def c8 := (cl (cl (cr (cr (cr c0)))))
noncomputable def c19 := (cl (cr (cl (cr (cl c8)))))
noncomputable def o5 := rops c19
noncomputable def c20 := (cr (cr (cl (cr (cl c8)))))
noncomputable def c24 := (cl (cr (cr (cr (cr c0)))))
noncomputable def o8 := rops c24
end F68
/-- 'slices.BinarySearchFunc' of decisions. -/
theorem bsD_ok {w₀ : World} {C : Nat → Nat} {l : List Dcs} {y : Dcs} {vl : Value} (hF : Lim w₀ C) (hl : RV w₀ (Mc C) l vl) (ha1 : ∀ i (h : i + 1 < l.length), cmpD l[i] l[i + 1] < 0) (h62 : (l.length : Int) ≤ 4611686018427387904) :
    Calls Tryz.prog 68 #[vl, .agg (encD y).toArray, .func (.func 69) #[] #[]] w₀ (Ret fun v w' => ∃ (k : Nat) (b : Bool), v = .tuple #[.int .i64 k, .bool b] ∧ Stp [] w₀ C w' C ∧ BSD l y k k ∧ (b = true → ∃ hk : k < l.length, cmpD l[k] y = 0) ∧ (b = false → ¬ ∃ hk : k < l.length, cmpD l[k] y = 0)) := by
 have hF0 := hF
 have hT := Stp.refl [2, 3, 4, 5, 6, 7, 8, 9] w₀ (col1 C)
 replace hF := hF.col1
 replace hl : RV w₀ (Mc (col1 C)) l vl := by rw [Mc_col1]; exact hl
 refine calls_start (c := F68.c0) (N := 49) [vl, .agg (encD y).toArray, .func (.func 69) #[] #[]] Tryz.func68 (by kernel_rfl) (by kernel_rfl) (by kernel_rfl) ?_
 show Run _ _ _ _ [(0, vl), (1, .agg (encD y).toArray), (2, .func (.func 69) #[] #[])] _ _
 refine run_sq ?_
 refine run_pl [nn 0, yy 1, yy 2] ?_
 refine aS (kq 4 (.box 75 (.tmp 1))) rfl rfl (a_box (cs := encD y) hF 3 rfl rfl) ?_
 rintro _ w1 ⟨Cw1, bw1, rfl, hs, hy, hF⟩
 refine ⟨trivial, ?_⟩
 replace hT := hT.t hs; replace hl := hl.t hs
 refine yAc 6 (.int .i64 0) ?_
 refine yAc 7 (.bool false) ?_
 refine Sch.nil ?_
 refine run_sq ?_
 refine run_pl [yy 0, yy 1, yy 2] ?_
 refine yM 12 0 ?_
 refine yS (kq 13 (.call { callee := .builtin .len, args := #[(.tmp 12)], argTypes := #[24] })) rfl rfl (fun w' hS => hl.lenV rfl Tryz.underlying24 w' ) ?_
 refine yA 8 13 ?_
 refine Sch.nil ?_
 refine run_sq ?_
 refine run_pl [yy 0, yy 1, yy 2] ?_
 refine yM 14 8 ?_
 refine yAc 9 (.int .i64 0) ?_
 refine yA 10 14 ?_
 refine Sch.nil ?_
 refine run_sq ?_
 refine run_bk 0 ?_
 
 refine run_lp (ι := Nat × Nat × (Nat → Nat)) (I := fun x w => BSD l y x.1 x.2.1 ∧ Lim w x.2.2 ∧ Stp [2, 3, 4, 5, 6, 7, 8, 9] w₀ (col1 C) w x.2.2 ∧ RV w (Mc x.2.2) l vl ∧ OwnB w x.2.2 3 bw1 (.cells (encD y).toArray 75)) (e := fun x => [(0, vl), (2, .func (.func 69) #[] #[]), (4, .pointer (some ⟨bw1, 0, none⟩)), (8, .int .i64 l.length), (9, .int .i64 x.1), (10, .int .i64 x.2.1)]) (m := fun x => x.2.1 - x.1) (x₀ := (0, l.length, Cw1)) (sr 0 (sr 2 (sr 4 (sr 8 (sr 9 (sr 10 (sub_nil _))))))) ?_ ?_
 · exact ⟨BSD.start, hF, hT, hl, hy⟩
 intro ⟨i, j, C1⟩ w2 hI next
 obtain ⟨hbs, hF, hT, hl, hy⟩ := hI
 try simp only at hbs hF hT hl hy
 have next1 := next
 clear next
 show Run _ _ _ _ [(0, vl), (2, .func (.func 69) #[] #[]), (4, .pointer (some ⟨bw1, 0, none⟩)), (8, .int .i64 l.length), (9, .int .i64 i), (10, .int .i64 j)] _ _
 have hle := hl.le
 have hb1 := hbs.ij
 have hb2 := hbs.jl
 refine run_sq ?_
 refine run_sq ?_
 refine run_pl [yy 0, yy 1, yy 2] ?_
 refine yM 15 9 ?_
 refine yM 16 10 ?_
 refine yV (kq 17 (.binOp .lss 3 (.tmp 15) (.tmp 16) 3)) (fun _ => val_lss rfl rfl) ?_
 refine Sch.nil ?_
 refine run_i 17 rfl (fun h17 => ?_) (fun h17 => ?_)
 ·
  have hij : i < j := by omega
  refine run_sk ?_
  refine run_bk 1 ?_
  refine run_sq ?_
  refine run_pl [yy 0, yy 1, yy 2, yy 3, yy 4, yy 5, yy 6] ?_
  refine yM 18 9 ?_
  refine yM 19 10 ?_
  refine yV (kq 20 (.binOp .add 3 (.tmp 18) (.tmp 19) 3)) (fun _ => val_addi rfl rfl (by omega) (by omega)) ?_
  refine yV (kq 21 (.convert 3 73 (.tmp 20))) (fun _ => val_conv_int rfl ⟨_, Tryz.underlying3⟩ Tryz.underlying73) ?_
  refine yV (kq 22 (.binOp .shr 73 (.tmp 21) (.const (.int .u64 1)) 73)) (fun _ => val_shr rfl rfl (by omega)) ?_
  refine yV (kq 23 (.convert 73 3 (.tmp 22))) (fun _ => val_convE rfl ⟨_, Tryz.underlying73⟩ Tryz.underlying3 (half64D (i := i) (j := j) (by omega) (by omega))) ?_
  refine yA 11 23 ?_
  refine Sch.nil ?_
  obtain ⟨k, hk⟩ : ∃ k, k = (i + j) / 2 := ⟨_, rfl⟩
  rw [← hk]
  have hkl : k < l.length := by omega
  refine run_sq ?_
  refine run_draw (id := 5) (ops := F68.o5) [] (C1) [yy 0, yy 1, yy 2, yy 3, yy 4, yy 5, nn 6, yy 7] Tryz_mixed (by kernel_rfl) (by kernel_rfl) (by kernel_rfl) ?_
  intro w3 hs
  replace hF := hF.st hs
  replace hT := hT.t hs; replace hl := hl.t hs; replace hy := hy.t hs
  have hR := Stp.refl [] w3 (C1)
  refine yM 24 2 ?_
  refine yM 25 0 ?_
  refine yM 26 11 ?_
  refine iS (e := 75) (kq 27 (.indexAddr 24 (.tmp 25) (.tmp 26))) rfl rfl hl rfl (by kernel_rfl) rfl (by omega) (by omega) ?_
  intro b27 o27 h27
  try simp only [Int.toNat_natCast] at h27
  refine lSA (kq 28 (.load 75 (.tmp 27))) rfl rfl (fun w' hS => h27.sy hS) h27 (by kernel_rfl) (by kernel_rfl) rfl rfl ?_
  intro v28 g28
  obtain rfl := rv_dcs.1 g28
  refine yS (kq 29 (.load 75 (.tmp 4))) rfl rfl (fun w' hS => val_loadOwnAgg (n := 7) (vs := encD y) (hy.stay hS (by decide)) (by kernel_rfl) (by kernel_rfl) rfl rfl rfl) ?_
  refine cS (kq 30 (.call { callee := .value (.tmp 24), args := #[(.tmp 28), (.tmp 29)], argTypes := #[75, 75] })) rfl rfl (enters_func Tryz.call69 rfl rfl) (decisions_ok (x := l[k]'hkl) (y := y) hF) ?_
  rintro vw4 w4 ⟨rfl, hs⟩
  refine ⟨(hR.trans hs (by simp)).ext, ?_⟩
  replace hF := hF.st hs
  replace hT := hT.t hs; replace hl := hl.t hs; replace hy := hy.t hs; replace hR := hR.t hs; replace h27 := h27.t hs
  refine yV (kq 31 (.binOp .lss 3 (.tmp 30) (.const (.int .i64 0)) 3)) (fun _ => val_lss rfl rfl) ?_
  refine Sch.nil ?_
  refine run_i 31 rfl (fun h31 => ?_) (fun h31 => ?_)
  ·
   refine run_pl [yy 0, yy 1, yy 2] ?_
   refine yM 32 11 ?_
   refine yV (kq 33 (.binOp .add 3 (.tmp 32) (.const (.int .i64 1)) 3)) (fun _ => val_addi rfl rfl (by omega) (by omega)) ?_
   refine yA 9 33 ?_
   refine Sch.nil ?_
   refine run_inBlock ?_
   refine kp (sub_cons 0 rfl rfl (sub_cons 2 rfl rfl (sub_cons 4 rfl rfl (sub_cons 8 rfl rfl (sub_cons 9 rfl (eq_int (by simp)) (sub_cons 10 rfl rfl (sub_nil _))))))) (next1 (k + 1, j, C1) _ ⟨(by simp only; exact hbs.low ha1 (by omega) (by omega) hkl h31), hF, hT, hl, hy⟩ (by first | omega | (simp only; omega)))
  ·
   refine run_pl [yy 0, yy 1] ?_
   refine yM 34 11 ?_
   refine yA 10 34 ?_
   refine Sch.nil ?_
   refine run_inBlock ?_
   refine kp (sub_cons 0 rfl rfl (sub_cons 2 rfl rfl (sub_cons 4 rfl rfl (sub_cons 8 rfl rfl (sub_cons 9 rfl rfl (sub_cons 10 rfl rfl (sub_nil _))))))) (next1 (i, k, C1) _ ⟨(by simp only; exact hbs.high ha1 (by omega) (by omega) hkl h31), hF, hT, hl, hy⟩ (by first | omega | (simp only; omega)))
 ·
  have hij : ¬ i < j := by omega
  obtain rfl : i = j := by omega
  refine run_ex 0 ?_
  refine run_sq ?_
  by_cases hA : i < l.length
  ·
   by_cases hB : cmpD (l[i]'hA) y = 0
   ·
    refine run_draw (id := 8) (ops := F68.o8) [] (C1) [yy 0, yy 1, yy 2, yy 3, yy 4, yy 5, yy 6, yy 7, yy 8, yy 9, yy 10, nn 11, yy 12, yy 13, yy 14, yy 15] Tryz_mixed (by kernel_rfl) (by kernel_rfl) (by kernel_rfl) ?_
    intro w5 hs
    replace hF := hF.st hs
    replace hT := hT.t hs; replace hl := hl.t hs; replace hy := hy.t hs
    have hR := Stp.refl [] w5 (C1)
    refine yM 35 9 ?_
    refine yM 36 9 ?_
    refine yM 37 8 ?_
    refine yV (kq 38 (.binOp .lss 3 (.tmp 36) (.tmp 37) 3)) (fun _ => val_T (val_lss rfl rfl) (by omega : (i : Int) < l.length)) ?_
    refine yM 39 38 ?_
    refine yMg 40 2 4 true ?_
    refine yMg 41 0 4 true ?_
    refine yMg 42 9 4 true ?_
    refine iS (e := 75) (kg 43 (.indexAddr 24 (.tmp 41) (.tmp 42)) 4 true) rfl rfl hl rfl (by kernel_rfl) rfl (by omega) (by omega) ?_
    intro b43 o43 h43
    try simp only [Int.toNat_natCast] at h43
    refine lSA (kg 44 (.load 75 (.tmp 43)) 4 true) rfl rfl (fun w' hS => h43.sy hS) h43 (by kernel_rfl) (by kernel_rfl) rfl rfl ?_
    intro v44 g44
    obtain rfl := rv_dcs.1 g44
    refine yS (kg 45 (.load 75 (.tmp 4)) 4 true) rfl rfl (fun w' hS => val_loadOwnAgg (n := 7) (vs := encD y) (hy.stay hS (by decide)) (by kernel_rfl) (by kernel_rfl) rfl rfl rfl) ?_
    refine cS (kg 46 (.call { callee := .value (.tmp 40), args := #[(.tmp 44), (.tmp 45)], argTypes := #[75, 75] }) 4 true) rfl rfl (enters_func Tryz.call69 rfl rfl) (decisions_ok (x := l[i]'(by omega)) (y := y) hF) ?_
    rintro vw6 w6 ⟨rfl, hs⟩
    refine ⟨(hR.trans hs (by simp)).ext, ?_⟩
    replace hF := hF.st hs
    replace hT := hT.t hs; replace hl := hl.t hs; replace hy := hy.t hs; replace hR := hR.t hs; replace h43 := h43.t hs
    refine yV (kg 47 (.binOp .eql 3 (.tmp 46) (.const (.int .i64 0)) 3) 4 true) (fun _ => val_T (val_eql rfl rfl) hB) ?_
    refine yAt 48 39 47 ?_
    refine yA 6 35 ?_
    refine yA 7 48 ?_
    refine Sch.nil ?_
    refine run_ret2 (by kernel_rfl) Tryz.func68 Tryz.results68 rfl rfl ?_
    exact ⟨i, true, rfl, hT.out1 (by decide), hbs, fun _ => ⟨hA, hB⟩, fun e => by cases e⟩
   ·
    refine run_draw (id := 8) (ops := F68.o8) [] (C1) [yy 0, yy 1, yy 2, yy 3, yy 4, yy 5, yy 6, yy 7, yy 8, yy 9, yy 10, nn 11, yy 12, yy 13, yy 14, yy 15] Tryz_mixed (by kernel_rfl) (by kernel_rfl) (by kernel_rfl) ?_
    intro w7 hs
    replace hF := hF.st hs
    replace hT := hT.t hs; replace hl := hl.t hs; replace hy := hy.t hs
    have hR := Stp.refl [] w7 (C1)
    refine yM 35 9 ?_
    refine yM 36 9 ?_
    refine yM 37 8 ?_
    refine yV (kq 38 (.binOp .lss 3 (.tmp 36) (.tmp 37) 3)) (fun _ => val_T (val_lss rfl rfl) (by omega : (i : Int) < l.length)) ?_
    refine yM 39 38 ?_
    refine yMg 40 2 4 true ?_
    refine yMg 41 0 4 true ?_
    refine yMg 42 9 4 true ?_
    refine iS (e := 75) (kg 43 (.indexAddr 24 (.tmp 41) (.tmp 42)) 4 true) rfl rfl hl rfl (by kernel_rfl) rfl (by omega) (by omega) ?_
    intro b43 o43 h43
    try simp only [Int.toNat_natCast] at h43
    refine lSA (kg 44 (.load 75 (.tmp 43)) 4 true) rfl rfl (fun w' hS => h43.sy hS) h43 (by kernel_rfl) (by kernel_rfl) rfl rfl ?_
    intro v44 g44
    obtain rfl := rv_dcs.1 g44
    refine yS (kg 45 (.load 75 (.tmp 4)) 4 true) rfl rfl (fun w' hS => val_loadOwnAgg (n := 7) (vs := encD y) (hy.stay hS (by decide)) (by kernel_rfl) (by kernel_rfl) rfl rfl rfl) ?_
    refine cS (kg 46 (.call { callee := .value (.tmp 40), args := #[(.tmp 44), (.tmp 45)], argTypes := #[75, 75] }) 4 true) rfl rfl (enters_func Tryz.call69 rfl rfl) (decisions_ok (x := l[i]'(by omega)) (y := y) hF) ?_
    rintro vw8 w8 ⟨rfl, hs⟩
    refine ⟨(hR.trans hs (by simp)).ext, ?_⟩
    replace hF := hF.st hs
    replace hT := hT.t hs; replace hl := hl.t hs; replace hy := hy.t hs; replace hR := hR.t hs; replace h43 := h43.t hs
    refine yV (kg 47 (.binOp .eql 3 (.tmp 46) (.const (.int .i64 0)) 3) 4 true) (fun _ => val_F (val_eql rfl rfl) hB) ?_
    refine yAt 48 39 47 ?_
    refine yA 6 35 ?_
    refine yA 7 48 ?_
    refine Sch.nil ?_
    refine run_ret2 (by kernel_rfl) Tryz.func68 Tryz.results68 rfl rfl ?_
    exact ⟨i, false, rfl, hT.out1 (by decide), hbs, fun e => (by cases e), fun _ ⟨_, e⟩ => hB e⟩
  ·
   refine run_draw (id := 8) (ops := F68.o8) [] (C1) [yy 0, yy 1, yy 2, yy 3, yy 4, yy 5, yy 6, yy 7, yy 8, yy 9, yy 10, nn 11, yy 12, yy 13, yy 14, yy 15] Tryz_mixed (by kernel_rfl) (by kernel_rfl) (by kernel_rfl) ?_
   intro w9 hs
   replace hF := hF.st hs
   replace hT := hT.t hs; replace hl := hl.t hs; replace hy := hy.t hs
   have hR := Stp.refl [] w9 (C1)
   refine yM 35 9 ?_
   refine yM 36 9 ?_
   refine yM 37 8 ?_
   refine yV (kq 38 (.binOp .lss 3 (.tmp 36) (.tmp 37) 3)) (fun _ => val_F (val_lss rfl rfl) (by omega : ¬ (i : Int) < l.length)) ?_
   refine yM 39 38 ?_
   refine pX 40 4 true ?_
   refine pX 41 4 true ?_
   refine pX 42 4 true ?_
   refine pX 43 4 true ?_
   refine pX 44 4 true ?_
   refine pX 45 4 true ?_
   refine pW (kg 46 (.call { callee := .value (.tmp 40), args := #[(.tmp 44), (.tmp 45)], argTypes := #[75, 75] }) 4 true) rfl rfl hR.ext ?_
   refine pX 47 4 true ?_
   refine yAf 48 39 47 ?_
   refine yA 6 35 ?_
   refine yA 7 48 ?_
   refine Sch.nil ?_
   refine run_ret2 (by kernel_rfl) Tryz.func68 Tryz.results68 rfl rfl ?_
   exact ⟨i, false, rfl, hT.out1 (by decide), hbs, fun e => (by cases e), fun _ ⟨e, _⟩ => hA e⟩
end Go.Proofs.YtionghonhnedgaaGreat
