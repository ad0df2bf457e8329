/- Steps through functions of the program. -/
import Derived.Test.YtdmgmlmlielfbaaGreatJE3
import Derived.Test.YtdmgmlmlielfbaaGreatL2
set_option linter.unusedVariables false
set_option linter.unusedSimpArgs false
set_option maxRecDepth 100000
set_option maxHeartbeats 4000000
namespace Go.Proofs.YtdmgmlmlielfbaaGreat
open Go.K Go.K.Rep
noncomputable section
namespace F94
def c0 := bodyOf Tryz.f94
end F94
theorem person1_ok {w₀ : World} {C : Nat → Nat} {ds : List Dcs} {vb vm : Value} {x a : Couple} {b1 b2 : Nat} (hF : Lim w₀ C) (hap : ApM w₀ (Mc C) ds vm) (h1 : w₀.heap[b1]? = some (.cells [vb, vm].toArray 75)) (h2 : w₀.heap[b2]? = some (.cells (encR a).toArray 47)) : Calls Tryz.prog 94 #[kvC x, .pointer (some ⟨b1, 0, none⟩), .pointer (some ⟨b2, 0, none⟩)] w₀ (Ret fun v w' => v = .bool (barB ds x a) ∧ Stp [] w₀ C w' C) := by
 have hF0 := hF
 have hT := Stp.refl [2, 3, 4, 5, 6, 7, 8, 9] w₀ (col1 C)
 replace hF := hF.col1
 replace hap : ApM w₀ (Mc (col1 C)) ds vm := by rw [Mc_col1]; exact hap
 replace h1 := Low.of h1 C
 replace h2 := Low.of h2 C
 refine c_st F94.c0 9 [kvC x, .pointer (some ⟨b1, 0, none⟩), .pointer (some ⟨b2, 0, none⟩)] Tryz.func94 ?_
 show Run _ _ _ _ [(0, kvC x), (1, .pointer (some ⟨b1, 0, none⟩)), (2, .pointer (some ⟨b2, 0, none⟩))] _ _
 refine run_sq (run_pl [nn 0, yy 1] ?_)
 refine aT (kq 3 (.box 47 (.tmp 0))) rfl rfl (a_box (cs := encR x) hF 3 rfl rfl) ?_
 rintro _ w1 ⟨Cw1, bw1, rfl, s_1, hb, hF⟩
 refine yAc 4 (.bool false) ?_
 refine Sch.nil (run_sq (run_pl [nn 0, nn 1, nn 2, nn 3, yy 4] ?_))
 replace h1 := h1.t s_1
 refine nS (kq 5 (.load 75 (.tmp 1))) rfl rfl trivial (val_loadOwnAgg (n := 2) (vs := [vb, vm]) h1.at_ (by kernel_rfl) (by kernel_rfl) rfl rfl rfl) ?_
 refine nS (kq 6 (.load 47 (.tmp 3))) rfl rfl trivial (val_loadOwnAgg (n := 2) (vs := encR x) hb.at_ (by kernel_rfl) (by kernel_rfl) rfl rfl rfl) ?_
 replace h2 := h2.t s_1
 refine nS (kq 7 (.load 47 (.tmp 2))) rfl rfl trivial (val_loadOwnAgg (n := 2) (vs := encR a) h2.at_ (by kernel_rfl) (by kernel_rfl) rfl rfl rfl) ?_
 replace hap := hap.t s_1
 refine cG 8 80 [5, 6, 7] [75, 47, 47] Tryz.call80 rfl (bars_ok (a := x) (b := a) hF hap) ?_
 rintro vw2 w2 ⟨rfl, s_2⟩
 refine yA 4 8 ?_
 refine Sch.nil ?_
 refine rt1 Tryz.func94 Tryz.results94 ?_
 replace hT := (hT.t s_1).t s_2
 exact ⟨rfl, hT.out1 (by decide)⟩
namespace F54
def c0 := bodyOf Tryz.f54
end F54
theorem person_ok {w₀ : World} {C : Nat → Nat} {l : List Bond} {ds : List Dcs} {s : List Couple} {vb vm vs : Value} (hF : Lim w₀ C) (hl : RV w₀ (Mc C) l vb) (hap : ApM w₀ (Mc C) ds vm) (hs0 : RV w₀ (Mc C) s vs) (hlen : s.length ≤ 1000000) : Calls Tryz.prog 54 #[.agg #[vb, vm], vs] w₀ (Ret fun v w' => v = .bool (personB l ds s) ∧ Stp [] w₀ C w' C) := by
 have hF0 := hF
 have hT := Stp.refl [2, 3, 4, 5, 6, 7, 8, 9] w₀ (col1 C)
 replace hF := hF.col1
 replace hl := hl.c1
 replace hs0 := hs0.c1
 replace hap : ApM w₀ (Mc (col1 C)) ds vm := by rw [Mc_col1]; exact hap
 refine c_st F54.c0 26 [.agg #[vb, vm], vs] Tryz.func54 ?_
 show Run _ _ _ _ [(0, .agg #[vb, vm]), (1, vs)] _ _
 refine run_sq (run_pl [nn 0, yy 1] ?_)
 refine aT (kq 2 (.box 75 (.tmp 0))) rfl rfl (a_box (cs := [vb, vm]) hF 3 rfl rfl) ?_
 rintro _ w1 ⟨Cw1, bw1, rfl, s_1, hx, hF⟩
 refine yAc 4 (.bool false) ?_
 refine Sch.nil (run_sq (run_sq (run_pl [yy 0, yy 1, yy 2] ?_)))
 refine yM 7 1 ?_
 replace hs0 := hs0.t s_1
 refine yS (kq 8 (.call { callee := .builtin .len, args := #[(.tmp 7)], argTypes := #[53] })) rfl rfl (fun w' hS => hs0.lenV rfl Tryz.underlying53 w' ) ?_
 refine yV (kq 9 (.binOp .lss 3 (.tmp 8) (.const (.int .i64 2)) 3)) (fun _ => val_lss rfl rfl) ?_
 refine Sch.nil ?_
 refine run_i 9 rfl (fun h9 => ?_) (fun h9 => ?_)
 ·
  refine run_sq (run_pl [yy 0] ?_)
  refine yAc 4 (.bool false) ?_
  refine Sch.nil ?_
  refine rt1 Tryz.func54 Tryz.results54 ?_
  replace hT := hT.t s_1
  exact ⟨by unfold personB; rw [decide_eq_false (by omega)]; rfl, hT.out1 (by decide)⟩
 have h2l : 2 ≤ s.length := by omega
 refine run_sk (run_sq (run_sq (run_pl [yy 0, yy 1, yy 2] ?_)))
 refine yM 10 1 ?_
 refine yS (kq 11 (.call { callee := .builtin .len, args := #[(.tmp 10)], argTypes := #[53] })) rfl rfl (fun w' hS => hs0.lenV rfl Tryz.underlying53 w' ) ?_
 refine yC 12 (.int .i64 0) ?_
 refine Sch.nil (run_bk 0 ?_)
 replace hl := hl.t s_1
 refine run_lp (ι := Nat × (Nat → Nat)) (I := fun x w => x.1 ≤ s.length ∧ (∀ q (hq : q < x.1) (hl : q < s.length), (s.take q).any (fun b => barB ds b s[q]) = false) ∧ Lim w x.2 ∧ Stp [2, 3, 4, 5, 6, 7, 8, 9] w₀ (col1 C) w x.2 ∧ RV w (Mc x.2) l vb ∧ RV w (Mc x.2) s vs ∧ ApM w (Mc x.2) ds vm ∧ OwnB w x.2 3 bw1 (.cells [vb, vm].toArray 75)) (e := fun x => [(1, vs), (2, .pointer (some ⟨bw1, 0, none⟩)), (10, vs), (11, .int .i64 s.length), (12, .int .i64 x.1)]) (m := fun x => s.length - x.1) (x₀ := (0, Cw1)) (sr 1 (sr 2 (sr 10 (sr 11 (sr 12 (sub_nil _)))))) ?_ ?_
 ·
   replace hT := hT.t s_1; replace hap := hap.t s_1
   exact ⟨Nat.zero_le _, fun q hq => by simp only at hq; omega, hF, hT, hl, hs0, hap, hx⟩
 intro ⟨i, C1⟩ w2 hI next1
 obtain ⟨hi, h0, hF, hT, hl, hs0, hap, hx⟩ := hI
 try simp only at hi h0 hF hT hl hs0 hap hx
 show Run _ _ _ _ [(1, vs), (2, .pointer (some ⟨bw1, 0, none⟩)), (10, vs), (11, .int .i64 s.length), (12, .int .i64 i)] _ _
 have hle := hs0.le
 refine run_sq (run_pl [yy 0] ?_)
 refine yL 13 3 12 11 ?_
 refine Sch.nil (run_sq ?_)
 refine run_i 13 rfl (fun h13 => ?_) (fun h13 => ?_)
 ·
  have hil : i < s.length := by omega
  refine run_sk (run_sq (run_bk 1 (run_sq (run_pl [yy 0, yy 1, nn 2, nn 3, yy 4, nn 5] ?_))))
  refine yM 14 12 ?_
  refine iR 47 15 53 10 12 hs0 rfl (h := ?_)
  intro b15 o15 h15
  try simp only [Int.toNat_natCast] at h15
  refine lNA (kq 16 (.load 47 (.tmp 15))) rfl rfl trivial h15 (by kernel_rfl) (by kernel_rfl) rfl rfl ?_
  intro v16 g16
  obtain rfl := rv_couple.1 g16
  refine aT (kq 6 (.alloc 47)) rfl rfl (a_alloc (cs := [.int .i64 0, .int .i64 0]) hF 4 (by kernel_rfl)) ?_
  rintro _ w3 ⟨Cw3, bw3, rfl, s_2, ha, hF⟩
  refine yA 5 14 ?_
  refine aU (k0 (.store 47 (.tmp 6) (.tmp 16))) rfl (a_storeAll (vs := encR (s[i]'hil)) (n := 2) rfl rfl (by kernel_rfl) rfl rfl (by intro u hu; simp only [encR, List.mem_cons, List.not_mem_nil, or_false] at hu; rcases hu with rfl | rfl <;> rfl) ha rfl) ?_
  rintro _ w4 ⟨rfl, s_3, ha⟩
  refine Sch.nil (run_sq (run_pl [yy 0, yy 1, yy 2, yy 3, nn 4] ?_))
  refine yM 17 1 ?_
  refine yM 18 5 ?_
  replace hs0 := (hs0.t s_2).t s_3
  refine sTR (e' := 47) (kq 19 (.slice 53 (.tmp 17) none (some (.tmp 18)) none)) rfl rfl hs0 rfl (by kernel_rfl) rfl (by omega) (by omega) ?_
  intro v19 h19
  try simp only [Int.toNat_natCast] at h19
  refine yV (kq 20 (.makeFunc (.func 94) #[] #[(.tmp 2), (.tmp 6)])) (fun _ => val_makeFunc rfl rfl) ?_
  replace hap := (hap.t s_2).t s_3; replace hx := (hx.t s_2).t s_3; replace hF := hF.st s_3
  have hcl : ∀ w1, Stp [] _ (Cw3) w1 (Cw3) → ∀ x ∈ s.take i, Calls Tryz.prog 94 ([kvC x] ++ #[Value.pointer (some ⟨bw1, 0, none⟩), Value.pointer (some ⟨bw3, 0, none⟩)].toList).toArray w1 (Ret fun v w' => v = .bool (barB ds x (s[i]'hil)) ∧ Stp [] w1 (Cw3) w' (Cw3)) := fun w1 h1 x _ => person1_ok (hF.st h1) (hap.st h1 (by decide)) (h1.same hx.at_) (h1.same ha.at_)
  refine cG 21 77 [19, 20] [53, 114] Tryz.call77 rfl (containsR_ok (p := fun x => barB ds x (s[i]'hil)) (nf := 94) (caps := #[Value.pointer (some ⟨bw1, 0, none⟩), Value.pointer (some ⟨bw3, 0, none⟩)]) (fun args w => Tryz.call94 args w) hcl hF h19) ?_
  rintro vw5 w5 ⟨rfl, s_4⟩
  refine Sch.nil ?_
  refine run_c 21 rfl (fun h21 => ?_) (fun h21 => ?_)
  ·
   have hno := pwB_not hil h21
   refine run_sq (run_pl [yy 0] ?_)
   refine yAc 4 (.bool false) ?_
   refine Sch.nil ?_
   refine rt1 Tryz.func54 Tryz.results54 ?_
   replace hT := ((hT.t s_2).t s_3).t s_4
   exact ⟨by unfold personB; rw [hno]; simp, hT.out1 (by decide)⟩
  skip
  refine run_sk (run_inBlock (run_pl [yy 0, yy 1] ?_))
  refine yI 22 3 12 1 ?_
  refine yM 12 22 ?_
  refine Sch.nil ?_
  replace hT := ((hT.t s_2).t s_3).t s_4; replace hl := ((hl.t s_2).t s_3).t s_4; replace hF := hF.st s_4; replace hs0 := hs0.t s_4; replace hap := hap.t s_4; replace hx := hx.t s_4
  refine kp (sub_cons 1 rfl rfl (sub_cons 2 rfl rfl (sub_cons 10 rfl rfl (sub_cons 11 rfl rfl (sub_cons 12 rfl (eq_int (by simp)) (sub_nil _)))))) (next1 (i + 1, Cw3) _ ⟨(by first | omega | (simp only; omega)), (fun q hq hl2 => by
        simp only at hq
        by_cases e : q = i
        · subst e; exact h21
        · exact h0 q (by omega) hl2), hF, hT, hl, hs0, hap, hx⟩ (by first | omega | (simp only; omega)))
 have hil : i = s.length := by omega
 refine run_ex 0 ?_
 refine run_sq (run_pl [nn 0, yy 1, nn 2, yy 3] ?_)
 have hpw := pwB_upto (fun q hq => h0 q (by omega) hq)
 refine nS (kq 23 (.load 75 (.tmp 2))) rfl rfl trivial (val_loadOwnAgg (n := 2) (vs := [vb, vm]) hx.at_ (by kernel_rfl) (by kernel_rfl) rfl rfl rfl) ?_
 refine yM 24 1 ?_
 refine cG 25 95 [23, 24] [75, 53] Tryz.call95 rfl (joined_ok (vm := vm) hF hl hs0 (by omega) (pw_nodup (pwB_iff.1 hpw)) hlen) ?_
 rintro vw6 w6 ⟨rfl, s_5⟩
 refine yA 4 25 ?_
 refine Sch.nil ?_
 refine rt1 Tryz.func54 Tryz.results54 ?_
 replace hT := hT.t s_5
 exact ⟨by unfold personB; rw [hpw, decide_eq_true h2l]; rfl, hT.out1 (by decide)⟩
end
end Go.Proofs.YtdmgmlmlielfbaaGreat
