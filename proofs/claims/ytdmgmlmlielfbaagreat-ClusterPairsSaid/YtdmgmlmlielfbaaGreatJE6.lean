/- Steps through functions of the program. -/
import Derived.Test.YtdmgmlmlielfbaaGreatJE5
set_option linter.unusedVariables false
set_option linter.unusedSimpArgs false
set_option maxRecDepth 100000
set_option maxHeartbeats 4000000
namespace Go.Proofs.YtdmgmlmlielfbaaGreat
open Go.K Go.K.Rep
noncomputable section
namespace F60
def c0 := bodyOf Tryz.f60
end F60
theorem value1_ok {w₀ : World} {C : Nat → Nat} {b : Bond} {x : List Couple} {vx : Value} {b1 : Nat} (hF : Lim w₀ C) (hx : RV w₀ (Mc C) x vx) (h1 : w₀.heap[b1]? = some (.cells (encB b).toArray 49)) : Calls Tryz.prog 60 #[vx, .pointer (some ⟨b1, 0, none⟩)] w₀ (Ret fun v w' => v = .bool (insideB b x) ∧ Stp [] w₀ C w' C) := by
 have hF0 := hF
 have hT := Stp.refl [2, 3, 4, 5, 6, 7, 8, 9] w₀ (col1 C)
 replace hF := hF.col1
 replace hx := hx.c1
 replace h1 := Low.of h1 C
 refine c_st F60.c0 14 [vx, .pointer (some ⟨b1, 0, none⟩)] Tryz.func60 ?_
 show Run _ _ _ _ [(0, vx), (1, .pointer (some ⟨b1, 0, none⟩))] _ _
 refine run_sq (run_pl [yy 0] ?_)
 refine yAc 3 (.bool false) ?_
 refine Sch.nil (run_sq ?_)
 by_cases hA : b.A ∈ x
 ·
  by_cases hB : b.B ∈ x
  ·
   refine run_pl [yy 0, yy 1, nn 2, nn 3, yy 4, yy 5, yy 6, nn 7, nn 8, yy 9, yy 10] ?_
   refine yM 4 0 ?_
   refine yF 5 49 1 0 0 ?_
   refine nS (kq 6 (.load 47 (.tmp 5))) rfl rfl trivial (val_loadOwnAgg (n := 2) (vs := encR b.A) h1.at_ (by kernel_rfl) (by kernel_rfl) rfl rfl rfl) ?_
   refine cG 7 61 [4, 6] [53, 47] Tryz.call61 rfl (contains_ok (c := b.A) hF hx) ?_
   rintro vw1 w1 ⟨rfl, s_1⟩
   rw [any_dec, decide_eq_true hA]
   refine yM 8 7 ?_
   refine yMg 9 0 4 true ?_
   refine yFg 10 49 1 1 2 4 true ?_
   replace h1 := h1.t s_1
   refine nS (kg 11 (.load 47 (.tmp 10)) 4 true) rfl rfl trivial (val_loadOwnAgg (n := 2) (vs := encR b.B) h1.at_ (by kernel_rfl) (by kernel_rfl) rfl rfl rfl) ?_
   replace hF := hF.st s_1; replace hx := hx.t s_1
   refine cT (kg 12 (.call { callee := .value (.func 61), args := #[(.tmp 9), (.tmp 11)], argTypes := #[53, 47] }) 4 true) rfl rfl (ent Tryz.call61 rfl) (contains_ok (c := b.B) hF hx) ?_
   rintro vw2 w2 ⟨rfl, s_2⟩
   rw [any_dec, decide_eq_true hB]
   refine yAt 13 8 12 ?_
   refine yA 3 13 ?_
   refine Sch.nil ?_
   refine rt1 Tryz.func60 Tryz.results60 ?_
   replace hT := (hT.t s_1).t s_2
   exact ⟨by rw [insideB_and, decide_eq_true hA, decide_eq_true hB]; rfl, hT.out1 (by decide)⟩
  refine run_pl [yy 0, yy 1, nn 2, nn 3, yy 4, yy 5, yy 6, nn 7, nn 8, yy 9, yy 10] ?_
  refine yM 4 0 ?_
  refine yF 5 49 1 0 0 ?_
  refine nS (kq 6 (.load 47 (.tmp 5))) rfl rfl trivial (val_loadOwnAgg (n := 2) (vs := encR b.A) h1.at_ (by kernel_rfl) (by kernel_rfl) rfl rfl rfl) ?_
  refine cG 7 61 [4, 6] [53, 47] Tryz.call61 rfl (contains_ok (c := b.A) hF hx) ?_
  rintro vw3 w3 ⟨rfl, s_3⟩
  rw [any_dec, decide_eq_true hA]
  refine yM 8 7 ?_
  refine yMg 9 0 4 true ?_
  refine yFg 10 49 1 1 2 4 true ?_
  replace h1 := h1.t s_3
  refine nS (kg 11 (.load 47 (.tmp 10)) 4 true) rfl rfl trivial (val_loadOwnAgg (n := 2) (vs := encR b.B) h1.at_ (by kernel_rfl) (by kernel_rfl) rfl rfl rfl) ?_
  replace hF := hF.st s_3; replace hx := hx.t s_3
  refine cT (kg 12 (.call { callee := .value (.func 61), args := #[(.tmp 9), (.tmp 11)], argTypes := #[53, 47] }) 4 true) rfl rfl (ent Tryz.call61 rfl) (contains_ok (c := b.B) hF hx) ?_
  rintro vw4 w4 ⟨rfl, s_4⟩
  rw [any_dec, decide_eq_false hB]
  refine yAt 13 8 12 ?_
  refine yA 3 13 ?_
  refine Sch.nil ?_
  refine rt1 Tryz.func60 Tryz.results60 ?_
  replace hT := (hT.t s_3).t s_4
  exact ⟨by rw [insideB_and, decide_eq_true hA, decide_eq_false hB]; rfl, hT.out1 (by decide)⟩
 refine run_pl [yy 0, yy 1, nn 2, nn 3, yy 4, yy 5, yy 6, nn 7, nn 8, yy 9, yy 10] ?_
 refine yM 4 0 ?_
 refine yF 5 49 1 0 0 ?_
 refine nS (kq 6 (.load 47 (.tmp 5))) rfl rfl trivial (val_loadOwnAgg (n := 2) (vs := encR b.A) h1.at_ (by kernel_rfl) (by kernel_rfl) rfl rfl rfl) ?_
 refine cG 7 61 [4, 6] [53, 47] Tryz.call61 rfl (contains_ok (c := b.A) hF hx) ?_
 rintro vw5 w5 ⟨rfl, s_5⟩
 rw [any_dec, decide_eq_false hA]
 refine yM 8 7 ?_
 refine pX 9 4 true ?_
 refine pX 10 4 true ?_
 refine pW (kg 11 (.load 47 (.tmp 10)) 4 true) rfl rfl trivial ?_
 refine pW (kg 12 (.call { callee := .value (.func 61), args := #[(.tmp 9), (.tmp 11)], argTypes := #[53, 47] }) 4 true) rfl rfl trivial ?_
 refine yAf 13 8 12 ?_
 refine yA 3 13 ?_
 refine Sch.nil ?_
 refine rt1 Tryz.func60 Tryz.results60 ?_
 replace hT := hT.t s_5
 exact ⟨by rw [insideB_and, decide_eq_false hA]; rfl, hT.out1 (by decide)⟩
namespace F28
def c0 := bodyOf Tryz.f28
end F28
theorem value_ok {w₀ : World} {C : Nat → Nat} {l : List Bond} {ps : List (List Couple)} {vl vp : Value} (hF : Lim w₀ C) (hl : RV w₀ (Mc C) l vl) (hp : RV w₀ (Mc C) ps vp) (hw : ∀ x ∈ l, 1 ≤ x.w ∧ x.w ≤ 1048576) (hlen : l.length ≤ 4096) : Calls Tryz.prog 28 #[vl, vp] w₀ (Ret fun v w' => v = .int .i64 (valueB l ps) ∧ Stp [] w₀ C w' C) := by
 have hF0 := hF
 have hT := Stp.refl [2, 3, 4, 5, 6, 7, 8, 9] w₀ (col1 C)
 replace hF := hF.col1
 replace hl := hl.c1
 replace hp := hp.c1
 refine c_st F28.c0 23 [vl, vp] Tryz.func28 ?_
 show Run _ _ _ _ [(0, vl), (1, vp)] _ _
 refine run_sq (run_pl [yy 0] ?_)
 refine yAc 4 (.int .i64 0) ?_
 refine Sch.nil (run_sq (run_pl [yy 0] ?_))
 refine yAc 5 (.int .i64 0) ?_
 refine Sch.nil (run_sq (run_sq (run_pl [yy 0, yy 1, yy 2] ?_)))
 refine yM 8 0 ?_
 refine yS (kq 9 (.call { callee := .builtin .len, args := #[(.tmp 8)], argTypes := #[23] })) rfl rfl (fun w' hS => hl.lenV rfl Tryz.underlying23 w' ) ?_
 refine yC 10 (.int .i64 0) ?_
 refine Sch.nil (run_bk 0 ?_)
 refine run_lp (ι := Nat × (Nat → Nat)) (I := fun x w => x.1 ≤ l.length ∧ Lim w x.2 ∧ Stp [2, 3, 4, 5, 6, 7, 8, 9] w₀ (col1 C) w x.2 ∧ RV w (Mc x.2) l vl ∧ RV w (Mc x.2) ps vp) (e := fun x => [(1, vp), (5, .int .i64 (valueB (l.take x.1) ps)), (8, vl), (9, .int .i64 l.length), (10, .int .i64 x.1)]) (m := fun x => l.length - x.1) (x₀ := (0, col1 C)) (sr 1 (sub_cons 5 rfl (eq_int (by simp [valueB])) (sr 8 (sr 9 (sr 10 (sub_nil _)))))) ?_ ?_
 · exact ⟨Nat.zero_le _, hF, hT, hl, hp⟩
 intro ⟨k, C1⟩ w1 hI next1
 obtain ⟨hk, hF, hT, hl, hp⟩ := hI
 try simp only at hk hF hT hl hp
 show Run _ _ _ _ [(1, vp), (5, .int .i64 (valueB (l.take k) ps)), (8, vl), (9, .int .i64 l.length), (10, .int .i64 k)] _ _
 have hle := hl.le
 obtain ⟨hb1, hb2⟩ := valueB_b hw ps k hk
 refine run_sq (run_pl [yy 0] ?_)
 refine yL 11 3 10 9 ?_
 refine Sch.nil (run_sq ?_)
 refine run_i 11 rfl (fun h11 => ?_) (fun h11 => ?_)
 ·
  have hkl : k < l.length := by omega
  have hvt := valueB_take hkl ps
  have hwk := hw _ (List.getElem_mem hkl)
  refine run_sk (run_sq (run_bk 1 (run_sq (run_pl [yy 0, nn 1, nn 2, nn 3] ?_))))
  refine iR 49 12 23 8 10 hl rfl (h := ?_)
  intro b12 o12 h12
  try simp only [Int.toNat_natCast] at h12
  refine lNA (kq 13 (.load 49 (.tmp 12))) rfl rfl trivial h12 (by kernel_rfl) (by kernel_rfl) rfl rfl ?_
  intro v13 g13
  obtain rfl := rv_bond.1 g13
  refine aT (kq 7 (.alloc 49)) rfl rfl (a_alloc (cs := [.int .i64 0, .int .i64 0, .int .i64 0, .int .i64 0, .int .i64 0]) hF 4 (by kernel_rfl)) ?_
  rintro _ w2 ⟨Cw2, bw2, rfl, s_1, hb, hF⟩
  refine aU (k0 (.store 49 (.tmp 7) (.tmp 13))) rfl (a_storeAll (vs := encB (l[k]'hkl)) (n := 5) rfl rfl (by kernel_rfl) rfl rfl (by intro u hu; simp only [encB, List.mem_cons, List.not_mem_nil, or_false] at hu; rcases hu with rfl | rfl | rfl | rfl | rfl <;> rfl) hb rfl) ?_
  rintro _ w3 ⟨rfl, s_2, hb⟩
  refine Sch.nil (run_sq (run_pl [yy 0, yy 1, nn 2] ?_))
  refine yM 14 1 ?_
  refine yV (kq 15 (.makeFunc (.func 60) #[] #[(.tmp 7)])) (fun _ => val_makeFunc rfl rfl) ?_
  replace hF := hF.st s_2
  have hcl : ∀ w1, Stp [] _ (Cw2) w1 (Cw2) → ∀ x ∈ ps, ∀ vx, RV w1 (Mc (Cw2)) x vx → Calls Tryz.prog 60 ([vx] ++ #[Value.pointer (some ⟨bw2, 0, none⟩)].toList).toArray w1 (Ret fun v w' => v = .bool (insideB (l[k]'hkl) x) ∧ Stp [] w1 (Cw2) w' (Cw2)) := fun w1 h1 x _ vx hx => value1_ok (hF.st h1) hx (h1.same hb.at_)
  replace hp := (hp.t s_1).t s_2
  refine cG 16 59 [14, 15] [25, 86] Tryz.call59 rfl (containsL_ok (p := insideB (l[k]'hkl)) (nf := 60) (caps := #[Value.pointer (some ⟨bw2, 0, none⟩)]) (fun args w => Tryz.call60 args w) hcl hF hp) ?_
  rintro vw4 w4 ⟨rfl, s_3⟩
  refine Sch.nil ?_
  refine run_c 16 rfl (fun h16 => ?_) (fun h16 => ?_)
  ·
   rw [if_pos h16] at hvt
   refine run_pl [yy 0, yy 1, nn 2, yy 3, yy 4] ?_
   refine yM 17 5 ?_
   refine yF 18 49 7 2 4 ?_
   replace hb := hb.t s_3
   refine nO 19 3 18 hb.at_ rfl rfl ?_
   refine yV (kq 20 (.binOp .add 3 (.tmp 17) (.tmp 19) 3)) (fun _ => val_addi rfl rfl (by omega) (by omega)) ?_
   refine yA 5 20 ?_
   refine Sch.nil (run_inBlock (run_pl [yy 0, yy 1] ?_))
   refine yI 21 3 10 1 ?_
   refine yM 10 21 ?_
   refine Sch.nil ?_
   replace hT := ((hT.t s_1).t s_2).t s_3; replace hl := ((hl.t s_1).t s_2).t s_3; replace hF := hF.st s_3; replace hp := hp.t s_3
   refine kp (sr 1 (sub_cons 5 rfl (eq_int (by simp only; omega)) (sr 8 (sr 9 (sub_cons 10 rfl (eq_int (by simp)) (sub_nil _)))))) (next1 (k + 1, Cw2) _ ⟨(by first | omega | (simp only; omega)), hF, hT, hl, hp⟩ (by first | omega | (simp only; omega)))
  rw [if_neg (by rw [h16]; decide)] at hvt
  refine run_sk (run_inBlock (run_pl [yy 0, yy 1] ?_))
  refine yI 21 3 10 1 ?_
  refine yM 10 21 ?_
  refine Sch.nil ?_
  replace hT := ((hT.t s_1).t s_2).t s_3; replace hl := ((hl.t s_1).t s_2).t s_3; replace hF := hF.st s_3; replace hp := hp.t s_3
  refine kp (sr 1 (sub_cons 5 rfl (eq_int (by simp only; omega)) (sr 8 (sr 9 (sub_cons 10 rfl (eq_int (by simp)) (sub_nil _)))))) (next1 (k + 1, Cw2) _ ⟨(by first | omega | (simp only; omega)), hF, hT, hl, hp⟩ (by first | omega | (simp only; omega)))
 have hkl : k = l.length := by omega
 refine run_ex 0 ?_
 refine run_sq (run_pl [yy 0, yy 1] ?_)
 refine yM 22 5 ?_
 refine yA 4 22 ?_
 refine Sch.nil ?_
 refine rt1 Tryz.func28 Tryz.results28 ?_
 exact ⟨by rw [hkl, valueB_all], hT.out1 (by decide)⟩
end
end Go.Proofs.YtdmgmlmlielfbaaGreat
