/- Steps through functions of the program. -/
import Derived.Test.YtmdhggfehknjjaaGreatJH1
set_option linter.unusedVariables false
set_option linter.unusedSimpArgs false
set_option maxRecDepth 100000
set_option maxHeartbeats 4000000
namespace Go.Proofs.YtmdhggfehknjjaaGreat
open Go.K Go.K.Rep
noncomputable section
namespace F86
def c0 := bodyOf Tryz.f86
end F86
theorem ends_ok {w₀ : World} {C : Nat → Nat} {s : List Couple} {l : List Bond} {vs vl : Value} (hF : Lim w₀ C) (hs0 : RV w₀ (Mc C) s vs) (hl : RV w₀ (Mc C) l vl) (hl4 : l.length ≤ 4096) : Calls Tryz.prog 86 #[vs, vl] w₀ (Ret fun v w' => Stp [] w₀ C w' C ∧ RV w' (Mc C) (endsL s l) v) := by
 have hF0 := hF
 have hT := Stp.refl [2, 3, 4, 5, 6, 7, 8, 9] w₀ (col1 C)
 replace hF := hF.col1
 replace hs0 := hs0.c1
 replace hl := hl.c1
 refine c_st F86.c0 30 [vs, vl] Tryz.func86 ?_
 show Run _ _ _ _ [(0, vs), (1, vl)] _ _
 refine run_sq (run_pl [yy 0] ?_)
 refine yV (kq 4 (.assign (.const (.slice none 0 0)))) (fun _ => val_assign rfl) ?_
 refine Sch.nil (run_sq (run_pl [yy 0] ?_))
 refine yV (kq 5 (.assign (.const (.slice none 0 0)))) (fun _ => val_assign rfl) ?_
 refine Sch.nil (run_sq (run_sq (run_pl [yy 0, yy 1, yy 2] ?_)))
 refine yM 8 1 ?_
 refine yS (kq 9 (.call { callee := .builtin .len, args := #[(.tmp 8)], argTypes := #[23] })) rfl rfl (fun w' hS => hl.lenV rfl Tryz.underlying23 w' ) ?_
 refine yC 10 (.int .i64 0) ?_
 refine Sch.nil (run_bk 0 ?_)
 refine run_lp (ι := Nat × Value × (Nat → Nat)) (I := fun x w => x.1 ≤ l.length ∧ Lim w x.2.2 ∧ Stp [2, 3, 4, 5, 6, 7, 8, 9] w₀ (col1 C) w x.2.2 ∧ RV w (Mc x.2.2) s vs ∧ RV w (Mc x.2.2) l vl ∧ OwnL w x.2.2 4 58 x.2.1 (endsL s (l.take x.1))) (e := fun x => [(0, vs), (5, x.2.1), (8, vl), (9, .int .i64 l.length), (10, .int .i64 x.1)]) (m := fun x => l.length - x.1) (x₀ := (0, .slice none 0 0, col1 C)) (sr 0 (sr 5 (sr 8 (sr 9 (sr 10 (sub_nil _)))))) ?_ ?_
 · exact ⟨Nat.zero_le _, hF, hT, hs0, hl, OwnL.nil⟩
 intro ⟨k, vo, C1⟩ w1 hI next1
 obtain ⟨hk, hF, hT, hs0, hl, ho⟩ := hI
 try simp only at hk hF hT hs0 hl ho
 show Run _ _ _ _ [(0, vs), (5, vo), (8, vl), (9, .int .i64 l.length), (10, .int .i64 k)] _ _
 have hle := hl.le
 have hel := endsL_len (s := s) (l := l) k
 refine run_sq (run_pl [yy 0] ?_)
 refine yL 11 3 10 9 ?_
 refine Sch.nil (run_sq ?_)
 refine run_i 11 rfl (fun h11 => ?_) (fun h11 => ?_)
 ·
  have hkl : k < l.length := by omega
  have hnx := endsL_next (s := s) hkl
  refine run_sk (run_sq (run_bk 1 (run_sq (run_pl [yy 0, nn 1, nn 2, nn 3] ?_))))
  refine iR 58 12 23 8 10 hl rfl (h := ?_)
  intro b12 o12 h12
  try simp only [Int.toNat_natCast] at h12
  refine lNA (kq 13 (.load 58 (.tmp 12))) rfl rfl trivial h12 (by kernel_rfl) (by kernel_rfl) rfl rfl ?_
  intro v13 g13
  obtain rfl := rv_bond.1 g13
  refine aT (kq 7 (.alloc 58)) rfl rfl (a_alloc (cs := [.int .i64 0, .int .i64 0, .int .i64 0, .int .i64 0, .int .i64 0]) hF 5 (by kernel_rfl)) ?_
  rintro _ w2 ⟨Cw2, bw2, rfl, s_1, bx, hF⟩
  refine aU (k0 (.store 58 (.tmp 7) (.tmp 13))) rfl (a_storeAll (vs := encB (l[k]'hkl)) (n := 5) rfl rfl (by kernel_rfl) rfl rfl (by intro u hu; simp only [encB, List.mem_cons, List.not_mem_nil, or_false] at hu; rcases hu with rfl | rfl | rfl | rfl | rfl <;> rfl) bx rfl) ?_
  rintro _ w3 ⟨rfl, s_2, bx⟩
  refine Sch.nil (run_sq ?_)
  by_cases hA : (l[k]'hkl).A ∈ s
  ·
   refine run_pl [yy 0, yy 1, nn 2, nn 3, yy 4, yy 5, yy 6, nn 7, nn 8, yy 9] ?_
   refine yM 14 0 ?_
   refine yF 15 58 7 0 0 ?_
   refine nS (kq 16 (.load 55 (.tmp 15))) rfl rfl trivial (val_loadOwnAgg (n := 2) (vs := encR (l[k]'hkl).A) bx.at_ (by kernel_rfl) (by kernel_rfl) rfl rfl rfl) ?_
   replace hs0 := (hs0.t s_1).t s_2; replace hF := hF.st s_2
   refine cG 17 49 [14, 16] [52, 55] Tryz.call49 rfl (contains_ok (c := (l[k]'hkl).A) hF hs0) ?_
   rintro vw4 w4 ⟨rfl, s_3⟩
   rw [any_dec, decide_eq_true hA]
   refine yM 18 17 ?_
   refine pX 19 4 false ?_
   refine pX 20 4 false ?_
   refine pW (kg 21 (.load 55 (.tmp 20)) 4 false) rfl rfl trivial ?_
   refine pW (kg 22 (.call { callee := .value (.func 49), args := #[(.tmp 19), (.tmp 21)], argTypes := #[52, 55] }) 4 false) rfl rfl trivial ?_
   refine yOt 23 18 22 ?_
   refine Sch.nil (run_cT 23 (run_pl [yy 0, nn 1, nn 2, nn 3, yy 4] ?_))
   refine yM 24 5 ?_
   replace bx := bx.t s_3
   refine nS (kq 25 (.load 58 (.tmp 7))) rfl rfl trivial (val_loadOwnAgg (n := 5) (vs := encB (l[k]'hkl)) bx.at_ (by kernel_rfl) (by kernel_rfl) rfl rfl rfl) ?_
   replace hF := hF.st s_3
   refine aT (kq 26 (.buildSlice 23 1 #[(0, (.tmp 25))])) rfl rfl (a_buildSlice (ys := ([l[k]'hkl] : List Bond)) (e := 58) (bytes := 40) hF (by kernel_rfl) rfl (by decide) (by decide) ⟨rfl, ⟨_, rfl, rv_bond.2 rfl⟩, trivial⟩) ?_
   rintro v26 w5 ⟨s_4, g26, hF⟩
   replace ho := (((ho.t s_1).t s_2).t s_3).t s_4
   refine aT (kq 27 (.call { callee := .builtin .append, args := #[(.tmp 24), (.tmp 26)], argTypes := #[23, 23] })) rfl rfl (a_append (e := 58) (bytes := 40) hF (by decide) rfl rfl (by kernel_rfl) (by decide) ho g26 (by simp only [List.length_cons, List.length_nil]; omega) (by simp only [List.length_cons, List.length_nil]; omega)) ?_
   rintro v27 w6 ⟨Cw6, s_5, ho, hF⟩
   refine yA 5 27 ?_
   refine Sch.nil (run_inBlock (run_pl [yy 0, yy 1] ?_))
   refine yI 28 3 10 1 ?_
   refine yM 10 28 ?_
   refine Sch.nil ?_
   rw [if_pos (.inl hA)] at hnx
   replace hT := ((((hT.t s_1).t s_2).t s_3).t s_4).t s_5; replace hl := ((((hl.t s_1).t s_2).t s_3).t s_4).t s_5; replace hs0 := ((hs0.t s_3).t s_4).t s_5
   refine kp (sr 0 (sr 5 (sr 8 (sr 9 (sub_cons 10 rfl (eq_int (by simp)) (sub_nil _)))))) (next1 (k + 1, v27, Cw6) _ ⟨(by first | omega | (simp only; omega)), hF, hT, hs0, hl, (by simp only; rw [hnx]; exact ho)⟩ (by first | omega | (simp only; omega)))
  by_cases hB : (l[k]'hkl).B ∈ s
  ·
   refine run_pl [yy 0, yy 1, nn 2, nn 3, yy 4, yy 5, yy 6, nn 7, nn 8, yy 9] ?_
   refine yM 14 0 ?_
   refine yF 15 58 7 0 0 ?_
   refine nS (kq 16 (.load 55 (.tmp 15))) rfl rfl trivial (val_loadOwnAgg (n := 2) (vs := encR (l[k]'hkl).A) bx.at_ (by kernel_rfl) (by kernel_rfl) rfl rfl rfl) ?_
   replace hs0 := (hs0.t s_1).t s_2; replace hF := hF.st s_2
   refine cG 17 49 [14, 16] [52, 55] Tryz.call49 rfl (contains_ok (c := (l[k]'hkl).A) hF hs0) ?_
   rintro vw7 w7 ⟨rfl, s_6⟩
   rw [any_dec, decide_eq_false hA]
   refine yM 18 17 ?_
   refine yMg 19 0 4 false ?_
   refine yFg 20 58 7 1 2 4 false ?_
   replace bx := bx.t s_6
   refine nS (kg 21 (.load 55 (.tmp 20)) 4 false) rfl rfl trivial (val_loadOwnAgg (n := 2) (vs := encR (l[k]'hkl).B) bx.at_ (by kernel_rfl) (by kernel_rfl) rfl rfl rfl) ?_
   replace hF := hF.st s_6; replace hs0 := hs0.t s_6
   refine cT (kg 22 (.call { callee := .value (.func 49), args := #[(.tmp 19), (.tmp 21)], argTypes := #[52, 55] }) 4 false) rfl rfl (ent Tryz.call49 rfl) (contains_ok (c := (l[k]'hkl).B) hF hs0) ?_
   rintro vw8 w8 ⟨rfl, s_7⟩
   rw [any_dec, decide_eq_true hB]
   refine yOf 23 18 22 ?_
   refine Sch.nil (run_cT 23 (run_pl [yy 0, nn 1, nn 2, nn 3, yy 4] ?_))
   refine yM 24 5 ?_
   replace bx := bx.t s_7
   refine nS (kq 25 (.load 58 (.tmp 7))) rfl rfl trivial (val_loadOwnAgg (n := 5) (vs := encB (l[k]'hkl)) bx.at_ (by kernel_rfl) (by kernel_rfl) rfl rfl rfl) ?_
   replace hF := hF.st s_7
   refine aT (kq 26 (.buildSlice 23 1 #[(0, (.tmp 25))])) rfl rfl (a_buildSlice (ys := ([l[k]'hkl] : List Bond)) (e := 58) (bytes := 40) hF (by kernel_rfl) rfl (by decide) (by decide) ⟨rfl, ⟨_, rfl, rv_bond.2 rfl⟩, trivial⟩) ?_
   rintro v26 w9 ⟨s_8, g26, hF⟩
   replace ho := ((((ho.t s_1).t s_2).t s_6).t s_7).t s_8
   refine aT (kq 27 (.call { callee := .builtin .append, args := #[(.tmp 24), (.tmp 26)], argTypes := #[23, 23] })) rfl rfl (a_append (e := 58) (bytes := 40) hF (by decide) rfl rfl (by kernel_rfl) (by decide) ho g26 (by simp only [List.length_cons, List.length_nil]; omega) (by simp only [List.length_cons, List.length_nil]; omega)) ?_
   rintro v27 w10 ⟨Cw10, s_9, ho, hF⟩
   refine yA 5 27 ?_
   refine Sch.nil (run_inBlock (run_pl [yy 0, yy 1] ?_))
   refine yI 28 3 10 1 ?_
   refine yM 10 28 ?_
   refine Sch.nil ?_
   rw [if_pos (.inr hB)] at hnx
   replace hT := (((((hT.t s_1).t s_2).t s_6).t s_7).t s_8).t s_9; replace hl := (((((hl.t s_1).t s_2).t s_6).t s_7).t s_8).t s_9; replace hs0 := ((hs0.t s_7).t s_8).t s_9
   refine kp (sr 0 (sr 5 (sr 8 (sr 9 (sub_cons 10 rfl (eq_int (by simp)) (sub_nil _)))))) (next1 (k + 1, v27, Cw10) _ ⟨(by first | omega | (simp only; omega)), hF, hT, hs0, hl, (by simp only; rw [hnx]; exact ho)⟩ (by first | omega | (simp only; omega)))
  refine run_pl [yy 0, yy 1, nn 2, nn 3, yy 4, yy 5, yy 6, nn 7, nn 8, yy 9] ?_
  refine yM 14 0 ?_
  refine yF 15 58 7 0 0 ?_
  refine nS (kq 16 (.load 55 (.tmp 15))) rfl rfl trivial (val_loadOwnAgg (n := 2) (vs := encR (l[k]'hkl).A) bx.at_ (by kernel_rfl) (by kernel_rfl) rfl rfl rfl) ?_
  replace hs0 := (hs0.t s_1).t s_2; replace hF := hF.st s_2
  refine cG 17 49 [14, 16] [52, 55] Tryz.call49 rfl (contains_ok (c := (l[k]'hkl).A) hF hs0) ?_
  rintro vw11 w11 ⟨rfl, s_10⟩
  rw [any_dec, decide_eq_false hA]
  refine yM 18 17 ?_
  refine yMg 19 0 4 false ?_
  refine yFg 20 58 7 1 2 4 false ?_
  replace bx := bx.t s_10
  refine nS (kg 21 (.load 55 (.tmp 20)) 4 false) rfl rfl trivial (val_loadOwnAgg (n := 2) (vs := encR (l[k]'hkl).B) bx.at_ (by kernel_rfl) (by kernel_rfl) rfl rfl rfl) ?_
  replace hF := hF.st s_10; replace hs0 := hs0.t s_10
  refine cT (kg 22 (.call { callee := .value (.func 49), args := #[(.tmp 19), (.tmp 21)], argTypes := #[52, 55] }) 4 false) rfl rfl (ent Tryz.call49 rfl) (contains_ok (c := (l[k]'hkl).B) hF hs0) ?_
  rintro vw12 w12 ⟨rfl, s_11⟩
  rw [any_dec, decide_eq_false hB]
  refine yOf 23 18 22 ?_
  refine Sch.nil (run_cF 23 (run_sk (run_inBlock (run_pl [yy 0, yy 1] ?_))))
  refine yI 28 3 10 1 ?_
  refine yM 10 28 ?_
  refine Sch.nil ?_
  rw [if_neg (fun h => h.elim hA hB)] at hnx
  replace hT := (((hT.t s_1).t s_2).t s_10).t s_11; replace hl := (((hl.t s_1).t s_2).t s_10).t s_11; replace ho := (((ho.t s_1).t s_2).t s_10).t s_11; replace hF := hF.st s_11; replace hs0 := hs0.t s_11
  refine kp (sr 0 (sr 5 (sr 8 (sr 9 (sub_cons 10 rfl (eq_int (by simp)) (sub_nil _)))))) (next1 (k + 1, vo, Cw2) _ ⟨(by first | omega | (simp only; omega)), hF, hT, hs0, hl, (by simp only; rw [hnx]; exact ho)⟩ (by first | omega | (simp only; omega)))
 have hkl : k = l.length := by omega
 rw [hkl, List.take_length] at ho hel
 refine run_ex 0 ?_
 refine run_sq (run_pl [yy 0, yy 1] ?_)
 refine yM 29 5 ?_
 refine yA 4 29 ?_
 refine Sch.nil ?_
 refine rt1 Tryz.func86 Tryz.results86 ?_
 exact ⟨hT.out1 (by decide), ho.out hT hF0 (Mc_col1 C) (fun b _ => col1_lt C (by decide) b) (by omega)⟩
end
end Go.Proofs.YtmdhggfehknjjaaGreat
