/- Steps through functions of the program. -/
import Derived.Test.YtionghonhnedgaaGreatJV3
set_option linter.unusedVariables false
set_option linter.unusedSimpArgs false
set_option maxRecDepth 100000
set_option maxHeartbeats 4000000
namespace Go.Proofs.YtionghonhnedgaaGreat
open Go.K Go.K.Rep

namespace F41
noncomputable def c0 := bodyOf Tryz.f41
end F41
theorem range_any {w₀ : World} {C : Nat → Nat} {i b : Nat} {lo hh : Int} (hF : Lim w₀ C) (hi : i ≠ 0) (hd : DeckIs w₀ C i b) (h1 : -1000 ≤ lo) (h2 : lo ≤ hh) (h3 : hh ≤ 1000) : Calls Tryz.prog 41 #[.pointer (some ⟨b, 0, none⟩), .int .i64 lo, .int .i64 hh] w₀ (Ret fun v w' => ∃ x, v = .int .i64 x ∧ lo ≤ x ∧ x ≤ hh ∧ Stp [i] w₀ C w' C ∧ DeckIs w' C i b) := by
 have hF0 := hF
 have hbc := hd.colour
 replace hd := hd.col2 hi
 have hT := Stp.refl [2, 3, 4, 5, 6, 7, 8, 9] w₀ (col2 C i)
 replace hF := hF.col2 i
 refine calls_start (c := F41.c0) (N := 15) [.pointer (some ⟨b, 0, none⟩), .int .i64 lo, .int .i64 hh] Tryz.func41 (by kernel_rfl) (by kernel_rfl) (by kernel_rfl) ?_
 show Run _ _ _ _ [(0, .pointer (some ⟨b, 0, none⟩)), (1, .int .i64 lo), (2, .int .i64 hh)] _ _
 refine run_sq ?_
 refine run_pl [yy 0] ?_
 refine yAc 6 (.int .i64 0) ?_
 refine Sch.nil ?_
 refine run_sq ?_
 refine run_pl [yy 0, yy 1, yy 2, yy 3, yy 4, yy 5, nn 6, yy 7, yy 8] ?_
 refine yM 7 1 ?_
 refine yM 8 0 ?_
 refine yM 9 2 ?_
 refine yM 10 1 ?_
 refine yV (kq 11 (.binOp .sub 3 (.tmp 9) (.tmp 10) 3)) (fun _ => val_subi rfl rfl (by omega) (by omega)) ?_
 refine yV (kq 12 (.binOp .add 3 (.tmp 11) (.const (.int .i64 1)) 3)) (fun _ => val_addi rfl rfl (by omega) (by omega)) ?_
 refine cS (kq 13 (.call { callee := .value (.func 11), args := #[(.tmp 8), (.tmp 12)], argTypes := #[40, 3] })) rfl rfl (ent Tryz.call11 rfl) (next_any hF (by decide) hd (by omega) (by omega)) ?_
 rintro vw1 w1 ⟨k, rfl, hk, hs, hd⟩
 refine ⟨trivial, ?_⟩
 replace hF := hF.st hs
 replace hT := hT.t hs
 refine yV (kq 14 (.binOp .add 3 (.tmp 7) (.tmp 13) 3)) (fun _ => val_addi rfl rfl (by omega) (by omega)) ?_
 refine yA 6 14 ?_
 refine Sch.nil ?_
 refine run_ret1 (by kernel_rfl) Tryz.func41 Tryz.results41 rfl ?_
 exact ⟨_, rfl, by omega, by omega, hT.out2 (by decide), hd.out hT hF0 hbc⟩
namespace F35
noncomputable def c0 := bodyOf Tryz.f35
noncomputable def c8 := (cl (cr (cl (cr (cr c0)))))
noncomputable def o5 := rops (cl (cl (cr (cl c8))))
end F35
/-- Weights are dealt. -/
theorem weights_any {w₀ : World} {C : Nat → Nat} {i b n : Nat} (hF : Lim w₀ C) (hi : i ≠ 0) (hd : DeckIs w₀ C i b) (h5 : n ≤ 5) : Calls Tryz.prog 35 #[.pointer (some ⟨b, 0, none⟩), .int .i64 n] w₀ (Ret fun v w' => ∃ pr ag df va vd, v = .agg #[.int .i64 pr, va, vd] ∧ DW n ag df ∧ -40 ≤ pr ∧ pr ≤ 10 ∧ Stp [i] w₀ C w' C ∧ RV w' (Mc C) ag va ∧ RV w' (Mc C) df vd ∧ DeckIs w' C i b) := by
 have hF0 := hF
 have hbc := hd.colour
 replace hd := hd.col2 hi
 have hT := Stp.refl [2, 3, 4, 5, 6, 7, 8, 9] w₀ (col2 C i)
 replace hF := hF.col2 i
 refine calls_start (c := F35.c0) (N := 30) [.pointer (some ⟨b, 0, none⟩), .int .i64 n] Tryz.func35 (by kernel_rfl) (by kernel_rfl) (by kernel_rfl) ?_
 show Run _ _ _ _ [(0, .pointer (some ⟨b, 0, none⟩)), (1, .int .i64 n)] _ _
 refine run_sq ?_
 refine run_pl [nn 0] ?_
 refine aS (kq 4 (.alloc 28)) rfl rfl (a_alloc (cs := [.int .i64 0, .slice none 0 0, .slice none 0 0]) hF 4 (by kernel_rfl)) ?_
 rintro _ w1 ⟨Cw1, bw1, rfl, hs, hy, hF⟩
 refine ⟨trivial, ?_⟩
 replace hT := hT.t hs
 replace hd := hd.st hs (by first | decide | (simp <;> omega)) (by first | decide | (simp <;> omega))
 refine Sch.nil ?_
 refine run_sq ?_
 refine run_pl [yy 0, nn 1, yy 2, nn 3, nn 4] ?_
 refine yM 7 0 ?_
 refine cS (kq 8 (.call { callee := .value (.func 41), args := #[(.tmp 7), (.const (.int .i64 (-40))), (.const (.int .i64 10))], argTypes := #[40, 3, 3] })) rfl rfl (ent Tryz.call41 rfl) (range_any (lo := -40) (hh := 10) hF (by decide) hd (by decide) (by decide) (by decide)) ?_
 rintro vw2 w2 ⟨pr, rfl, prl, prh, hs, hd⟩
 refine ⟨trivial, ?_⟩
 replace hF := hF.st hs
 replace hT := hT.t hs; replace hy := hy.t hs
 refine yV (kq 9 (.build 28 #[(0, (.tmp 8))])) (fun _ => val_build (zs := [.int .i64 0, .slice none 0 0, .slice none 0 0]) (ps := [(0, 1), (1, 1), (2, 1)]) (qs := [(0, [.int .i64 pr])]) (cs := [.int .i64 pr, .slice none 0 0, .slice none 0 0]) (by kernel_rfl) (by kernel_rfl) (by exact ⟨rfl, ⟨_, rfl, rfl⟩, trivial⟩) rfl) ?_
 refine aS (kq 5 (.alloc 28)) rfl rfl (a_alloc (cs := [.int .i64 0, .slice none 0 0, .slice none 0 0]) hF 5 (by kernel_rfl)) ?_
 rintro _ w3 ⟨Cw3, bw3, rfl, hs, hw, hF⟩
 refine ⟨trivial, ?_⟩
 replace hT := hT.t hs
 replace hd := hd.st hs (by first | decide | (simp <;> omega)) (by first | decide | (simp <;> omega))
 replace hy := hy.t hs
 refine aN (k0 (.store 28 (.tmp 5) (.tmp 9))) rfl (a_storeAll (vs := [.int .i64 pr, .slice none 0 0, .slice none 0 0]) (n := 3) rfl rfl (by kernel_rfl) rfl rfl (by intro u hu; simp only [List.mem_cons, List.not_mem_nil, or_false] at hu; rcases hu with rfl | rfl | rfl <;> rfl) hw rfl) ?_
 rintro _ w4 ⟨rfl, hs, hw⟩
 refine ⟨trivial, ?_⟩
 replace hF := hF.st hs
 replace hT := hT.t hs
 replace hd := hd.st hs (by first | decide | (simp <;> omega)) (by first | decide | (simp <;> omega))
 replace hy := hy.t hs
 refine Sch.nil ?_
 refine run_sq ?_
 refine run_sq ?_
 refine run_pl [yy 0] ?_
 refine yAc 6 (.int .i64 0) ?_
 refine Sch.nil ?_
 refine run_bk 0 ?_
 
 refine run_lp (ι := Nat × Value × Value × (List Int) × (List Int) × (Nat → Nat)) (I := fun x w => x.1 ≤ n ∧ DW x.1 x.2.2.2.1 x.2.2.2.2.1 ∧ Lim w x.2.2.2.2.2 ∧ Stp [2, 3, 4, 5, 6, 7, 8, 9] w₀ (col2 C i) w x.2.2.2.2.2 ∧ DeckIs w x.2.2.2.2.2 2 b ∧ OwnB w x.2.2.2.2.2 4 bw1 (.cells [.int .i64 0, .slice none 0 0, .slice none 0 0].toArray 28) ∧ OwnB w x.2.2.2.2.2 5 bw3 (.cells [.int .i64 pr, x.2.1, x.2.2.1].toArray 28) ∧ OwnL w x.2.2.2.2.2 6 3 x.2.1 x.2.2.2.1 ∧ OwnL w x.2.2.2.2.2 7 3 x.2.2.1 x.2.2.2.2.1) (e := fun x => [(0, .pointer (some ⟨b, 0, none⟩)), (1, .int .i64 n), (4, .pointer (some ⟨bw1, 0, none⟩)), (5, .pointer (some ⟨bw3, 0, none⟩)), (6, .int .i64 x.1)]) (m := fun x => n - x.1) (x₀ := (0, .slice none 0 0, .slice none 0 0, [], [], Cw3)) (sr 0 (sr 1 (sr 4 (sr 5 (sr 6 (sub_nil _)))))) ?_ ?_
 · exact ⟨Nat.zero_le _, DW.nil, hF, hT, hd, hy, hw, OwnL.nil, OwnL.nil⟩
 intro ⟨k, va, vd, ag, df, C1⟩ w5 hI next
 obtain ⟨hk, hW, hF, hT, hd, hy, hw, ha, hq⟩ := hI
 try simp only at hk hW hF hT hd hy hw ha hq
 have next1 := next
 clear next
 show Run _ _ _ _ [(0, .pointer (some ⟨b, 0, none⟩)), (1, .int .i64 n), (4, .pointer (some ⟨bw1, 0, none⟩)), (5, .pointer (some ⟨bw3, 0, none⟩)), (6, .int .i64 k)] _ _
 have hla := hW.la
 have hlq := hW.ld
 refine run_sq ?_
 refine run_sq ?_
 refine run_pl [yy 0, yy 1, yy 2] ?_
 refine yM 10 6 ?_
 refine yM 11 1 ?_
 refine yV (kq 12 (.binOp .lss 3 (.tmp 10) (.tmp 11) 3)) (fun _ => val_lss rfl rfl) ?_
 refine Sch.nil ?_
 refine run_i 12 rfl (fun h12 => ?_) (fun h12 => ?_)
 ·
  have hkn : k < n := by omega
  refine run_sk ?_
  refine run_sq ?_
  refine run_bk 1 ?_
  refine run_bar (id := 5) (ops := F35.o5) [2, 6, 7] (C1) 13 [yy 0, yy 1, yy 2, yy 6, yy 7, yy 8, nn 3, nn 4, nn 5, yy 12, nn 9, nn 10, nn 11] [yy 14, nn 15] Tryz_mixed (by kernel_rfl) (by kernel_rfl) (by kernel_rfl) ?_
  intro w6 hs
  replace hF := hF.st hs
  replace hT := hT.t hs
  replace hd := hd.st hs (by first | decide | (simp <;> omega)) (by first | decide | (simp <;> omega))
  replace hy := hy.t hs; replace hw := hw.t hs; replace ha := ha.t hs; replace hq := hq.t hs
  have hR := Stp.refl [2, 6, 7] w6 (C1)
  refine yF 15 28 5 1 1 ?_
  refine yS (kq 16 (.load 22 (.tmp 15))) rfl rfl (fun w' hS => val_loadOwn (hw.sy hS) (by kernel_rfl) rfl rfl) ?_
  refine yM 17 0 ?_
  refine yF 21 28 5 2 2 ?_
  refine yS (kq 22 (.load 22 (.tmp 21))) rfl rfl (fun w' hS => val_loadOwn (hw.sy hS) (by kernel_rfl) rfl rfl) ?_
  refine yM 23 0 ?_
  refine cS (kq 18 (.call { callee := .value (.func 41), args := #[(.tmp 17), (.const (.int .i64 (-3))), (.const (.int .i64 60))], argTypes := #[40, 3, 3] })) rfl rfl (ent Tryz.call41 rfl) (range_any (lo := -3) (hh := 60) hF (by decide) hd (by decide) (by decide) (by decide)) ?_
  rintro vw7 w7 ⟨p, rfl, pl, ph, hs, hd⟩
  refine ⟨(hR.trans hs (by simp)).ext, ?_⟩
  replace hF := hF.st hs
  replace hT := hT.t hs; replace hy := hy.t hs; replace hw := hw.t hs; replace ha := ha.t hs; replace hq := hq.t hs; replace hR := hR.t hs
  refine aS (kq 19 (.buildSlice 22 1 #[(0, (.tmp 18))])) rfl rfl (a_buildSlice (ys := ([p] : List Int)) (e := 3) (bytes := 8) hF (by kernel_rfl) rfl (by decide) (by decide) ⟨rfl, ⟨_, rfl, rv_int.2 rfl⟩, trivial⟩) ?_
  rintro v19 w8 ⟨hs, g19, hF⟩
  refine ⟨(hR.trans hs (by simp)).ext, ?_⟩
  replace hT := hT.t hs
  replace hd := hd.st hs (by first | decide | (simp <;> omega)) (by first | decide | (simp <;> omega))
  replace hy := hy.t hs; replace hw := hw.t hs; replace ha := ha.t hs; replace hq := hq.t hs; replace hR := hR.t hs
  refine aS (kq 20 (.call { callee := .builtin .append, args := #[(.tmp 16), (.tmp 19)], argTypes := #[22, 22] })) rfl rfl (a_append (e := 3) (bytes := 8) hF (by decide) rfl rfl (by kernel_rfl) (by decide) ha g19 (by simp only [List.length_cons, List.length_nil]; omega) (by simp only [List.length_cons, List.length_nil]; omega)) ?_
  rintro v20 w9 ⟨Cw9, hs, ha, hF⟩
  refine ⟨(hR.trans hs (by simp)).ext, ?_⟩
  replace hT := hT.t hs
  replace hd := hd.st hs (by first | decide | (simp <;> omega)) (by first | decide | (simp <;> omega))
  replace hy := hy.t hs; replace hw := hw.t hs; replace hq := hq.t hs; replace hR := hR.t hs; replace g19 := g19.t hs
  refine yF 27 28 5 1 1 ?_
  refine cS (kq 24 (.call { callee := .value (.func 41), args := #[(.tmp 23), (.const (.int .i64 (-60))), (.const (.int .i64 3))], argTypes := #[40, 3, 3] })) rfl rfl (ent Tryz.call41 rfl) (range_any (lo := -60) (hh := 3) hF (by decide) hd (by decide) (by decide) (by decide)) ?_
  rintro vw10 w10 ⟨q, rfl, ql, qh, hs, hd⟩
  refine ⟨(hR.trans hs (by simp)).ext, ?_⟩
  replace hF := hF.st hs
  replace hT := hT.t hs; replace hy := hy.t hs; replace hw := hw.t hs; replace ha := ha.t hs; replace hq := hq.t hs; replace hR := hR.t hs; replace g19 := g19.t hs
  refine aS (kq 25 (.buildSlice 22 1 #[(0, (.tmp 24))])) rfl rfl (a_buildSlice (ys := ([q] : List Int)) (e := 3) (bytes := 8) hF (by kernel_rfl) rfl (by decide) (by decide) ⟨rfl, ⟨_, rfl, rv_int.2 rfl⟩, trivial⟩) ?_
  rintro v25 w11 ⟨hs, g25, hF⟩
  refine ⟨(hR.trans hs (by simp)).ext, ?_⟩
  replace hT := hT.t hs
  replace hd := hd.st hs (by first | decide | (simp <;> omega)) (by first | decide | (simp <;> omega))
  replace hy := hy.t hs; replace hw := hw.t hs; replace ha := ha.t hs; replace hq := hq.t hs; replace hR := hR.t hs; replace g19 := g19.t hs
  refine aS (kq 26 (.call { callee := .builtin .append, args := #[(.tmp 22), (.tmp 25)], argTypes := #[22, 22] })) rfl rfl (a_append (e := 3) (bytes := 8) hF (by decide) rfl rfl (by kernel_rfl) (by decide) hq g25 (by simp only [List.length_cons, List.length_nil]; omega) (by simp only [List.length_cons, List.length_nil]; omega)) ?_
  rintro v26 w12 ⟨Cw12, hs, hq, hF⟩
  refine ⟨(hR.trans hs (by simp)).ext, ?_⟩
  replace hT := hT.t hs
  replace hd := hd.st hs (by first | decide | (simp <;> omega)) (by first | decide | (simp <;> omega))
  replace hy := hy.t hs; replace hw := hw.t hs; replace ha := ha.t hs; replace hR := hR.t hs; replace g19 := g19.t hs; replace g25 := g25.t hs
  refine bar_do hR.ext ?_
  refine aN (k0 (.store 22 (.tmp 27) (.tmp 20))) rfl (a_store1 rfl rfl (by kernel_rfl) ha.one.1 ha.one.2 hw (by simp)) ?_
  rintro _ w13 ⟨rfl, hs, hw⟩
  refine ⟨trivial, ?_⟩
  replace hF := hF.st hs
  replace hT := hT.t hs
  replace hd := hd.st hs (by first | decide | (simp <;> omega)) (by first | decide | (simp <;> omega))
  replace hy := hy.t hs; replace ha := ha.t hs; replace hq := hq.t hs; replace g19 := g19.t hs; replace g25 := g25.t hs
  refine bar_next ?_
  refine yF 28 28 5 2 2 ?_
  refine aN (k0 (.store 22 (.tmp 28) (.tmp 26))) rfl (a_store1 rfl rfl (by kernel_rfl) hq.one.1 hq.one.2 hw (by simp)) ?_
  rintro _ w14 ⟨rfl, hs, hw⟩
  refine ⟨trivial, ?_⟩
  replace hF := hF.st hs
  replace hT := hT.t hs
  replace hd := hd.st hs (by first | decide | (simp <;> omega)) (by first | decide | (simp <;> omega))
  replace hy := hy.t hs; replace ha := ha.t hs; replace hq := hq.t hs; replace g19 := g19.t hs; replace g25 := g25.t hs
  refine Sch.nil ?_
  refine run_inBlock ?_
  refine run_pl [yy 0, yy 1, yy 2] ?_
  refine yM 13 6 ?_
  refine yV (kq 14 (.binOp .add 3 (.tmp 13) (.const (.int .i64 1)) 3)) (fun _ => val_addi rfl rfl (by omega) (by omega)) ?_
  refine yA 6 14 ?_
  refine Sch.nil ?_
  refine kp (sub_cons 0 rfl rfl (sub_cons 1 rfl rfl (sub_cons 4 rfl rfl (sub_cons 5 rfl rfl (sub_cons 6 rfl (eq_int (by simp)) (sub_nil _)))))) (next1 (k + 1, v20, v26, ag ++ [p], df ++ [q], Cw12) _ ⟨(by first | omega | (simp only; omega)), (hW.snoc pl ph ql qh), hF, hT, hd, hy, hw, ha, hq⟩ (by first | omega | (simp only; omega)))
 ·
  have hkn : k = n := by omega
  subst hkn
  refine run_ex 0 ?_
  refine run_sq ?_
  refine run_pl [nn 0, nn 1] ?_
  refine nS (kq 29 (.load 28 (.tmp 5))) rfl rfl trivial (val_loadOwnAgg (n := 3) (vs := [.int .i64 pr, va, vd]) hw.at_ (by kernel_rfl) (by kernel_rfl) rfl rfl rfl) ?_
  refine aN (k0 (.store 28 (.tmp 4) (.tmp 29))) rfl (a_storeAll (vs := [.int .i64 pr, va, vd]) (n := 3) rfl rfl (by kernel_rfl) rfl rfl (by intro u hu; simp only [List.mem_cons, List.not_mem_nil, or_false] at hu; rcases hu with rfl | rfl | rfl <;> first | rfl | exact ha.one.2 | exact hq.one.2) hy rfl) ?_
  rintro _ w15 ⟨rfl, hs, hy⟩
  refine ⟨trivial, ?_⟩
  replace hF := hF.st hs
  replace hT := hT.t hs
  replace hd := hd.st hs (by first | decide | (simp <;> omega)) (by first | decide | (simp <;> omega))
  replace hw := hw.t hs; replace ha := ha.t hs; replace hq := hq.t hs
  refine Sch.nil ?_
  refine run_retC1 (by kernel_rfl) Tryz.func35 Tryz.results35 rfl hy.at_ (by kernel_rfl) (by kernel_rfl) rfl ?_
  exact ⟨pr, ag, df, va, vd, rfl, hW, prl, prh, hT.out2 (by decide), ha.out hT hF0 (Mc_col2 C i) (fun b _ => col2_lt C i (by decide) b) (by omega), hq.out hT hF0 (Mc_col2 C i) (fun b _ => col2_lt C i (by decide) b) (by omega), hd.out hT hF0 hbc⟩
namespace F37
noncomputable def c0 := bodyOf Tryz.f37
noncomputable def o2 := rops (cl (cr (cr c0)))
end F37
/-- Thresholds are dealt. -/
theorem thresholds_any {w₀ : World} {C : Nat → Nat} {i b : Nat} (hF : Lim w₀ C) (hi : i ≠ 0) (hd : DeckIs w₀ C i b) : Calls Tryz.prog 37 #[.pointer (some ⟨b, 0, none⟩)] w₀ (Ret fun v w' => ∃ lo hh, v = .agg #[.int .i64 lo, .int .i64 hh] ∧ 1 ≤ hh ∧ hh ≤ 60 ∧ -100 ≤ lo ∧ lo ≤ hh ∧ Stp [i] w₀ C w' C ∧ DeckIs w' C i b) := by
 have hF0 := hF
 have hbc := hd.colour
 replace hd := hd.col2 hi
 have hT := Stp.refl [2, 3, 4, 5, 6, 7, 8, 9] w₀ (col2 C i)
 replace hF := hF.col2 i
 refine calls_start (c := F37.c0) (N := 15) [.pointer (some ⟨b, 0, none⟩)] Tryz.func37 (by kernel_rfl) (by kernel_rfl) (by kernel_rfl) ?_
 show Run _ _ _ _ [(0, .pointer (some ⟨b, 0, none⟩))] _ _
 refine run_sq ?_
 refine run_pl [nn 0] ?_
 refine aS (kq 2 (.alloc 30)) rfl rfl (a_alloc (cs := [.int .i64 0, .int .i64 0]) hF 4 (by kernel_rfl)) ?_
 rintro _ w1 ⟨Cw1, bw1, rfl, hs, hy, hF⟩
 refine ⟨trivial, ?_⟩
 replace hT := hT.t hs
 replace hd := hd.st hs (by first | decide | (simp <;> omega)) (by first | decide | (simp <;> omega))
 refine Sch.nil ?_
 refine run_sq ?_
 refine run_pl [yy 0, nn 1, yy 2, yy 3, nn 4, nn 5] ?_
 refine yM 4 0 ?_
 refine cS (kq 5 (.call { callee := .value (.func 11), args := #[(.tmp 4), (.const (.int .i64 60))], argTypes := #[40, 3] })) rfl rfl (ent Tryz.call11 rfl) (next_any (n := 60) hF (by decide) hd (by omega) (by omega)) ?_
 rintro vw2 w2 ⟨u, rfl, hu, hs, hd⟩
 refine ⟨trivial, ?_⟩
 replace hF := hF.st hs
 replace hT := hT.t hs; replace hy := hy.t hs
 refine yV (kq 6 (.binOp .add 3 (.const (.int .i64 1)) (.tmp 5) 3)) (fun _ => val_addi rfl rfl (by omega) (by omega)) ?_
 refine yV (kq 7 (.build 30 #[(1, (.tmp 6))])) (fun _ => val_build (zs := [.int .i64 0, .int .i64 0]) (ps := [(0, 1), (1, 1)]) (qs := [(1, [.int .i64 (1 + u)])]) (cs := [.int .i64 0, .int .i64 (1 + u)]) (by kernel_rfl) (by kernel_rfl) (by exact ⟨rfl, ⟨_, rfl, rfl⟩, trivial⟩) rfl) ?_
 refine aS (kq 3 (.alloc 30)) rfl rfl (a_alloc (cs := [.int .i64 0, .int .i64 0]) hF 5 (by kernel_rfl)) ?_
 rintro _ w3 ⟨Cw3, bw3, rfl, hs, hw, hF⟩
 refine ⟨trivial, ?_⟩
 replace hT := hT.t hs
 replace hd := hd.st hs (by first | decide | (simp <;> omega)) (by first | decide | (simp <;> omega))
 replace hy := hy.t hs
 refine aN (k0 (.store 30 (.tmp 3) (.tmp 7))) rfl (a_storeAll (vs := [.int .i64 0, .int .i64 (1 + u)]) (n := 2) rfl rfl (by kernel_rfl) rfl rfl (by intro u hu; simp only [List.mem_cons, List.not_mem_nil, or_false] at hu; rcases hu with rfl | rfl <;> rfl) hw rfl) ?_
 rintro _ w4 ⟨rfl, hs, hw⟩
 refine ⟨trivial, ?_⟩
 replace hF := hF.st hs
 replace hT := hT.t hs
 replace hd := hd.st hs (by first | decide | (simp <;> omega)) (by first | decide | (simp <;> omega))
 replace hy := hy.t hs
 refine Sch.nil ?_
 refine run_sq ?_
 refine run_draw (id := 2) (ops := F37.o2) [2] (Cw3) [yy 0, yy 1, yy 2, nn 3, yy 4, yy 5, nn 6] Tryz_mixed (by kernel_rfl) (by kernel_rfl) (by kernel_rfl) ?_
 intro w5 hs
 replace hF := hF.st hs
 replace hT := hT.t hs
 replace hd := hd.st hs (by first | decide | (simp <;> omega)) (by first | decide | (simp <;> omega))
 replace hy := hy.t hs; replace hw := hw.t hs
 have hR := Stp.refl [2] w5 (Cw3)
 refine yF 8 30 3 1 1 ?_
 refine yS (kq 9 (.load 3 (.tmp 8))) rfl rfl (fun w' hS => val_loadOwn (hw.sy hS) (by kernel_rfl) rfl rfl) ?_
 refine yM 10 0 ?_
 refine cS (kq 11 (.call { callee := .value (.func 11), args := #[(.tmp 10), (.const (.int .i64 60))], argTypes := #[40, 3] })) rfl rfl (ent Tryz.call11 rfl) (next_any (n := 60) hF (by decide) hd (by omega) (by omega)) ?_
 rintro vw6 w6 ⟨z, rfl, hz, hs, hd⟩
 refine ⟨(hR.trans hs (by simp)).ext, ?_⟩
 replace hF := hF.st hs
 replace hT := hT.t hs; replace hy := hy.t hs; replace hw := hw.t hs; replace hR := hR.t hs
 refine yV (kq 12 (.binOp .sub 3 (.tmp 9) (.tmp 11) 3)) (fun _ => val_subi rfl rfl (by omega) (by omega)) ?_
 refine yF 13 30 3 0 0 ?_
 refine Sch.free rfl ?_
 refine aN (k0 (.store 3 (.tmp 13) (.tmp 12))) rfl (a_store1 rfl rfl (by kernel_rfl) rfl rfl hw (by simp)) ?_
 rintro _ w7 ⟨rfl, hs, hw⟩
 refine ⟨trivial, ?_⟩
 replace hF := hF.st hs
 replace hT := hT.t hs
 replace hd := hd.st hs (by first | decide | (simp <;> omega)) (by first | decide | (simp <;> omega))
 replace hy := hy.t hs
 refine Sch.nil ?_
 refine run_sq ?_
 refine run_pl [nn 0, nn 1] ?_
 refine nS (kq 14 (.load 30 (.tmp 3))) rfl rfl trivial (val_loadOwnAgg (n := 2) (vs := [.int .i64 (1 + u - z), .int .i64 (1 + u)]) hw.at_ (by kernel_rfl) (by kernel_rfl) rfl rfl rfl) ?_
 refine aN (k0 (.store 30 (.tmp 2) (.tmp 14))) rfl (a_storeAll (vs := [.int .i64 (1 + u - z), .int .i64 (1 + u)]) (n := 2) rfl rfl (by kernel_rfl) rfl rfl (by intro u hu; simp only [List.mem_cons, List.not_mem_nil, or_false] at hu; rcases hu with rfl | rfl <;> rfl) hy rfl) ?_
 rintro _ w8 ⟨rfl, hs, hy⟩
 refine ⟨trivial, ?_⟩
 replace hF := hF.st hs
 replace hT := hT.t hs
 replace hd := hd.st hs (by first | decide | (simp <;> omega)) (by first | decide | (simp <;> omega))
 replace hw := hw.t hs
 refine Sch.nil ?_
 refine run_retC1 (by kernel_rfl) Tryz.func37 Tryz.results37 rfl hy.at_ (by kernel_rfl) (by kernel_rfl) rfl ?_
 exact ⟨_, _, rfl, by omega, by omega, by omega, by omega, hT.out2 (by decide), hd.out hT hF0 hbc⟩
end Go.Proofs.YtionghonhnedgaaGreat
