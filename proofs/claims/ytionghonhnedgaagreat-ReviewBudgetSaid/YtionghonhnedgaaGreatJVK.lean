/- Steps through functions of the program. -/
import Derived.Test.YtionghonhnedgaaGreatJVJ
import Derived.Test.YtionghonhnedgaaGreatL2
set_option linter.unusedVariables false
set_option linter.unusedSimpArgs false
set_option maxRecDepth 100000
set_option maxHeartbeats 4000000
namespace Go.Proofs.YtionghonhnedgaaGreat
open Go.K Go.K.Rep

theorem cloneDo0 {w₀ : World} {C : Nat → Nat} {c0 : Nat} (hF : Lim w₀ C) (hw : RV w₀ (Mc C) ([] : List Dcs) (.slice none 0 c0)) (j : Nat) (hj : j ≠ 0) : Calls Tryz.prog 125 #[.slice none 0 c0] w₀ (Ret fun v w' => ∃ C', Stp [] w₀ C w' C' ∧ Lim w' C' ∧ AppL w' C' j 75 v ([] : List Dcs)) := by
 have hF0 := hF
 have hT := Stp.refl [2, 3, 4, 5, 6, 7, 8, 9] w₀ (col1 C)
 replace hF := hF.col1
 replace hw : RV w₀ (Mc (col1 C)) ([] : List Dcs) (.slice none 0 c0) := by rw [Mc_col1]; exact hw
 refine calls_start (c := F125.c0) (N := 8) [.slice none 0 c0] Tryz.func125 (by kernel_rfl) (by kernel_rfl) (by kernel_rfl) ?_
 show Run _ _ _ _ [(0, .slice none 0 c0)] _ _
 refine run_sq ?_
 refine run_pl [yy 0] ?_
 refine yV (kq 2 (.assign (.const (.slice none 0 0)))) (fun _ => val_assign rfl) ?_
 refine Sch.nil ?_
 refine run_sq ?_
 refine run_sq ?_
 refine run_pl [yy 0, yy 1] ?_
 refine yM 3 0 ?_
 refine yV (kq 4 (.binOp .eql 24 (.tmp 3) (.const (.slice none 0 0)) 24)) (fun _ => val_eqNilN rfl Tryz.underlying24) ?_
 refine Sch.nil ?_
 refine run_cT 4 ?_
 refine run_sq ?_
 refine run_pl [yy 0] ?_
 refine yV (kq 2 (.assign (.const (.slice none 0 0)))) (fun _ => val_assign rfl) ?_
 refine Sch.nil ?_
 refine run_ret1 (by kernel_rfl) Tryz.func125 Tryz.results125 rfl ?_
 exact ⟨C, hT.out1 (by decide), hF0.st (hT.out1 (by decide)), .inl OwnL.nil⟩
theorem cloneDo1 {w₀ : World} {C : Nat → Nat} {px : Value} (hF : Lim w₀ C) (hw : RV w₀ (Mc C) ([] : List Dcs) px) {b0 : Addr} {c0 : Nat} (he0 : px = .slice (some b0) 0 c0) (j : Nat) (hj : j ≠ 0) : Calls Tryz.prog 125 #[px] w₀ (Ret fun v w' => ∃ C', Stp [] w₀ C w' C' ∧ Lim w' C' ∧ AppL w' C' j 75 v ([] : List Dcs)) := by
 have hF0 := hF
 have hT := Stp.refl [2, 3, 4, 5, 6, 7, 8, 9] w₀ (col1 C)
 replace hF := hF.col1
 replace hw : RV w₀ (Mc (col1 C)) ([] : List Dcs) px := by rw [Mc_col1]; exact hw
 refine calls_start (c := F125.c0) (N := 8) [px] Tryz.func125 (by kernel_rfl) (by kernel_rfl) (by kernel_rfl) ?_
 show Run _ _ _ _ [(0, px)] _ _
 refine run_sq ?_
 refine run_pl [yy 0] ?_
 refine yV (kq 2 (.assign (.const (.slice none 0 0)))) (fun _ => val_assign rfl) ?_
 refine Sch.nil ?_
 refine run_sq ?_
 refine run_sq ?_
 refine run_pl [yy 0, yy 1] ?_
 refine yM 3 0 ?_
 refine yV (kq 4 (.binOp .eql 24 (.tmp 3) (.const (.slice none 0 0)) 24)) (fun _ => val_eqNilX ((show _ = some px from rfl).trans (congrArg some he0)) Tryz.underlying24) ?_
 refine Sch.nil ?_
 refine run_cF 4 ?_
 refine run_sk ?_
 refine run_sq ?_
 refine run_pl [nn 0, yy 1, nn 2, yy 3] ?_
 refine aS (kq 5 (.buildSlice 24 0 #[])) rfl rfl (a_buildEmptyX (n := 7) (e := 75) (bytes := 56) hF (by kernel_rfl)) ?_
 rintro _ w1 ⟨⟨a5, rfl⟩, hs, hF⟩
 refine ⟨trivial, ?_⟩
 replace hT := hT.t hs; replace hw := hw.t hs
 refine yM 6 0 ?_
 refine aS (kq 7 (.call { callee := .builtin .append, args := #[(.tmp 5), (.tmp 6)], argTypes := #[24, 24] })) rfl rfl (a_appendE (α := Dcs) (C := col1 C) (e := 75) (bytes := 56) rfl rfl (by kernel_rfl) hw) ?_
 rintro v7 w2 ⟨rfl, hs⟩
 refine ⟨trivial, ?_⟩
 replace hF := hF.st hs
 replace hT := hT.t hs; replace hw := hw.t hs
 refine yA 2 7 ?_
 refine Sch.nil ?_
 refine run_ret1 (by kernel_rfl) Tryz.func125 Tryz.results125 rfl ?_
 exact ⟨C, hT.out1 (by decide), hF0.st (hT.out1 (by decide)), .inr ⟨rfl, _, rfl⟩⟩
theorem cloneDo2 {w₀ : World} {C : Nat → Nat} {xs : List Dcs} {px : Value} (hF : Lim w₀ C) (hw : RV w₀ (Mc C) xs px) (hne : xs ≠ []) (hlen : xs.length ≤ 1000000) (j : Nat) (hj : j ≠ 0) : Calls Tryz.prog 125 #[px] w₀ (Ret fun v w' => ∃ C', Stp [] w₀ C w' C' ∧ Lim w' C' ∧ AppL w' C' j 75 v xs) := by
 have hF0 := hF
 have hT := Stp.refl [2, 3, 4, 5, 6, 7, 8, 9] w₀ (col1 C)
 replace hF := hF.col1
 replace hw : RV w₀ (Mc (col1 C)) xs px := by rw [Mc_col1]; exact hw
 obtain ⟨a0, c0, he0, hcc, _, hs0⟩ := rv_list.1 hw
 obtain ⟨b0, rfl⟩ : ∃ b, a0 = some b := by
   rcases hs0 with h | ⟨b, o, rfl, _⟩
   · exact absurd h hne
   · exact ⟨_, rfl⟩
 clear hs0
 refine calls_start (c := F125.c0) (N := 8) [px] Tryz.func125 (by kernel_rfl) (by kernel_rfl) (by kernel_rfl) ?_
 show Run _ _ _ _ [(0, px)] _ _
 refine run_sq ?_
 refine run_pl [yy 0] ?_
 refine yV (kq 2 (.assign (.const (.slice none 0 0)))) (fun _ => val_assign rfl) ?_
 refine Sch.nil ?_
 refine run_sq ?_
 refine run_sq ?_
 refine run_pl [yy 0, yy 1] ?_
 refine yM 3 0 ?_
 refine yV (kq 4 (.binOp .eql 24 (.tmp 3) (.const (.slice none 0 0)) 24)) (fun _ => val_eqNilX ((show _ = some px from rfl).trans (congrArg some he0)) Tryz.underlying24) ?_
 refine Sch.nil ?_
 refine run_cF 4 ?_
 refine run_sk ?_
 refine run_sq ?_
 refine run_pl [nn 0, yy 1, nn 2, yy 3] ?_
 refine aS (kq 5 (.buildSlice 24 0 #[])) rfl rfl (a_buildEmptyX (n := 7) (e := 75) (bytes := 56) hF (by kernel_rfl)) ?_
 rintro _ w1 ⟨⟨a5, rfl⟩, hs, hF⟩
 refine ⟨trivial, ?_⟩
 replace hT := hT.t hs; replace hw := hw.t hs
 refine yM 6 0 ?_
 refine aS (kq 7 (.call { callee := .builtin .append, args := #[(.tmp 5), (.tmp 6)], argTypes := #[24, 24] })) rfl rfl (a_appendR (j := 5) (e := 75) (bytes := 56) (ys := ([] : List Dcs)) hF (by decide) rfl rfl (by kernel_rfl) (by decide) rv_empX hw hne (by simp only [List.length_nil]; omega) (by simp only [List.length_nil]; omega)) ?_
 rintro v7 w2 ⟨Cw2, hs, hn, hF⟩
 refine ⟨trivial, ?_⟩
 replace hT := hT.t hs; replace hw := hw.t hs
 refine yA 2 7 ?_
 refine Sch.nil ?_
 simp only [List.nil_append] at hn
 refine run_ret1 (by kernel_rfl) Tryz.func125 Tryz.results125 rfl ?_
 obtain ⟨Cg, hcg, hFg, hmg, hog⟩ := hn.give hT hF0 (Mc_col1 C) (fun b _ => col1_lt C (by decide) b) (by decide) j hj
 exact ⟨Cg, (hT.out1 (by decide)).give hcg, hFg, .inl hog⟩
theorem cloneDo {w₀ : World} {C : Nat → Nat} {xs : List Dcs} {px : Value} (hF : Lim w₀ C) (hw : RV w₀ (Mc C) xs px) (hlen : xs.length ≤ 1000000) (j : Nat) (hj : j ≠ 0) : Calls Tryz.prog 125 #[px] w₀ (Ret fun v w' => ∃ C', Stp [] w₀ C w' C' ∧ Lim w' C' ∧ AppL w' C' j 75 v xs) := by
  by_cases hne : xs = []
  · subst hne
    obtain ⟨a0, c0, he0, hcc, _, hs0⟩ := rv_list.1 hw
    have e0 : px = .slice a0 0 c0 := he0
    rcases a0 with _ | b0
    · subst e0; exact cloneDo0 hF hw j hj
    · exact cloneDo1 hF hw e0 j hj
  · exact cloneDo2 hF hw hne hlen j hj
theorem listDo {w₀ : World} {C : Nat → Nat} {xs : List Dcs} {px : Value} (hF : Lim w₀ C) (hw : RV w₀ (Mc C) xs px) (hlen : xs.length ≤ 1000000) (j : Nat) (hj : j ≠ 0) : Calls Tryz.prog 97 #[px] w₀ (Ret fun v w' => ∃ C', Stp [] w₀ C w' C' ∧ Lim w' C' ∧ AppL w' C' j 75 v xs) := by
 have hF0 := hF
 have hT := Stp.refl [2, 3, 4, 5, 6, 7, 8, 9] w₀ (col1 C)
 replace hF := hF.col1
 replace hw : RV w₀ (Mc (col1 C)) xs px := by rw [Mc_col1]; exact hw
 refine calls_start (c := F97.c0) (N := 5) [px] Tryz.func97 (by kernel_rfl) (by kernel_rfl) (by kernel_rfl) ?_
 show Run _ _ _ _ [(0, px)] _ _
 refine run_sq ?_
 refine run_pl [yy 0] ?_
 refine yV (kq 2 (.assign (.const (.slice none 0 0)))) (fun _ => val_assign rfl) ?_
 refine Sch.nil ?_
 refine run_sq ?_
 refine run_pl [yy 0, nn 1, yy 2] ?_
 refine yM 3 0 ?_
 refine cS (kq 4 (.call { callee := .value (.func 125), args := #[(.tmp 3)], argTypes := #[24] })) rfl rfl (ent Tryz.call125 rfl) (cloneDo hF hw hlen 3 (by decide)) ?_
 rintro vw1 w1 ⟨Cb, hs, hF, hn⟩
 refine ⟨trivial, ?_⟩
 replace hT := hT.t hs; replace hw := hw.t hs
 refine yA 2 4 ?_
 refine Sch.nil ?_
 refine run_ret1 (by kernel_rfl) Tryz.func97 Tryz.results97 rfl ?_
 obtain ⟨Cg, hcg, hFg, hmg, hog⟩ := hn.give hT hF0 (Mc_col1 C) (fun b _ => col1_lt C (by decide) b) (by decide) j hj
 exact ⟨Cg, (hT.out1 (by decide)).give hcg, hFg, hog⟩
/-- 'fresh.Review', the decisions to be appended to. -/
theorem freshD_ok {w₀ : World} {C : Nat → Nat} {bud : Int} {sh : List Shw} {ds : List Dcs} {vs vz : Value} (hF : Lim w₀ C) (hsh : RV w₀ (Mc C) sh vs) (hds : RV w₀ (Mc C) ds vz) (hl1 : sh.length ≤ 1000000) (hl2 : ds.length ≤ 1000000) (j : Nat) (hj : j ≠ 0) : Calls Tryz.prog 63 #[.agg #[.int .i64 bud, vs, vz]] w₀ (Ret fun v w' => ∃ vs2 vz2 C', v = .agg #[.int .i64 bud, vs2, vz2] ∧ Stp [] w₀ C w' C' ∧ Lim w' C' ∧ RV w' (Mc C') sh vs2 ∧ AppL w' C' j 75 vz2 ds) := by
 have hF0 := hF
 have hT := Stp.refl [2, 3, 4, 5, 6, 7, 8, 9] w₀ (col1 C)
 replace hF := hF.col1
 replace hsh : RV w₀ (Mc (col1 C)) sh vs := by rw [Mc_col1]; exact hsh
 replace hds : RV w₀ (Mc (col1 C)) ds vz := by rw [Mc_col1]; exact hds
 refine calls_start (c := F63.c0) (N := 12) [.agg #[.int .i64 bud, vs, vz]] Tryz.func63 (by kernel_rfl) (by kernel_rfl) (by kernel_rfl) ?_
 show Run _ _ _ _ [(0, .agg #[.int .i64 bud, vs, vz])] _ _
 refine run_sq ?_
 refine run_pl [nn 0, nn 1] ?_
 refine aS (kq 1 (.box 26 (.tmp 0))) rfl rfl (a_box (cs := [.int .i64 bud, vs, vz]) hF 3 rfl rfl) ?_
 rintro _ w1 ⟨Cw1, bw1, rfl, hs, hx, hF⟩
 refine ⟨trivial, ?_⟩
 replace hT := hT.t hs; replace hsh := hsh.t hs; replace hds := hds.t hs
 refine aS (kq 2 (.alloc 26)) rfl rfl (a_alloc (cs := [.int .i64 0, .slice none 0 0, .slice none 0 0]) hF 4 (by kernel_rfl)) ?_
 rintro _ w2 ⟨Cw2, bw2, rfl, hs, hy, hF⟩
 refine ⟨trivial, ?_⟩
 replace hT := hT.t hs; replace hsh := hsh.t hs; replace hds := hds.t hs; replace hx := hx.t hs
 refine Sch.nil ?_
 refine run_sq ?_
 refine run_bar (id := 1) (ops := F63.o1) [] (Cw2) 7 [yy 0, yy 1, yy 3, yy 4, nn 2, yy 6, nn 5] [yy 8, nn 9] Tryz_mixed (by kernel_rfl) (by kernel_rfl) (by kernel_rfl) ?_
 intro w3 hs
 replace hF := hF.st hs
 replace hT := hT.t hs; replace hsh := hsh.t hs; replace hds := hds.t hs; replace hx := hx.t hs; replace hy := hy.t hs
 have hR := Stp.refl [] w3 (Cw2)
 refine yF 3 26 1 1 1 ?_
 refine yS (kq 4 (.load 23 (.tmp 3))) rfl rfl (fun w' hS => val_loadOwn (hx.sy hS) (by kernel_rfl) rfl rfl) ?_
 refine yF 6 26 1 2 2 ?_
 refine yS (kq 7 (.load 24 (.tmp 6))) rfl rfl (fun w' hS => val_loadOwn (hx.sy hS) (by kernel_rfl) rfl rfl) ?_
 refine cS (kq 5 (.call { callee := .value (.func 96), args := #[(.tmp 4)], argTypes := #[23] })) rfl rfl (ent Tryz.call96 rfl) (listS_ok hF hsh (by omega)) ?_
 rintro vs2 w4 ⟨hs, hn⟩
 refine ⟨(hR.trans hs (by simp)).ext, ?_⟩
 replace hF := hF.st hs
 replace hT := hT.t hs; replace hsh := hsh.t hs; replace hds := hds.t hs; replace hx := hx.t hs; replace hy := hy.t hs; replace hR := hR.t hs
 refine yF 9 26 1 1 1 ?_
 refine cS (kq 8 (.call { callee := .value (.func 97), args := #[(.tmp 7)], argTypes := #[24] })) rfl rfl (ent Tryz.call97 rfl) (listDo hF hds (by omega) 6 (by decide)) ?_
 rintro vz2 w5 ⟨Cb, hs, hF, hm⟩
 refine ⟨(hR.trans hs (by simp)).ext, ?_⟩
 replace hT := hT.t hs; replace hsh := hsh.t hs; replace hds := hds.t hs; replace hx := hx.t hs; replace hy := hy.t hs; replace hR := hR.t hs; replace hn := hn.t hs
 refine bar_do hR.ext ?_
 refine aN (k0 (.store 23 (.tmp 9) (.tmp 5))) rfl (a_store1 rfl rfl (by kernel_rfl) (hn.one rfl).1 (hn.one rfl).2 hx (by simp)) ?_
 rintro _ w6 ⟨rfl, hs, hx⟩
 refine ⟨trivial, ?_⟩
 replace hF := hF.st hs
 replace hT := hT.t hs; replace hsh := hsh.t hs; replace hds := hds.t hs; replace hy := hy.t hs; replace hn := hn.t hs; replace hm := hm.t hs
 refine bar_next ?_
 refine yF 10 26 1 2 2 ?_
 refine aN (k0 (.store 24 (.tmp 10) (.tmp 8))) rfl (a_store1 rfl rfl (by kernel_rfl) hm.one.1 hm.one.2 hx (by simp)) ?_
 rintro _ w7 ⟨rfl, hs, hx⟩
 refine ⟨trivial, ?_⟩
 replace hF := hF.st hs
 replace hT := hT.t hs; replace hsh := hsh.t hs; replace hds := hds.t hs; replace hy := hy.t hs; replace hn := hn.t hs; replace hm := hm.t hs
 refine Sch.nil ?_
 refine run_sq ?_
 refine run_pl [nn 0, nn 1] ?_
 refine nS (kq 11 (.load 26 (.tmp 1))) rfl rfl trivial (val_loadOwnAgg (n := 3) (vs := [.int .i64 bud, vs2, vz2]) hx.at_ (by kernel_rfl) (by kernel_rfl) rfl rfl rfl) ?_
 refine aN (k0 (.store 26 (.tmp 2) (.tmp 11))) rfl (a_storeAll (vs := [.int .i64 bud, vs2, vz2]) (n := 3) rfl rfl (by kernel_rfl) rfl rfl (by intro u hu; simp only [List.mem_cons, List.not_mem_nil, or_false] at hu; rcases hu with rfl | rfl | rfl <;> first | rfl | exact (hn.one rfl).2 | exact hm.one.2) hy rfl) ?_
 rintro _ w8 ⟨rfl, hs, hy⟩
 refine ⟨trivial, ?_⟩
 replace hF := hF.st hs
 replace hT := hT.t hs; replace hsh := hsh.t hs; replace hds := hds.t hs; replace hx := hx.t hs; replace hn := hn.t hs; replace hm := hm.t hs
 refine Sch.nil ?_
 refine run_retC1 (by kernel_rfl) Tryz.func63 Tryz.results63 rfl hy.at_ (by kernel_rfl) (by kernel_rfl) rfl ?_
 obtain ⟨Cg, hcg, hFg, hmg, hog⟩ := hm.give hT hF0 (Mc_col1 C) (fun b _ => col1_lt C (by decide) b) (by decide) j hj
 exact ⟨vs2, vz2, Cg, rfl, (hT.out1 (by decide)).give hcg, hFg, hn.give hmg, hog⟩
end Go.Proofs.YtionghonhnedgaaGreat
