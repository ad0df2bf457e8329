/- Steps through functions of the program. -/
import Derived.Test.YtionghonhnedgaaGreatJV8
import Derived.Test.YtionghonhnedgaaGreatL1
set_option linter.unusedVariables false
set_option linter.unusedSimpArgs false
set_option maxRecDepth 100000
set_option maxHeartbeats 4000000
namespace Go.Proofs.YtionghonhnedgaaGreat
open Go.K Go.K.Rep

namespace F49
noncomputable def c0 := bodyOf Tryz.f49
noncomputable def c7 := (cl (cl (cr (cl (cr c0)))))
end F49
theorem tcheck_ok {w₀ : World} {C : Nat → Nat} {lo hh : Int} (hF : Lim w₀ C) (hK : TOK lo hh) : Calls Tryz.prog 49 #[.agg #[.int .i64 lo, .int .i64 hh]] w₀ (Ret fun v w' => v = .int .i64 0 ∧ Stp [] w₀ C w' C) := by
 have hF0 := hF
 have hT := Stp.refl [2, 3, 4, 5, 6, 7, 8, 9] w₀ (col1 C)
 replace hF := hF.col1
 refine calls_start (c := F49.c0) (N := 23) [.agg #[.int .i64 lo, .int .i64 hh]] Tryz.func49 (by kernel_rfl) (by kernel_rfl) (by kernel_rfl) ?_
 show Run _ _ _ _ [(0, .agg #[.int .i64 lo, .int .i64 hh])] _ _
 refine run_sq ?_
 refine run_pl [nn 0, yy 1] ?_
 refine aS (kq 1 (.box 30 (.tmp 0))) rfl rfl (a_box (cs := [.int .i64 lo, .int .i64 hh]) hF 3 rfl rfl) ?_
 rintro _ w1 ⟨Cw1, bw1, rfl, hs, hx, hF⟩
 refine ⟨trivial, ?_⟩
 replace hT := hT.t hs
 refine yAc 2 (.int .i64 0) ?_
 refine Sch.nil ?_
 refine run_sq ?_
 refine run_sq ?_
 refine run_pl [yy 0, nn 1, yy 2, yy 3, yy 4, nn 5, yy 6, yy 7, yy 8, yy 9, nn 10, yy 11, yy 12, yy 13, yy 14, nn 15, yy 16, nn 17, yy 18, yy 19] ?_
 refine yF 3 30 1 1 1 ?_
 refine nS (kq 4 (.load 3 (.tmp 3))) rfl rfl trivial (val_loadOwn hx.at_ (by kernel_rfl) rfl rfl) ?_
 refine yV (kq 5 (.binOp .lss 3 (.tmp 4) (.const (.int .i64 1)) 3)) (fun _ => val_is (val_lss rfl rfl) (show _ = Value.bool false from congrArg Value.bool (decide_eq_false (by have := hK.h1; have := hK.h2; have := hK.l1; have := hK.l2; omega)))) ?_
 refine yM 6 5 ?_
 refine yFg 7 30 1 1 1 3 false ?_
 refine nS (kg 8 (.load 3 (.tmp 7)) 3 false) rfl rfl trivial (val_loadOwn hx.at_ (by kernel_rfl) rfl rfl) ?_
 refine yV (kg 9 (.binOp .gtr 3 (.tmp 8) (.const (.int .i64 65536)) 3) 3 false) (fun _ => val_is (val_gtr rfl rfl) (show _ = Value.bool false from congrArg Value.bool (decide_eq_false (by have := hK.h1; have := hK.h2; have := hK.l1; have := hK.l2; omega)))) ?_
 refine yOf 10 6 9 ?_
 refine yM 11 10 ?_
 refine yFg 12 30 1 0 0 8 false ?_
 refine nS (kg 13 (.load 3 (.tmp 12)) 8 false) rfl rfl trivial (val_loadOwn hx.at_ (by kernel_rfl) rfl rfl) ?_
 refine yV (kg 14 (.binOp .lss 3 (.tmp 13) (.const (.int .i64 (-65536))) 3) 8 false) (fun _ => val_is (val_lss rfl rfl) (show _ = Value.bool false from congrArg Value.bool (decide_eq_false (by have := hK.h1; have := hK.h2; have := hK.l1; have := hK.l2; omega)))) ?_
 refine yOf 15 11 14 ?_
 refine yM 16 15 ?_
 refine yFg 17 30 1 0 0 13 false ?_
 refine nS (kg 18 (.load 3 (.tmp 17)) 13 false) rfl rfl trivial (val_loadOwn hx.at_ (by kernel_rfl) rfl rfl) ?_
 refine yFg 19 30 1 1 1 13 false ?_
 refine nS (kg 20 (.load 3 (.tmp 19)) 13 false) rfl rfl trivial (val_loadOwn hx.at_ (by kernel_rfl) rfl rfl) ?_
 refine yV (kg 21 (.binOp .gtr 3 (.tmp 18) (.tmp 20) 3) 13 false) (fun _ => val_is (val_gtr rfl rfl) (show _ = Value.bool false from congrArg Value.bool (decide_eq_false (by have := hK.h1; have := hK.h2; have := hK.l1; have := hK.l2; omega)))) ?_
 refine yOf 22 16 21 ?_
 refine Sch.nil ?_
 refine run_cF 22 ?_
 refine run_sk ?_
 refine run_sq ?_
 refine run_pl [yy 0] ?_
 refine yAc 2 (.int .i64 0) ?_
 refine Sch.nil ?_
 refine run_ret1 (by kernel_rfl) Tryz.func49 Tryz.results49 rfl ?_
 exact ⟨rfl, hT.out1 (by decide)⟩
namespace F50
noncomputable def c0 := bodyOf Tryz.f50
noncomputable def c7 := (cl (cr (cl (cl (cr c0)))))
noncomputable def c10 := (cr (cr (cl (cl (cr c0)))))
end F50
theorem class_ok {w₀ : World} {C : Nat → Nat} {lo hh s : Int} (hF : Lim w₀ C) : Calls Tryz.prog 50 #[.agg #[.int .i64 lo, .int .i64 hh], .int .i64 s] w₀ (Ret fun v w' => v = .int .i64 (clsT lo hh s) ∧ Stp [] w₀ C w' C) := by
 have hF0 := hF
 have hT := Stp.refl [2, 3, 4, 5, 6, 7, 8, 9] w₀ (col1 C)
 replace hF := hF.col1
 refine calls_start (c := F50.c0) (N := 15) [.agg #[.int .i64 lo, .int .i64 hh], .int .i64 s] Tryz.func50 (by kernel_rfl) (by kernel_rfl) (by kernel_rfl) ?_
 show Run _ _ _ _ [(0, .agg #[.int .i64 lo, .int .i64 hh]), (1, .int .i64 s)] _ _
 refine run_sq ?_
 refine run_pl [nn 0, yy 1] ?_
 refine aS (kq 2 (.box 30 (.tmp 0))) rfl rfl (a_box (cs := [.int .i64 lo, .int .i64 hh]) hF 3 rfl rfl) ?_
 rintro _ w1 ⟨Cw1, bw1, rfl, hs, hx, hF⟩
 refine ⟨trivial, ?_⟩
 replace hT := hT.t hs
 refine yAc 4 (.int .i64 0) ?_
 refine Sch.nil ?_
 refine run_sq ?_
 refine run_bk 0 ?_
 refine run_sq ?_
 refine run_pl [yy 0, yy 1, nn 2, yy 3, yy 4] ?_
 refine yM 6 1 ?_
 refine yF 7 30 2 1 1 ?_
 refine nS (kq 8 (.load 3 (.tmp 7))) rfl rfl trivial (val_loadOwn hx.at_ (by kernel_rfl) rfl rfl) ?_
 refine yV (kq 9 (.binOp .geq 3 (.tmp 6) (.tmp 8) 3)) (fun _ => val_geq rfl rfl) ?_
 refine yA 5 9 ?_
 refine Sch.nil ?_
 refine run_i 5 rfl (fun h5 => ?_) (fun h5 => ?_)
 ·
  refine run_sq ?_
  refine run_pl [yy 0] ?_
  refine yAc 4 (.int .i64 2) ?_
  refine Sch.nil ?_
  refine run_ret1 (by kernel_rfl) Tryz.func50 Tryz.results50 rfl ?_
  exact ⟨by unfold clsT; rw [if_pos h5], hT.out1 (by decide)⟩
 ·
  refine run_sq ?_
  refine run_pl [yy 0, yy 1, nn 2, yy 3, yy 4] ?_
  refine yM 11 1 ?_
  refine yF 12 30 2 0 0 ?_
  refine nS (kq 13 (.load 3 (.tmp 12))) rfl rfl trivial (val_loadOwn hx.at_ (by kernel_rfl) rfl rfl) ?_
  refine yV (kq 14 (.binOp .geq 3 (.tmp 11) (.tmp 13) 3)) (fun _ => val_geq rfl rfl) ?_
  refine yA 10 14 ?_
  refine Sch.nil ?_
  refine run_i 10 rfl (fun h10 => ?_) (fun h10 => ?_)
  ·
   refine run_sq ?_
   refine run_pl [yy 0] ?_
   refine yAc 4 (.int .i64 1) ?_
   refine Sch.nil ?_
   refine run_ret1 (by kernel_rfl) Tryz.func50 Tryz.results50 rfl ?_
   exact ⟨by unfold clsT; rw [if_neg h5, if_pos h10], hT.out1 (by decide)⟩
  ·
   refine run_sk ?_
   refine run_inBlock ?_
   refine run_sq ?_
   refine run_pl [yy 0] ?_
   refine yAc 4 (.int .i64 0) ?_
   refine Sch.nil ?_
   refine run_ret1 (by kernel_rfl) Tryz.func50 Tryz.results50 rfl ?_
   exact ⟨by unfold clsT; rw [if_neg h5, if_neg h10], hT.out1 (by decide)⟩
namespace F23
noncomputable def c0 := bodyOf Tryz.f23
noncomputable def c8 := (cl (cr (cl (cr (cr c0)))))
noncomputable def c15 := (cl (cr (cr (cr (cr c0)))))
noncomputable def c16 := (cr (cr (cr (cr (cr c0)))))
noncomputable def c22 := (cl (cl (cl (cr (cl c16)))))
noncomputable def c23 := (cr (cl (cl (cr (cl c16)))))
noncomputable def c32 := (cl (cr (cl (cl (cr c23)))))
noncomputable def c37 := (cr (cr (cl (cl (cr c23)))))
noncomputable def c46 := (cl (cl (cr (cl (cr c16)))))
end F23
/-- 'Fields', of what is valid. -/
theorem fields_ok {w₀ : World} {C : Nat → Nat} {pr : Int} {ag df : List Int} {va vd : Value} {lo hh : Int} {p : Nat} (hF : Lim w₀ C) (hW : WOK pr ag df) (ha : RV w₀ (Mc C) ag va) (hd : RV w₀ (Mc C) df vd) (hK : TOK lo hh) (hp : p < 3 ^ ag.length) : Calls Tryz.prog 23 #[.agg #[.int .i64 pr, va, vd], .agg #[.int .i64 lo, .int .i64 hh], .int .i64 p] w₀ (Ret fun v w' => ∃ u fl ok, v = .tuple #[u, .bool ok] ∧ Stp [] w₀ C w' C ∧ RV w' (Mc C) fl u ∧ FldS pr ag df lo hh p fl ok) := by
 have hF0 := hF
 have hT := Stp.refl [2, 3, 4, 5, 6, 7, 8, 9] w₀ (col1 C)
 replace hF := hF.col1
 replace ha : RV w₀ (Mc (col1 C)) ag va := by rw [Mc_col1]; exact ha
 replace hd : RV w₀ (Mc (col1 C)) df vd := by rw [Mc_col1]; exact hd
 refine calls_start (c := F23.c0) (N := 71) [.agg #[.int .i64 pr, va, vd], .agg #[.int .i64 lo, .int .i64 hh], .int .i64 p] Tryz.func23 (by kernel_rfl) (by kernel_rfl) (by kernel_rfl) ?_
 show Run _ _ _ _ [(0, .agg #[.int .i64 pr, va, vd]), (1, .agg #[.int .i64 lo, .int .i64 hh]), (2, .int .i64 p)] _ _
 refine run_sq ?_
 refine run_pl [nn 0, nn 1, yy 2, yy 3] ?_
 refine aS (kq 3 (.box 28 (.tmp 0))) rfl rfl (a_box (cs := [.int .i64 pr, va, vd]) hF 3 rfl rfl) ?_
 rintro _ w1 ⟨Cw1, bw1, rfl, hs, hx, hF⟩
 refine ⟨trivial, ?_⟩
 replace hT := hT.t hs; replace ha := ha.t hs; replace hd := hd.t hs
 refine aS (kq 4 (.box 30 (.tmp 1))) rfl rfl (a_box (cs := [.int .i64 lo, .int .i64 hh]) hF 4 rfl rfl) ?_
 rintro _ w2 ⟨Cw2, bw2, rfl, hs, hy, hF⟩
 refine ⟨trivial, ?_⟩
 replace hT := hT.t hs; replace ha := ha.t hs; replace hd := hd.t hs; replace hx := hx.t hs
 refine yV (kq 6 (.assign (.const (.slice none 0 0)))) (fun _ => val_assign rfl) ?_
 refine yAc 7 (.bool false) ?_
 refine Sch.nil ?_
 refine run_sq ?_
 refine run_pl [nn 0, yy 1, nn 2, yy 3, yy 4, yy 5, yy 6, yy 7] ?_
 refine nS (kq 16 (.load 28 (.tmp 3))) rfl rfl trivial (val_loadOwnAgg (n := 3) (vs := [.int .i64 pr, va, vd]) hx.at_ (by kernel_rfl) (by kernel_rfl) rfl rfl rfl) ?_
 refine yM 17 2 ?_
 refine cS (kq 18 (.call { callee := .value (.func 33), args := #[(.tmp 16), (.tmp 17)], argTypes := #[28, 3] })) rfl rfl (ent Tryz.call33 rfl) (wscore_ok hF hW ha hd hp) ?_
 rintro vw3 w3 ⟨rfl, hs⟩
 refine ⟨trivial, ?_⟩
 replace hF := hF.st hs
 replace hT := hT.t hs; replace ha := ha.t hs; replace hd := hd.t hs; replace hx := hx.t hs; replace hy := hy.t hs
 obtain ⟨s, hsc⟩ : ∃ s, s = scN pr ag df p ag.length := ⟨_, rfl⟩
 have hsb := hW.sc p (Nat.le_refl ag.length)
 rw [← hsc] at hsb ⊢
 refine yM 15 18 ?_
 refine yV (kq 19 (.extract (.tmp 15) 0)) (fun _ => val_extract rfl rfl) ?_
 refine yV (kq 20 (.extract (.tmp 15) 1)) (fun _ => val_extract rfl rfl) ?_
 refine yA 8 19 ?_
 refine yA 9 20 ?_
 refine Sch.nil ?_
 refine run_sq ?_
 refine run_sq ?_
 refine run_pl [yy 0, yy 1, yy 2, nn 3, nn 4, yy 5, yy 6, yy 7, nn 8, yy 9, nn 10, yy 11, yy 12] ?_
 refine yM 21 9 ?_
 refine yV (kq 22 (.binOp .neq 52 (.tmp 21) (.const (.int .i64 0)) 52)) (fun _ => val_is (val_neq rfl rfl) (show _ = Value.bool false from congrArg Value.bool (decide_eq_false (by decide)))) ?_
 refine yM 23 22 ?_
 refine nS (kg 24 (.load 30 (.tmp 4)) 2 false) rfl rfl trivial (val_loadOwnAgg (n := 2) (vs := [.int .i64 lo, .int .i64 hh]) hy.at_ (by kernel_rfl) (by kernel_rfl) rfl rfl rfl) ?_
 refine cS (kg 25 (.call { callee := .value (.func 49), args := #[(.tmp 24)], argTypes := #[30] }) 2 false) rfl rfl (ent Tryz.call49 rfl) (tcheck_ok hF hK) ?_
 rintro vw4 w4 ⟨rfl, hs⟩
 refine ⟨trivial, ?_⟩
 replace hF := hF.st hs
 replace hT := hT.t hs; replace ha := ha.t hs; replace hd := hd.t hs; replace hx := hx.t hs; replace hy := hy.t hs
 refine yV (kg 26 (.binOp .neq 52 (.tmp 25) (.const (.int .i64 0)) 52) 2 false) (fun _ => val_is (val_neq rfl rfl) (show _ = Value.bool false from congrArg Value.bool (decide_eq_false (by decide)))) ?_
 refine yOf 27 23 26 ?_
 refine yM 28 27 ?_
 refine nS (kg 29 (.load 30 (.tmp 4)) 7 false) rfl rfl trivial (val_loadOwnAgg (n := 2) (vs := [.int .i64 lo, .int .i64 hh]) hy.at_ (by kernel_rfl) (by kernel_rfl) rfl rfl rfl) ?_
 refine yMg 30 8 7 false ?_
 refine cS (kg 31 (.call { callee := .value (.func 50), args := #[(.tmp 29), (.tmp 30)], argTypes := #[30, 3] }) 7 false) rfl rfl (ent Tryz.call50 rfl) (class_ok hF) ?_
 rintro vw5 w5 ⟨rfl, hs⟩
 refine ⟨trivial, ?_⟩
 replace hF := hF.st hs
 replace hT := hT.t hs; replace ha := ha.t hs; replace hd := hd.t hs; replace hx := hx.t hs; replace hy := hy.t hs
 refine yV (kg 32 (.binOp .neq 3 (.tmp 31) (.const (.int .i64 1)) 3) 7 false) (fun _ => val_neq rfl rfl) ?_
 refine yOf 33 28 32 ?_
 refine Sch.nil ?_
 refine run_i 33 rfl (fun h33 => ?_) (fun h33 => ?_)
 ·
  have hgr : ¬ (lo ≤ s ∧ s < hh) := fun e => h33 (by unfold clsT; rw [if_neg (by omega), if_pos e.1])
  refine run_sq ?_
  refine run_pl [yy 0, yy 1] ?_
  refine yV (kq 6 (.assign (.const (.slice none 0 0)))) (fun _ => val_assign rfl) ?_
  refine yAc 7 (.bool false) ?_
  refine Sch.nil ?_
  refine run_ret2 (by kernel_rfl) Tryz.func23 Tryz.results23 rfl rfl ?_
  exact ⟨_, [], false, rfl, hT.out1 (by decide), rv_nil, .inl ⟨by rw [← hsc]; exact hgr, rfl, rfl⟩⟩
 ·
  have hgr : lo ≤ s ∧ s < hh := by
    apply Classical.byContradiction
    intro hn
    apply h33
    unfold clsT
    split
    · decide
    · split
      · omega
      · decide
  refine run_sk ?_
  refine run_sq ?_
  refine run_pl [yy 0, yy 1, nn 2, yy 3, nn 4, yy 5, yy 6, yy 7, yy 8, yy 9] ?_
  refine yM 35 2 ?_
  refine yF 36 28 3 1 1 ?_
  refine nS (kq 37 (.load 22 (.tmp 36))) rfl rfl trivial (val_loadOwn hx.at_ (by kernel_rfl) rfl rfl) ?_
  refine yS (kq 38 (.call { callee := .builtin .len, args := #[(.tmp 37)], argTypes := #[22] })) rfl rfl (fun w' hS => ha.lenV rfl Tryz.underlying22 w' ) ?_
  refine cS (kq 39 (.call { callee := .value (.func 51), args := #[(.tmp 35), (.tmp 38)], argTypes := #[3, 3] })) rfl rfl (ent Tryz.call51 rfl) (digits_ok hF hW.l1 hW.l5 hp) ?_
  rintro vw6 w6 ⟨ug, rfl, hs, hg⟩
  refine ⟨trivial, ?_⟩
  replace hF := hF.st hs
  replace hT := hT.t hs; replace ha := ha.t hs; replace hd := hd.t hs; replace hx := hx.t hs; replace hy := hy.t hs
  refine yM 34 39 ?_
  refine yV (kq 40 (.extract (.tmp 34) 0)) (fun _ => val_extract rfl rfl) ?_
  refine yV (kq 41 (.extract (.tmp 34) 1)) (fun _ => val_extract rfl rfl) ?_
  refine yA 10 40 ?_
  refine yA 11 41 ?_
  refine Sch.nil ?_
  refine run_sq ?_
  refine run_pl [yy 0] ?_
  refine yV (kq 12 (.assign (.const (.slice none 0 0)))) (fun _ => val_assign rfl) ?_
  refine Sch.nil ?_
  refine run_sq ?_
  refine run_sq ?_
  refine run_pl [nn 0, yy 1, nn 2, yy 3, yy 4] ?_
  refine nS (kq 42 (.load 28 (.tmp 3))) rfl rfl trivial (val_loadOwnAgg (n := 3) (vs := [.int .i64 pr, va, vd]) hx.at_ (by kernel_rfl) (by kernel_rfl) rfl rfl rfl) ?_
  refine yM 43 10 ?_
  refine cS (kq 44 (.call { callee := .value (.func 52), args := #[(.tmp 42), (.tmp 43)], argTypes := #[28, 22] })) rfl rfl (ent Tryz.call52 rfl) (gains_ok hF hW ha hd hg) ?_
  rintro vg w7 ⟨hs, hgs, hSt⟩
  obtain ⟨gs, hge⟩ : ∃ gs, gs = stS cmpG (gnL ag df p ag.length) := ⟨_, rfl⟩
  rw [← hge] at hgs hSt
  refine ⟨trivial, ?_⟩
  replace hF := hF.st hs
  replace hT := hT.t hs; replace ha := ha.t hs; replace hd := hd.t hs; replace hx := hx.t hs; replace hy := hy.t hs; replace hg := hg.t hs
  have hgl := hSt.len
  have hgn := gnL_len ag df p ag.length
  have hw5 := hW.l5
  have hgb : ∀ x ∈ gs, 0 < x.b ∧ x.b ≤ 131072 := fun x hx => by have := hW.gain_b (hSt.sub x hx); omega
  refine yS (kq 45 (.call { callee := .builtin .len, args := #[(.tmp 44)], argTypes := #[95] })) rfl rfl (fun w' hS => hgs.lenV rfl Tryz.underlying95 w' ) ?_
  refine yV (kq 46 (.move (.const (.int .i64 0)))) (fun _ => val_move rfl) ?_
  refine Sch.nil ?_
  refine run_bk 0 ?_
  
  refine run_lp (ι := Nat × Value × (Nat → Nat)) (I := fun x w => x.1 ≤ gs.length ∧ (∀ j, j < x.1 → preG s gs j < hh) ∧ Lim w x.2.2 ∧ Stp [2, 3, 4, 5, 6, 7, 8, 9] w₀ (col1 C) w x.2.2 ∧ RV w (Mc x.2.2) gs vg ∧ OwnB w x.2.2 4 bw2 (.cells [.int .i64 lo, .int .i64 hh].toArray 30) ∧ OwnL w x.2.2 5 3 x.2.1 ((gs.take x.1).map (fun x : Couple => x.a))) (e := fun x => [(4, .pointer (some ⟨bw2, 0, none⟩)), (8, .int .i64 (preG s gs x.1)), (12, x.2.1), (44, vg), (45, .int .i64 gs.length), (46, .int .i64 x.1)]) (m := fun x => gs.length - x.1) (x₀ := (0, .slice none 0 0, Cw2)) (sr 4 (sr 8 (sr 12 (sr 44 (sr 45 (sr 46 (sub_nil _))))))) ?_ ?_
  · exact ⟨Nat.zero_le _, fun j hj => by simp only at hj; omega, hF, hT, hgs, hy, OwnL.nil⟩
  intro ⟨k, vo, C1⟩ w8 hI next
  obtain ⟨hk, hlt, hF, hT, hgs, hy, ho⟩ := hI
  try simp only at hk hlt hF hT hgs hy ho
  have next1 := next
  clear next
  show Run _ _ _ _ [(4, .pointer (some ⟨bw2, 0, none⟩)), (8, .int .i64 (preG s gs k)), (12, vo), (44, vg), (45, .int .i64 gs.length), (46, .int .i64 k)] _ _
  have hpb := preG_b (s := s) hgb k hk
  have htl : ((gs.take k).map (fun x : Couple => x.a)).length = k := by rw [List.length_map, List.length_take]; omega
  refine run_sq ?_
  refine run_pl [yy 0] ?_
  refine yV (kq 47 (.binOp .lss 3 (.tmp 46) (.tmp 45) 3)) (fun _ => val_lss rfl rfl) ?_
  refine Sch.nil ?_
  refine run_sq ?_
  refine run_i 47 rfl (fun h47 => ?_) (fun h47 => ?_)
  ·
   have hkl : k < gs.length := by omega
   have hp1 := hgb _ (List.getElem_mem hkl)
   have hps : preG s gs (k + 1) = preG s gs k + (gs[k]'hkl).b := by rw [preG, getD_in hkl]
   refine run_sk ?_
   refine run_sq ?_
   refine run_bk 1 ?_
   refine run_sq ?_
   refine run_pl [yy 0, nn 1, nn 2, nn 3] ?_
   refine iS (e := 98) (kq 48 (.indexAddr 95 (.tmp 44) (.tmp 46))) rfl rfl hgs rfl (by kernel_rfl) rfl (by omega) (by omega) ?_
   intro b48 o48 h48
   try simp only [Int.toNat_natCast] at h48
   refine lNA (kq 49 (.load 98 (.tmp 48))) rfl rfl trivial h48 (by kernel_rfl) (by kernel_rfl) rfl rfl ?_
   intro v49 g49
   obtain rfl := rv_couple.1 g49
   refine aS (kq 14 (.alloc 98)) rfl rfl (a_alloc (cs := [.int .i64 0, .int .i64 0]) hF 6 (by kernel_rfl)) ?_
   rintro _ w9 ⟨Cw9, bw9, rfl, hs, hb, hF⟩
   refine ⟨trivial, ?_⟩
   replace hT := hT.t hs; replace hgs := hgs.t hs; replace hy := hy.t hs; replace ho := ho.t hs; replace h48 := h48.t hs
   refine aN (k0 (.store 98 (.tmp 14) (.tmp 49))) rfl (a_storeAll (vs := encR ((gs[k]'hkl))) (n := 2) rfl rfl (by kernel_rfl) rfl rfl (by intro u hu; simp only [encR, List.mem_cons, List.not_mem_nil, or_false] at hu; rcases hu with rfl | rfl <;> rfl) hb rfl) ?_
   rintro _ w10 ⟨rfl, hs, hb⟩
   refine ⟨trivial, ?_⟩
   replace hF := hF.st hs
   replace hT := hT.t hs; replace hgs := hgs.t hs; replace hy := hy.t hs; replace ho := ho.t hs; replace h48 := h48.t hs
   refine Sch.nil ?_
   refine run_sq ?_
   refine run_sq ?_
   refine run_pl [yy 0, yy 1, nn 2, yy 3] ?_
   refine yM 50 8 ?_
   refine yF 51 30 4 1 1 ?_
   refine nS (kq 52 (.load 3 (.tmp 51))) rfl rfl trivial (val_loadOwn hy.at_ (by kernel_rfl) rfl rfl) ?_
   refine yV (kq 53 (.binOp .geq 3 (.tmp 50) (.tmp 52) 3)) (fun _ => val_geq rfl rfl) ?_
   refine Sch.nil ?_
   refine run_i 53 rfl (fun h53 => ?_) (fun h53 => ?_)
   ·
    refine run_ex 0 ?_
    refine run_sq ?_
    refine run_sq ?_
    refine run_pl [yy 0, yy 1, nn 2, yy 3] ?_
    refine yM 64 8 ?_
    refine yF 65 30 4 1 1 ?_
    refine nS (kq 66 (.load 3 (.tmp 65))) rfl rfl trivial (val_loadOwn hy.at_ (by kernel_rfl) rfl rfl) ?_
    refine yV (kq 67 (.binOp .lss 3 (.tmp 64) (.tmp 66) 3)) (fun _ => val_lss rfl rfl) ?_
    refine Sch.nil ?_
    refine run_i 67 rfl (fun h67 => ?_) (fun h67 => ?_)
    ·
     exact absurd h67 (by omega)
    ·
     refine run_sk ?_
     refine run_sq ?_
     refine run_pl [yy 0, nn 1] ?_
     refine yM 68 12 ?_
     refine cS (kq 69 (.call { callee := .value (.func 53), args := #[(.tmp 68)], argTypes := #[22] })) rfl rfl (ent Tryz.call53 rfl) (sortI_ok hF (by decide) ho (by omega)) ?_
     rintro vw11 w11 ⟨rfl, fl, hSt2, hs, ho, hF⟩
     have hfl := hSt2.len
     refine ⟨trivial, ?_⟩
     replace hT := hT.t hs; replace hgs := hgs.t hs; replace hy := hy.t hs; replace h48 := h48.t hs; replace hb := hb.t hs
     refine Sch.nil ?_
     refine run_sq ?_
     refine run_pl [yy 0, yy 1, yy 2] ?_
     refine yM 70 12 ?_
     refine yA 6 70 ?_
     refine yAc 7 (.bool true) ?_
     refine Sch.nil ?_
     refine run_ret2 (by kernel_rfl) Tryz.func23 Tryz.results23 rfl rfl ?_
     exact ⟨_, fl, true, rfl, hT.out1 (by decide), ho.out hT hF0 (Mc_col1 C) (fun b _ => col1_lt C (by decide) b) (by omega), .inr ⟨by rw [← hsc]; exact hgr, gs, k, hSt, hk, by rw [← hsc]; exact hlt, .inr ⟨by rw [← hsc]; omega, rfl, hSt2⟩⟩⟩
   ·
    have hlt2 : ∀ j, j < k + 1 → preG s gs j < hh := by
      intro j hj
      by_cases e : j = k
      · subst e; omega
      · exact hlt j (by omega)
    refine run_sk ?_
    refine run_sq ?_
    refine run_pl [yy 0, yy 1, nn 2, nn 3, nn 4, yy 5] ?_
    refine yM 54 12 ?_
    refine yF 55 98 14 0 0 ?_
    refine nS (kq 56 (.load 3 (.tmp 55))) rfl rfl trivial (val_loadOwn hb.at_ (by kernel_rfl) rfl rfl) ?_
    refine aS (kq 57 (.buildSlice 22 1 #[(0, (.tmp 56))])) rfl rfl (a_buildSlice (ys := ([(gs[k]'hkl).a] : List Int)) (e := 3) (bytes := 8) hF (by kernel_rfl) rfl (by decide) (by decide) ⟨rfl, ⟨_, rfl, rv_int.2 rfl⟩, trivial⟩) ?_
    rintro v57 w12 ⟨hs, g57, hF⟩
    refine ⟨trivial, ?_⟩
    replace hT := hT.t hs; replace hgs := hgs.t hs; replace hy := hy.t hs; replace ho := ho.t hs; replace h48 := h48.t hs; replace hb := hb.t hs
    refine aS (kq 58 (.call { callee := .builtin .append, args := #[(.tmp 54), (.tmp 57)], argTypes := #[22, 22] })) rfl rfl (a_append (e := 3) (bytes := 8) hF (by decide) rfl rfl (by kernel_rfl) (by decide) ho g57 (by simp only [List.length_cons, List.length_nil]; omega) (by simp only [List.length_cons, List.length_nil]; omega)) ?_
    rintro v58 w13 ⟨Cw13, hs, ho, hF⟩
    refine ⟨trivial, ?_⟩
    replace hT := hT.t hs; replace hgs := hgs.t hs; replace hy := hy.t hs; replace h48 := h48.t hs; replace hb := hb.t hs; replace g57 := g57.t hs
    refine yA 12 58 ?_
    refine Sch.nil ?_
    refine run_pl [yy 0, yy 1, nn 2, yy 3, yy 4] ?_
    refine yM 59 8 ?_
    refine yF 60 98 14 1 1 ?_
    refine nS (kq 61 (.load 3 (.tmp 60))) rfl rfl trivial (val_loadOwn hb.at_ (by kernel_rfl) rfl rfl) ?_
    refine yV (kq 62 (.binOp .add 3 (.tmp 59) (.tmp 61) 3)) (fun _ => val_addi rfl rfl (by omega) (by omega)) ?_
    refine yA 8 62 ?_
    refine Sch.nil ?_
    refine run_inBlock ?_
    refine run_pl [yy 0, yy 1] ?_
    refine yV (kq 63 (.binOp .add 3 (.tmp 46) (.const (.int .i64 1)) 3)) (fun _ => val_addi rfl rfl (by omega) (by omega)) ?_
    refine yM 46 63 ?_
    refine Sch.nil ?_
    refine kp (sub_cons 4 rfl rfl (sub_cons 8 rfl (eq_int (by simp only; rw [hps])) (sub_cons 12 rfl rfl (sub_cons 44 rfl rfl (sub_cons 45 rfl rfl (sub_cons 46 rfl (eq_int (by simp)) (sub_nil _))))))) (next1 (k + 1, v58, Cw13) _ ⟨(by first | omega | (simp only; omega)), hlt2, hF, hT, hgs, hy, (by rw [List.take_succ_eq_append_getElem hkl, List.map_append]; exact ho)⟩ (by first | omega | (simp only; omega)))
  ·
   have hkl : k = gs.length := by omega
   refine run_ex 0 ?_
   refine run_sq ?_
   refine run_sq ?_
   refine run_pl [yy 0, yy 1, nn 2, yy 3] ?_
   refine yM 64 8 ?_
   refine yF 65 30 4 1 1 ?_
   refine nS (kq 66 (.load 3 (.tmp 65))) rfl rfl trivial (val_loadOwn hy.at_ (by kernel_rfl) rfl rfl) ?_
   refine yV (kq 67 (.binOp .lss 3 (.tmp 64) (.tmp 66) 3)) (fun _ => val_lss rfl rfl) ?_
   refine Sch.nil ?_
   refine run_i 67 rfl (fun h67 => ?_) (fun h67 => ?_)
   ·
    refine run_sq ?_
    refine run_pl [yy 0, yy 1] ?_
    refine yV (kq 6 (.assign (.const (.slice none 0 0)))) (fun _ => val_assign rfl) ?_
    refine yAc 7 (.bool false) ?_
    refine Sch.nil ?_
    refine run_ret2 (by kernel_rfl) Tryz.func23 Tryz.results23 rfl rfl ?_
    exact ⟨_, [], false, rfl, hT.out1 (by decide), rv_nil, .inr ⟨by rw [← hsc]; exact hgr, gs, k, hSt, hk, by rw [← hsc]; exact hlt, .inl ⟨by rw [← hsc]; exact h67, hkl, rfl, rfl⟩⟩⟩
   ·
    refine run_sk ?_
    refine run_sq ?_
    refine run_pl [yy 0, nn 1] ?_
    refine yM 68 12 ?_
    refine cS (kq 69 (.call { callee := .value (.func 53), args := #[(.tmp 68)], argTypes := #[22] })) rfl rfl (ent Tryz.call53 rfl) (sortI_ok hF (by decide) ho (by omega)) ?_
    rintro vw14 w14 ⟨rfl, fl, hSt2, hs, ho, hF⟩
    have hfl := hSt2.len
    refine ⟨trivial, ?_⟩
    replace hT := hT.t hs; replace hgs := hgs.t hs; replace hy := hy.t hs
    refine Sch.nil ?_
    refine run_sq ?_
    refine run_pl [yy 0, yy 1, yy 2] ?_
    refine yM 70 12 ?_
    refine yA 6 70 ?_
    refine yAc 7 (.bool true) ?_
    refine Sch.nil ?_
    refine run_ret2 (by kernel_rfl) Tryz.func23 Tryz.results23 rfl rfl ?_
    exact ⟨_, fl, true, rfl, hT.out1 (by decide), ho.out hT hF0 (Mc_col1 C) (fun b _ => col1_lt C (by decide) b) (by omega), .inr ⟨by rw [← hsc]; exact hgr, gs, k, hSt, hk, by rw [← hsc]; exact hlt, .inr ⟨by rw [← hsc]; omega, rfl, hSt2⟩⟩⟩
end Go.Proofs.YtionghonhnedgaaGreat
