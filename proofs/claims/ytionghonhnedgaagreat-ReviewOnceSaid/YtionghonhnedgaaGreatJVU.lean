/- Steps through functions of the program. -/
import Derived.Test.YtionghonhnedgaaGreatJVP
import Derived.Test.YtionghonhnedgaaGreatL2
set_option linter.unusedVariables false
set_option linter.unusedSimpArgs false
set_option maxRecDepth 100000
set_option maxHeartbeats 4000000
namespace Go.Proofs.YtionghonhnedgaaGreat
open Go.K Go.K.Rep

namespace F54
noncomputable def c0 := bodyOf Tryz.f54
noncomputable def c7 := (cl (cl (cr (cl (cr c0)))))
end F54
theorem tcheck27_ok {w₀ : World} {C : Nat → Nat} {lo hh : Int} (hF : Lim w₀ C) (hK : TOK lo hh) : Calls Tryz.prog 54 #[.agg #[.int .i64 lo, .int .i64 hh]] w₀ (Ret fun v w' => v = .int .i64 0 ∧ Stp [] w₀ C w' C) := by
 have hF0 := hF
 have hT := Stp.refl [2, 3, 4, 5, 6, 7, 8, 9] w₀ (col1 C)
 replace hF := hF.col1
 refine calls_start (c := F54.c0) (N := 23) [.agg #[.int .i64 lo, .int .i64 hh]] Tryz.func54 (by kernel_rfl) (by kernel_rfl) (by kernel_rfl) ?_
 show Run _ _ _ _ [(0, .agg #[.int .i64 lo, .int .i64 hh])] _ _
 refine run_sq ?_
 refine run_pl [nn 0, yy 1] ?_
 refine aS (kq 1 (.box 30 (.tmp 0))) rfl rfl (a_box (cs := [.int .i64 lo, .int .i64 hh]) hF 3 rfl rfl) ?_
 rintro _ w1 ⟨Cw1, bw1, rfl, hs, hx, hF⟩
 refine ⟨trivial, ?_⟩
 replace hT := hT.t hs
 refine yAc 2 (.int .i64 0) ?_
 refine Sch.nil ?_
 refine run_sq ?_
 refine run_sq ?_
 refine run_pl [yy 0, nn 1, yy 2, yy 3, yy 4, nn 5, yy 6, yy 7, yy 8, yy 9, nn 10, yy 11, yy 12, yy 13, yy 14, nn 15, yy 16, nn 17, yy 18, yy 19] ?_
 refine yF 3 30 1 1 1 ?_
 refine nS (kq 4 (.load 3 (.tmp 3))) rfl rfl trivial (val_loadOwn hx.at_ (by kernel_rfl) rfl rfl) ?_
 refine yV (kq 5 (.binOp .lss 3 (.tmp 4) (.const (.int .i64 1)) 3)) (fun _ => val_is (val_lss rfl rfl) (show _ = Value.bool false from congrArg Value.bool (decide_eq_false (by have := hK.h1; have := hK.h2; have := hK.l1; have := hK.l2; omega)))) ?_
 refine yM 6 5 ?_
 refine yFg 7 30 1 1 1 3 false ?_
 refine nS (kg 8 (.load 3 (.tmp 7)) 3 false) rfl rfl trivial (val_loadOwn hx.at_ (by kernel_rfl) rfl rfl) ?_
 refine yV (kg 9 (.binOp .gtr 3 (.tmp 8) (.const (.int .i64 65536)) 3) 3 false) (fun _ => val_is (val_gtr rfl rfl) (show _ = Value.bool false from congrArg Value.bool (decide_eq_false (by have := hK.h1; have := hK.h2; have := hK.l1; have := hK.l2; omega)))) ?_
 refine yOf 10 6 9 ?_
 refine yM 11 10 ?_
 refine yFg 12 30 1 0 0 8 false ?_
 refine nS (kg 13 (.load 3 (.tmp 12)) 8 false) rfl rfl trivial (val_loadOwn hx.at_ (by kernel_rfl) rfl rfl) ?_
 refine yV (kg 14 (.binOp .lss 3 (.tmp 13) (.const (.int .i64 (-65536))) 3) 8 false) (fun _ => val_is (val_lss rfl rfl) (show _ = Value.bool false from congrArg Value.bool (decide_eq_false (by have := hK.h1; have := hK.h2; have := hK.l1; have := hK.l2; omega)))) ?_
 refine yOf 15 11 14 ?_
 refine yM 16 15 ?_
 refine yFg 17 30 1 0 0 13 false ?_
 refine nS (kg 18 (.load 3 (.tmp 17)) 13 false) rfl rfl trivial (val_loadOwn hx.at_ (by kernel_rfl) rfl rfl) ?_
 refine yFg 19 30 1 1 1 13 false ?_
 refine nS (kg 20 (.load 3 (.tmp 19)) 13 false) rfl rfl trivial (val_loadOwn hx.at_ (by kernel_rfl) rfl rfl) ?_
 refine yV (kg 21 (.binOp .gtr 3 (.tmp 18) (.tmp 20) 3) 13 false) (fun _ => val_is (val_gtr rfl rfl) (show _ = Value.bool false from congrArg Value.bool (decide_eq_false (by have := hK.h1; have := hK.h2; have := hK.l1; have := hK.l2; omega)))) ?_
 refine yOf 22 16 21 ?_
 refine Sch.nil ?_
 refine run_cF 22 ?_
 refine run_sk ?_
 refine run_sq ?_
 refine run_pl [yy 0] ?_
 refine yAc 2 (.int .i64 0) ?_
 refine Sch.nil ?_
 refine run_ret1 (by kernel_rfl) Tryz.func54 Tryz.results54 rfl ?_
 exact ⟨rfl, hT.out1 (by decide)⟩
namespace F55
noncomputable def c0 := bodyOf Tryz.f55
noncomputable def c7 := (cl (cl (cr (cl (cr c0)))))
noncomputable def c14 := (cl (cr (cl (cr (cr c0)))))
end F55
theorem class27_ok {w₀ : World} {C : Nat → Nat} {lo hh s : Int} (hF : Lim w₀ C) : Calls Tryz.prog 55 #[.agg #[.int .i64 lo, .int .i64 hh], .int .i64 s] w₀ (Ret fun v w' => v = .int .i64 (clsT lo hh s) ∧ Stp [] w₀ C w' C) := by
 have hF0 := hF
 have hT := Stp.refl [2, 3, 4, 5, 6, 7, 8, 9] w₀ (col1 C)
 replace hF := hF.col1
 refine calls_start (c := F55.c0) (N := 13) [.agg #[.int .i64 lo, .int .i64 hh], .int .i64 s] Tryz.func55 (by kernel_rfl) (by kernel_rfl) (by kernel_rfl) ?_
 show Run _ _ _ _ [(0, .agg #[.int .i64 lo, .int .i64 hh]), (1, .int .i64 s)] _ _
 refine run_sq ?_
 refine run_pl [nn 0, yy 1] ?_
 refine aS (kq 2 (.box 30 (.tmp 0))) rfl rfl (a_box (cs := [.int .i64 lo, .int .i64 hh]) hF 3 rfl rfl) ?_
 rintro _ w1 ⟨Cw1, bw1, rfl, hs, hx, hF⟩
 refine ⟨trivial, ?_⟩
 replace hT := hT.t hs
 refine yAc 4 (.int .i64 0) ?_
 refine Sch.nil ?_
 refine run_sq ?_
 refine run_sq ?_
 refine run_pl [yy 0, yy 1, nn 2, yy 3] ?_
 refine yM 5 1 ?_
 refine yF 6 30 2 1 1 ?_
 refine nS (kq 7 (.load 3 (.tmp 6))) rfl rfl trivial (val_loadOwn hx.at_ (by kernel_rfl) rfl rfl) ?_
 refine yV (kq 8 (.binOp .geq 3 (.tmp 5) (.tmp 7) 3)) (fun _ => val_geq rfl rfl) ?_
 refine Sch.nil ?_
 refine run_i 8 rfl (fun h8 => ?_) (fun h8 => ?_)
 ·
  refine run_sq ?_
  refine run_pl [yy 0] ?_
  refine yAc 4 (.int .i64 2) ?_
  refine Sch.nil ?_
  refine run_ret1 (by kernel_rfl) Tryz.func55 Tryz.results55 rfl ?_
  exact ⟨by unfold clsT; rw [if_pos h8], hT.out1 (by decide)⟩
 ·
  refine run_sk ?_
  refine run_sq ?_
  refine run_sq ?_
  refine run_pl [yy 0, yy 1, nn 2, yy 3] ?_
  refine yM 9 1 ?_
  refine yF 10 30 2 0 0 ?_
  refine nS (kq 11 (.load 3 (.tmp 10))) rfl rfl trivial (val_loadOwn hx.at_ (by kernel_rfl) rfl rfl) ?_
  refine yV (kq 12 (.binOp .geq 3 (.tmp 9) (.tmp 11) 3)) (fun _ => val_geq rfl rfl) ?_
  refine Sch.nil ?_
  refine run_i 12 rfl (fun h12 => ?_) (fun h12 => ?_)
  ·
   refine run_sq ?_
   refine run_pl [yy 0] ?_
   refine yAc 4 (.int .i64 1) ?_
   refine Sch.nil ?_
   refine run_ret1 (by kernel_rfl) Tryz.func55 Tryz.results55 rfl ?_
   exact ⟨by unfold clsT; rw [if_neg h8, if_pos h12], hT.out1 (by decide)⟩
  ·
   refine run_sk ?_
   refine run_sq ?_
   refine run_pl [yy 0] ?_
   refine yAc 4 (.int .i64 0) ?_
   refine Sch.nil ?_
   refine run_ret1 (by kernel_rfl) Tryz.func55 Tryz.results55 rfl ?_
   exact ⟨by unfold clsT; rw [if_neg h8, if_neg h12], hT.out1 (by decide)⟩
namespace F57
noncomputable def c0 := bodyOf Tryz.f57
noncomputable def c7 := (cl (cl (cr (cl (cr c0)))))
noncomputable def c8 := (cr (cl (cr (cl (cr c0)))))
noncomputable def o5 := rops (cl (cl (cr (cr c8))))
end F57
theorem rgain_ok {w₀ : World} {C : Nat → Nat} {pr : Int} {ag df : List Int} {va vd : Value} {p i : Nat} (hF : Lim w₀ C) (hW : WOK pr ag df) (ha : RV w₀ (Mc C) ag va) (hd : RV w₀ (Mc C) df vd) (hia : i < ag.length) : Calls Tryz.prog 57 #[.agg #[.int .i64 pr, va, vd], .int .i64 i, .int .i64 (dg p i : Nat)] w₀ (Ret fun v w' => v = .int .i64 (gnv ag df p i) ∧ Stp [] w₀ C w' C) := by
 have hF0 := hF
 have hT := Stp.refl [2, 3, 4, 5, 6, 7, 8, 9] w₀ (col1 C)
 replace hF := hF.col1
 replace ha : RV w₀ (Mc (col1 C)) ag va := by rw [Mc_col1]; exact ha
 replace hd : RV w₀ (Mc (col1 C)) df vd := by rw [Mc_col1]; exact hd
 have hid : i < df.length := by rw [hW.ld]; exact hia
 have hfa := hW.fa i hia
 have hfd := hW.fd i hid
 unfold fitW at hfa hfd
 have hdg := dg_lt p i
 refine calls_start (c := F57.c0) (N := 28) [.agg #[.int .i64 pr, va, vd], .int .i64 i, .int .i64 (dg p i : Nat)] Tryz.func57 (by kernel_rfl) (by kernel_rfl) (by kernel_rfl) ?_
 show Run _ _ _ _ [(0, .agg #[.int .i64 pr, va, vd]), (1, .int .i64 i), (2, .int .i64 (dg p i : Nat))] _ _
 refine run_sq ?_
 refine run_pl [nn 0, yy 1] ?_
 refine aS (kq 3 (.box 28 (.tmp 0))) rfl rfl (a_box (cs := [.int .i64 pr, va, vd]) hF 3 rfl rfl) ?_
 rintro _ w1 ⟨Cw1, bw1, rfl, hs, hx, hF⟩
 refine ⟨trivial, ?_⟩
 replace hT := hT.t hs; replace ha := ha.t hs; replace hd := hd.t hs
 refine yAc 6 (.int .i64 0) ?_
 refine Sch.nil ?_
 refine run_sq ?_
 refine run_sq ?_
 refine run_pl [yy 0] ?_
 refine yM 7 2 ?_
 refine Sch.nil ?_
 refine run_bk 0 ?_
 refine run_sq ?_
 refine run_pl [yy 0, yy 1] ?_
 refine yV (kq 9 (.binOp .eql 3 (.tmp 7) (.const (.int .i64 0)) 3)) (fun _ => val_eql rfl rfl) ?_
 refine yA 8 9 ?_
 refine Sch.nil ?_
 refine run_i 8 rfl (fun h8 => ?_) (fun h8 => ?_)
 ·
  refine run_sq ?_
  refine run_pl [yy 0, nn 1, yy 2, yy 3, nn 4, yy 5] ?_
  refine yF 10 28 3 1 1 ?_
  refine nS (kq 11 (.load 22 (.tmp 10))) rfl rfl trivial (val_loadOwn hx.at_ (by kernel_rfl) rfl rfl) ?_
  refine yM 12 1 ?_
  refine iS (e := 3) (kq 13 (.indexAddr 22 (.tmp 11) (.tmp 12))) rfl rfl ha rfl (by kernel_rfl) rfl (by omega) (by omega) ?_
  intro b13 o13 h13
  try simp only [Int.toNat_natCast] at h13
  refine lN (kq 14 (.load 3 (.tmp 13))) rfl rfl trivial h13 (by kernel_rfl) rfl rfl ?_
  intro v14 g14
  first | (obtain rfl := rv_nat.1 g14) | (obtain rfl := rv_int.1 g14)
  refine yA 6 14 ?_
  refine Sch.nil ?_
  refine run_ret1 (by kernel_rfl) Tryz.func57 Tryz.results57 rfl ?_
  exact ⟨by unfold gnv amt cntL; rw [show dg p i = 0 by omega, getD_in hia]; simp, hT.out1 (by decide)⟩
 ·
  refine run_sq ?_
  refine run_pl [yy 0, yy 1] ?_
  refine yV (kq 16 (.binOp .eql 3 (.tmp 7) (.const (.int .i64 1)) 3)) (fun _ => val_eql rfl rfl) ?_
  refine yA 15 16 ?_
  refine Sch.nil ?_
  refine run_i 15 rfl (fun h15 => ?_) (fun h15 => ?_)
  ·
   refine run_sq ?_
   refine run_draw (id := 5) (ops := F57.o5) [] (Cw1) [yy 0, yy 1, yy 2, yy 3, yy 4, yy 5, yy 6, yy 7, yy 8, yy 9, yy 10, yy 11] Tryz_mixed (by kernel_rfl) (by kernel_rfl) (by kernel_rfl) ?_
   intro w2 hs
   replace hF := hF.st hs
   replace hT := hT.t hs; replace ha := ha.t hs; replace hd := hd.t hs; replace hx := hx.t hs
   refine yF 17 28 3 1 1 ?_
   refine yS (kq 18 (.load 22 (.tmp 17))) rfl rfl (fun w' hS => val_loadOwn (hx.sy hS) (by kernel_rfl) rfl rfl) ?_
   refine yM 19 1 ?_
   refine iS (e := 3) (kq 20 (.indexAddr 22 (.tmp 18) (.tmp 19))) rfl rfl ha rfl (by kernel_rfl) rfl (by omega) (by omega) ?_
   intro b20 o20 h20
   try simp only [Int.toNat_natCast] at h20
   refine lS (kq 21 (.load 3 (.tmp 20))) rfl rfl (fun w' hS => h20.sy hS) h20 (by kernel_rfl) rfl rfl ?_
   intro v21 g21
   first | (obtain rfl := rv_nat.1 g21) | (obtain rfl := rv_int.1 g21)
   refine yF 22 28 3 2 2 ?_
   refine yS (kq 23 (.load 22 (.tmp 22))) rfl rfl (fun w' hS => val_loadOwn (hx.sy hS) (by kernel_rfl) rfl rfl) ?_
   refine yM 24 1 ?_
   refine iS (e := 3) (kq 25 (.indexAddr 22 (.tmp 23) (.tmp 24))) rfl rfl hd rfl (by kernel_rfl) rfl (by omega) (by omega) ?_
   intro b25 o25 h25
   try simp only [Int.toNat_natCast] at h25
   refine lS (kq 26 (.load 3 (.tmp 25))) rfl rfl (fun w' hS => h25.sy hS) h25 (by kernel_rfl) rfl rfl ?_
   intro v26 g26
   first | (obtain rfl := rv_nat.1 g26) | (obtain rfl := rv_int.1 g26)
   refine yV (kq 27 (.binOp .sub 3 (.tmp 21) (.tmp 26) 3)) (fun _ => val_subi rfl rfl (by omega) (by omega)) ?_
   refine yA 6 27 ?_
   refine Sch.nil ?_
   refine run_ret1 (by kernel_rfl) Tryz.func57 Tryz.results57 rfl ?_
   exact ⟨by unfold gnv amt cntL; rw [show dg p i = 1 by omega, getD_in hia, getD_in hid]; rfl, hT.out1 (by decide)⟩
  ·
   refine run_sk ?_
   refine run_inBlock ?_
   refine run_sq ?_
   refine run_pl [yy 0] ?_
   refine yAc 6 (.int .i64 0) ?_
   refine Sch.nil ?_
   refine run_ret1 (by kernel_rfl) Tryz.func57 Tryz.results57 rfl ?_
   exact ⟨by unfold gnv amt cntL; rw [show dg p i = 2 by omega, getD_in hia]; simp, hT.out1 (by decide)⟩
namespace F24
noncomputable def c0 := bodyOf Tryz.f24
noncomputable def c8 := (cl (cr (cl (cr (cr c0)))))
noncomputable def c15 := (cl (cr (cr (cr (cr c0)))))
noncomputable def c16 := (cr (cr (cr (cr (cr c0)))))
noncomputable def c21 := (cl (cl (cl (cl (cl c16)))))
noncomputable def c22 := (cr (cl (cl (cl (cl c16)))))
noncomputable def c26 := (cl (cr (cl (cl (cl c16)))))
noncomputable def c33 := (cl (cl (cr (cl (cr c26)))))
noncomputable def o11 := rops (cl (cl (cl (cr c33))))
noncomputable def c44 := (cl (cr (cl (cl (cr c33)))))
noncomputable def o12 := rops c44
noncomputable def c45 := (cr (cr (cl (cl (cr c33)))))
noncomputable def c53 := (cl (cr (cl (cr (cr c26)))))
noncomputable def o17 := rops (cr (cr (cr (cr c26))))
noncomputable def c66 := (cl (cr (cl (cr (cr c16)))))
noncomputable def c76 := (cl (cl (cl (cr (cl c66)))))
noncomputable def c77 := (cr (cl (cl (cr (cl c66)))))
end F24
/-- The reference's 'Fields', of what is valid. -/
theorem rfields_ok {w₀ : World} {C : Nat → Nat} {pr : Int} {ag df : List Int} {va vd : Value} {lo hh : Int} {p : Nat} (hF : Lim w₀ C) (hW : WOK pr ag df) (ha : RV w₀ (Mc C) ag va) (hd : RV w₀ (Mc C) df vd) (hK : TOK lo hh) (hp : p < 3 ^ ag.length) : Calls Tryz.prog 24 #[.agg #[.int .i64 pr, va, vd], .agg #[.int .i64 lo, .int .i64 hh], .int .i64 p] w₀ (Ret fun v w' => ∃ u fl ok, v = .tuple #[u, .bool ok] ∧ Stp [] w₀ C w' C ∧ RV w' (Mc C) fl u ∧ FldS pr ag df lo hh p fl ok) := by
 have hF0 := hF
 have hT := Stp.refl [2, 3, 4, 5, 6, 7, 8, 9] w₀ (col1 C)
 replace hF := hF.col1
 replace ha : RV w₀ (Mc (col1 C)) ag va := by rw [Mc_col1]; exact ha
 replace hd : RV w₀ (Mc (col1 C)) df vd := by rw [Mc_col1]; exact hd
 refine calls_start (c := F24.c0) (N := 119) [.agg #[.int .i64 pr, va, vd], .agg #[.int .i64 lo, .int .i64 hh], .int .i64 p] Tryz.func24 (by kernel_rfl) (by kernel_rfl) (by kernel_rfl) ?_
 show Run _ _ _ _ [(0, .agg #[.int .i64 pr, va, vd]), (1, .agg #[.int .i64 lo, .int .i64 hh]), (2, .int .i64 p)] _ _
 refine run_sq ?_
 refine run_pl [nn 0, nn 1, yy 2, yy 3] ?_
 refine aS (kq 3 (.box 28 (.tmp 0))) rfl rfl (a_box (cs := [.int .i64 pr, va, vd]) hF 3 rfl rfl) ?_
 rintro _ w1 ⟨Cw1, bw1, rfl, hs, hx, hF⟩
 refine ⟨trivial, ?_⟩
 replace hT := hT.t hs; replace ha := ha.t hs; replace hd := hd.t hs
 refine aS (kq 4 (.box 30 (.tmp 1))) rfl rfl (a_box (cs := [.int .i64 lo, .int .i64 hh]) hF 4 rfl rfl) ?_
 rintro _ w2 ⟨Cw2, bw2, rfl, hs, hy, hF⟩
 refine ⟨trivial, ?_⟩
 replace hT := hT.t hs; replace ha := ha.t hs; replace hd := hd.t hs; replace hx := hx.t hs
 refine yV (kq 6 (.assign (.const (.slice none 0 0)))) (fun _ => val_assign rfl) ?_
 refine yAc 7 (.bool false) ?_
 refine Sch.nil ?_
 refine run_sq ?_
 refine run_pl [nn 0, yy 1, nn 2, yy 3, yy 4, yy 5, yy 6, yy 7] ?_
 refine nS (kq 19 (.load 28 (.tmp 3))) rfl rfl trivial (val_loadOwnAgg (n := 3) (vs := [.int .i64 pr, va, vd]) hx.at_ (by kernel_rfl) (by kernel_rfl) rfl rfl rfl) ?_
 refine yM 20 2 ?_
 refine cS (kq 21 (.call { callee := .value (.func 36), args := #[(.tmp 19), (.tmp 20)], argTypes := #[28, 3] })) rfl rfl (ent Tryz.call36 rfl) (score25_ok hF hW ha hd hp) ?_
 rintro vw3 w3 ⟨rfl, hs⟩
 refine ⟨trivial, ?_⟩
 replace hF := hF.st hs
 replace hT := hT.t hs; replace ha := ha.t hs; replace hd := hd.t hs; replace hx := hx.t hs; replace hy := hy.t hs
 obtain ⟨s, hsc⟩ : ∃ s, s = scN pr ag df p ag.length := ⟨_, rfl⟩
 have hsb := hW.sc p (Nat.le_refl ag.length)
 rw [← hsc] at hsb ⊢
 refine yM 18 21 ?_
 refine yV (kq 22 (.extract (.tmp 18) 0)) (fun _ => val_extract rfl rfl) ?_
 refine yV (kq 23 (.extract (.tmp 18) 1)) (fun _ => val_extract rfl rfl) ?_
 refine yA 8 22 ?_
 refine yA 9 23 ?_
 refine Sch.nil ?_
 refine run_sq ?_
 refine run_sq ?_
 refine run_pl [yy 0, yy 1, yy 2, nn 3, nn 4, yy 5, yy 6, yy 7, nn 8, yy 9, nn 10, yy 11, yy 12] ?_
 refine yM 24 9 ?_
 refine yV (kq 25 (.binOp .neq 52 (.tmp 24) (.const (.int .i64 0)) 52)) (fun _ => val_is (val_neq rfl rfl) (show _ = Value.bool false from congrArg Value.bool (decide_eq_false (by decide)))) ?_
 refine yM 26 25 ?_
 refine nS (kg 27 (.load 30 (.tmp 4)) 2 false) rfl rfl trivial (val_loadOwnAgg (n := 2) (vs := [.int .i64 lo, .int .i64 hh]) hy.at_ (by kernel_rfl) (by kernel_rfl) rfl rfl rfl) ?_
 refine cS (kg 28 (.call { callee := .value (.func 54), args := #[(.tmp 27)], argTypes := #[30] }) 2 false) rfl rfl (ent Tryz.call54 rfl) (tcheck27_ok hF hK) ?_
 rintro vw4 w4 ⟨rfl, hs⟩
 refine ⟨trivial, ?_⟩
 replace hF := hF.st hs
 replace hT := hT.t hs; replace ha := ha.t hs; replace hd := hd.t hs; replace hx := hx.t hs; replace hy := hy.t hs
 refine yV (kg 29 (.binOp .neq 52 (.tmp 28) (.const (.int .i64 0)) 52) 2 false) (fun _ => val_is (val_neq rfl rfl) (show _ = Value.bool false from congrArg Value.bool (decide_eq_false (by decide)))) ?_
 refine yOf 30 26 29 ?_
 refine yM 31 30 ?_
 refine nS (kg 32 (.load 30 (.tmp 4)) 7 false) rfl rfl trivial (val_loadOwnAgg (n := 2) (vs := [.int .i64 lo, .int .i64 hh]) hy.at_ (by kernel_rfl) (by kernel_rfl) rfl rfl rfl) ?_
 refine yMg 33 8 7 false ?_
 refine cS (kg 34 (.call { callee := .value (.func 55), args := #[(.tmp 32), (.tmp 33)], argTypes := #[30, 3] }) 7 false) rfl rfl (ent Tryz.call55 rfl) (class27_ok hF) ?_
 rintro vw5 w5 ⟨rfl, hs⟩
 refine ⟨trivial, ?_⟩
 replace hF := hF.st hs
 replace hT := hT.t hs; replace ha := ha.t hs; replace hd := hd.t hs; replace hx := hx.t hs; replace hy := hy.t hs
 refine yV (kg 35 (.binOp .neq 3 (.tmp 34) (.const (.int .i64 1)) 3) 7 false) (fun _ => val_neq rfl rfl) ?_
 refine yOf 36 31 35 ?_
 refine Sch.nil ?_
 refine run_i 36 rfl (fun h36 => ?_) (fun h36 => ?_)
 ·
  have hgr : ¬ (lo ≤ s ∧ s < hh) := fun e => h36 (by unfold clsT; rw [if_neg (by omega), if_pos e.1])
  refine run_sq ?_
  refine run_pl [yy 0, yy 1] ?_
  refine yV (kq 6 (.assign (.const (.slice none 0 0)))) (fun _ => val_assign rfl) ?_
  refine yAc 7 (.bool false) ?_
  refine Sch.nil ?_
  refine run_ret2 (by kernel_rfl) Tryz.func24 Tryz.results24 rfl rfl ?_
  exact ⟨_, [], false, rfl, hT.out1 (by decide), rv_nil, .inl ⟨(by rw [← hsc]; exact hgr), rfl, rfl⟩⟩
 ·
  have hgr : lo ≤ s ∧ s < hh := by
    apply Classical.byContradiction
    intro hn
    apply h36
    unfold clsT
    split
    · decide
    · split
      · omega
      · decide
  refine run_sk ?_
  refine run_sq ?_
  refine run_pl [yy 0, yy 1, nn 2, yy 3, nn 4, yy 5, yy 6, yy 7, yy 8, yy 9] ?_
  refine yM 38 2 ?_
  refine yF 39 28 3 1 1 ?_
  refine nS (kq 40 (.load 22 (.tmp 39))) rfl rfl trivial (val_loadOwn hx.at_ (by kernel_rfl) rfl rfl) ?_
  refine yS (kq 41 (.call { callee := .builtin .len, args := #[(.tmp 40)], argTypes := #[22] })) rfl rfl (fun w' hS => ha.lenV rfl Tryz.underlying22 w' ) ?_
  refine cS (kq 42 (.call { callee := .value (.func 56), args := #[(.tmp 38), (.tmp 41)], argTypes := #[3, 3] })) rfl rfl (ent Tryz.call56 rfl) (digits17_ok hF hW.l1 hW.l5 hp) ?_
  rintro vw6 w6 ⟨ug, rfl, hs, hg⟩
  refine ⟨trivial, ?_⟩
  replace hF := hF.st hs
  replace hT := hT.t hs; replace ha := ha.t hs; replace hd := hd.t hs; replace hx := hx.t hs; replace hy := hy.t hs
  obtain ⟨n, hn⟩ : ∃ n, n = ag.length := ⟨_, rfl⟩
  rw [← hn] at hg
  have hdl := digs_len p n
  obtain ⟨gs, hSt⟩ := StS.ex cmpG_3 (gnL ag df p n)
  have hgl := hSt.len
  have hgn := gnL_len ag df p n
  have hw5 := hW.l5
  have hgb : ∀ x ∈ gs, 0 < x.b ∧ x.b ≤ 131072 := fun x hx => by have := hW.gain_b (by rw [← hn]; exact hSt.sub x hx); omega
  refine yM 37 42 ?_
  refine yV (kq 43 (.extract (.tmp 37) 0)) (fun _ => val_extract rfl rfl) ?_
  refine yV (kq 44 (.extract (.tmp 37) 1)) (fun _ => val_extract rfl rfl) ?_
  refine yA 10 43 ?_
  refine yA 11 44 ?_
  refine Sch.nil ?_
  refine run_sq ?_
  refine run_pl [yy 0, yy 1, nn 2, yy 3] ?_
  skip
  refine yM 45 10 ?_
  refine yS (kq 46 (.call { callee := .builtin .len, args := #[(.tmp 45)], argTypes := #[22] })) rfl rfl (fun w' hS => hg.lenV rfl Tryz.underlying22 w' ) ?_
  refine aS (kq 47 (.makeSlice 100 (.tmp 46) (.tmp 46))) rfl rfl (a_make (e := 4) (bytes := 1) (x0 := false) (zs := [.bool false]) hF (j := 5) (by decide) (by kernel_rfl) (by kernel_rfl) rfl rfl (by omega) (by omega) (by omega) (fun h M => rfl)) ?_
  rintro v47 w7 ⟨Cw7, hs, ht, hF⟩
  refine ⟨trivial, ?_⟩
  replace hT := hT.t hs; replace ha := ha.t hs; replace hd := hd.t hs; replace hx := hx.t hs; replace hy := hy.t hs; replace hg := hg.t hs
  rw [hdl, tkB_0 (gs := gs)] at ht
  refine yA 12 47 ?_
  refine Sch.nil ?_
  refine run_sq ?_
  refine run_bk 0 ?_
  
  refine run_lp (ι := Nat × Value × (Nat → Nat)) (I := fun x w => x.1 ≤ gs.length ∧ (∀ j, j < x.1 → preG s gs j < hh) ∧ Lim w x.2.2 ∧ Stp [2, 3, 4, 5, 6, 7, 8, 9] w₀ (col1 C) w x.2.2 ∧ RV w (Mc x.2.2) ag va ∧ RV w (Mc x.2.2) df vd ∧ RV w (Mc x.2.2) (digs p n) ug ∧ OwnB w x.2.2 3 bw1 (.cells [.int .i64 pr, va, vd].toArray 28) ∧ OwnB w x.2.2 4 bw2 (.cells [.int .i64 lo, .int .i64 hh].toArray 30) ∧ OwnL w x.2.2 5 4 x.2.1 (tkB gs x.1 n)) (e := fun x => [(3, .pointer (some ⟨bw1, 0, none⟩)), (4, .pointer (some ⟨bw2, 0, none⟩)), (8, .int .i64 (preG s gs x.1)), (10, ug), (12, x.2.1)]) (m := fun x => gs.length - x.1) (x₀ := (0, v47, Cw7)) (sr 3 (sr 4 (sr 8 (sr 10 (sr 12 (sub_nil _)))))) ?_ ?_
  · exact ⟨Nat.zero_le _, fun j hj => by simp only at hj; omega, hF, hT, ha, hd, hg, hx, hy, ht⟩
  intro ⟨k, vt, C1⟩ w8 hI next
  obtain ⟨hk, hlt, hF, hT, ha, hd, hg, hx, hy, ht⟩ := hI
  try simp only at hk hlt hF hT ha hd hg hx hy ht
  have next1 := next
  clear next
  show Run _ _ _ _ [(3, .pointer (some ⟨bw1, 0, none⟩)), (4, .pointer (some ⟨bw2, 0, none⟩)), (8, .int .i64 (preG s gs k)), (10, ug), (12, vt)] _ _
  have hpb := preG_b (s := s) hgb k hk
  have htl := tkB_len gs k n
  have hdl := digs_len p n
  refine run_sq ?_
  refine run_sq ?_
  refine run_pl [yy 0, yy 1, nn 2, yy 3] ?_
  refine yM 48 8 ?_
  refine yF 49 30 4 1 1 ?_
  refine nS (kq 50 (.load 3 (.tmp 49))) rfl rfl trivial (val_loadOwn hy.at_ (by kernel_rfl) rfl rfl) ?_
  refine yV (kq 51 (.binOp .lss 3 (.tmp 48) (.tmp 50) 3)) (fun _ => val_lss rfl rfl) ?_
  refine Sch.nil ?_
  refine run_i 51 rfl (fun h51 => ?_) (fun h51 => ?_)
  ·
   have hpk : preG s gs k < hh := by omega
   refine run_sk ?_
   refine run_bk 1 ?_
   refine run_sq ?_
   refine run_pl [yy 0] ?_
   refine yV (kq 13 (.assign (.const (.int .i64 (-1))))) (fun _ => val_assign rfl) ?_
   refine Sch.nil ?_
   refine run_sq ?_
   refine run_sq ?_
   refine run_pl [yy 0] ?_
   refine yAc 14 (.int .i64 0) ?_
   refine Sch.nil ?_
   refine run_bk 2 ?_
   
   refine run_lp (ι := Nat × Int × (Nat → Nat)) (I := fun x w => x.1 ≤ n ∧ Best ag df p gs k x.1 x.2.1 ∧ Lim w x.2.2 ∧ Stp [2, 3, 4, 5, 6, 7, 8, 9] w₀ (col1 C) w x.2.2 ∧ RV w (Mc x.2.2) ag va ∧ RV w (Mc x.2.2) df vd ∧ RV w (Mc x.2.2) (digs p n) ug ∧ OwnB w x.2.2 3 bw1 (.cells [.int .i64 pr, va, vd].toArray 28) ∧ OwnB w x.2.2 4 bw2 (.cells [.int .i64 lo, .int .i64 hh].toArray 30) ∧ OwnL w x.2.2 5 4 vt (tkB gs k n)) (e := fun x => [(3, .pointer (some ⟨bw1, 0, none⟩)), (4, .pointer (some ⟨bw2, 0, none⟩)), (8, .int .i64 (preG s gs k)), (10, ug), (12, vt), (13, .int .i64 x.2.1), (14, .int .i64 x.1)]) (m := fun x => n - x.1) (x₀ := (0, -1, C1)) (sr 3 (sr 4 (sr 8 (sr 10 (sr 12 (sr 13 (sr 14 (sub_nil _)))))))) ?_ ?_
   · exact ⟨Nat.zero_le _, Best.start, hF, hT, ha, hd, hg, hx, hy, ht⟩
   intro ⟨i, b, C2⟩ w9 hI next
   obtain ⟨hi, hB, hF, hT, ha, hd, hg, hx, hy, ht⟩ := hI
   try simp only at hi hB hF hT ha hd hg hx hy ht
   have next2 := next
   clear next
   show Run _ _ _ _ [(3, .pointer (some ⟨bw1, 0, none⟩)), (4, .pointer (some ⟨bw2, 0, none⟩)), (8, .int .i64 (preG s gs k)), (10, ug), (12, vt), (13, .int .i64 b), (14, .int .i64 i)] _ _
   have htl := tkB_len gs k n
   have hdl := digs_len p n
   refine run_sq ?_
   refine run_sq ?_
   refine run_pl [yy 0, yy 1, yy 2, yy 3] ?_
   refine yM 52 14 ?_
   refine yM 53 10 ?_
   refine yS (kq 54 (.call { callee := .builtin .len, args := #[(.tmp 53)], argTypes := #[22] })) rfl rfl (fun w' hS => hg.lenV rfl Tryz.underlying22 w' ) ?_
   refine yV (kq 55 (.binOp .lss 3 (.tmp 52) (.tmp 54) 3)) (fun _ => val_lss rfl rfl) ?_
   refine Sch.nil ?_
   refine run_i 55 rfl (fun h55 => ?_) (fun h55 => ?_)
   ·
    have hin : i < n := by omega
    have hia : i < ag.length := by omega
    have hbi : 0 ≤ b → b.toNat < i := fun e => (hB.some_ e).1
    refine run_sk ?_
    refine run_sq ?_
    refine run_bk 3 ?_
    refine run_sq ?_
    refine run_draw (id := 11) (ops := F24.o11) [] (C2) [yy 0, yy 1, yy 2, yy 3, yy 4, yy 5, nn 6, yy 7] Tryz_mixed (by kernel_rfl) (by kernel_rfl) (by kernel_rfl) ?_
    intro w10 hs
    replace hF := hF.st hs
    replace hT := hT.t hs; replace ha := ha.t hs; replace hd := hd.t hs; replace hg := hg.t hs; replace hx := hx.t hs; replace hy := hy.t hs; replace ht := ht.t hs
    have hR := Stp.refl [] w10 (C2)
    refine yS (kq 58 (.load 28 (.tmp 3))) rfl rfl (fun w' hS => val_loadOwnAgg (n := 3) (vs := [.int .i64 pr, va, vd]) (hx.stay hS (by decide)) (by kernel_rfl) (by kernel_rfl) rfl rfl rfl) ?_
    refine yM 59 14 ?_
    refine yM 60 10 ?_
    refine yM 61 14 ?_
    refine iS (e := 3) (kq 62 (.indexAddr 22 (.tmp 60) (.tmp 61))) rfl rfl hg rfl (by kernel_rfl) rfl (by omega) (by omega) ?_
    intro b62 o62 h62
    try simp only [Int.toNat_natCast] at h62
    refine lS (kq 63 (.load 3 (.tmp 62))) rfl rfl (fun w' hS => h62.sy hS) h62 (by kernel_rfl) rfl rfl ?_
    intro v63 g63
    first | (obtain rfl := rv_nat.1 g63) | (obtain rfl := rv_int.1 g63)
    rw [digs_get]
    refine cS (kq 64 (.call { callee := .value (.func 57), args := #[(.tmp 58), (.tmp 59), (.tmp 63)], argTypes := #[28, 3, 3] })) rfl rfl (ent Tryz.call57 rfl) (rgain_ok (p := p) (i := i) hF hW ha hd hia) ?_
    rintro vw11 w11 ⟨rfl, hs⟩
    refine ⟨(hR.trans hs (by simp)).ext, ?_⟩
    replace hF := hF.st hs
    replace hT := hT.t hs; replace ha := ha.t hs; replace hd := hd.t hs; replace hg := hg.t hs; replace hx := hx.t hs; replace hy := hy.t hs; replace ht := ht.t hs; replace hR := hR.t hs; replace h62 := h62.t hs
    refine yA 15 64 ?_
    refine Sch.nil ?_
    refine run_sq ?_
    by_cases hA : tkn gs k i = true
    ·
     refine run_draw (id := 12) (ops := F24.o12) [] (C2) [yy 0, yy 1, yy 2, yy 3, yy 4, yy 5, yy 6, yy 7, yy 8, yy 9, yy 10, yy 11, yy 12, yy 13, yy 14, yy 15, yy 16, yy 17, yy 18, yy 19, nn 20, yy 21, yy 22, yy 23] Tryz_mixed (by kernel_rfl) (by kernel_rfl) (by kernel_rfl) ?_
     intro w12 hs
     replace hF := hF.st hs
     replace hT := hT.t hs; replace ha := ha.t hs; replace hd := hd.t hs; replace hg := hg.t hs; replace hx := hx.t hs; replace hy := hy.t hs; replace ht := ht.t hs; replace h62 := h62.t hs
     have hR := Stp.refl [] w12 (C2)
     refine yM 65 12 ?_
     refine yM 66 14 ?_
     refine oI (e' := 4) (kq 67 (.indexAddr 100 (.tmp 65) (.tmp 66))) rfl rfl ht rfl (by kernel_rfl) rfl (by omega) (by first | omega | (simp only [tkB_len]; omega)) ?_
     intro g67 hg67
     try simp only [Int.toNat_natCast]
     refine oS (I := []) (kq 68 (.load 4 (.tmp 67))) rfl rfl ht hg67 (fun w' hS => ht.sy hg67 hS) (by first | omega | (simp only [tkB_len]; omega)) (by kernel_rfl) rfl rfl ?_
     intro v68 g68
     try simp only [Int.toNat_natCast] at g68
     obtain rfl := rv_bool.1 g68
     have e68 : (tkB gs k n)[i]'(by rw [tkB_len]; exact hin) = true := by rw [tkB_get]; exact hA
     rw [e68]
     refine yV (kq 69 (.unOp .not 4 (.tmp 68))) (fun _ => val_not rfl) ?_
     refine yM 70 69 ?_
     refine pX 71 5 true ?_
     refine pX 72 5 true ?_
     refine yAf 73 70 72 ?_
     refine yM 74 73 ?_
     refine pX 75 9 true ?_
     refine pX 76 9 true ?_
     refine pX 77 9 true ?_
     refine pX 78 12 false ?_
     refine pX 79 12 false ?_
     refine pX 80 12 false ?_
     refine pX 81 12 false ?_
     refine pX 82 12 false ?_
     refine pX 83 12 false ?_
     refine pX 84 12 false ?_
     refine pW (kg 85 (.call { callee := .value (.func 57), args := #[(.tmp 79), (.tmp 80), (.tmp 84)], argTypes := #[28, 3, 3] }) 12 false) rfl rfl hR.ext ?_
     refine pX 86 12 false ?_
     refine pX 87 9 true ?_
     refine yAf 88 74 87 ?_
     refine Sch.nil ?_
     refine run_cF 88 ?_
     refine run_sk ?_
     refine run_inBlock ?_
     refine run_pl [yy 0, yy 1, yy 2] ?_
     refine yM 56 14 ?_
     refine yV (kq 57 (.binOp .add 3 (.tmp 56) (.const (.int .i64 1)) 3)) (fun _ => val_addi rfl rfl (by omega) (by omega)) ?_
     refine yA 14 57 ?_
     refine Sch.nil ?_
     refine kp (sub_cons 3 rfl rfl (sub_cons 4 rfl rfl (sub_cons 8 rfl rfl (sub_cons 10 rfl rfl (sub_cons 12 rfl rfl (sub_cons 13 rfl rfl (sub_cons 14 rfl (eq_int (by simp)) (sub_nil _)))))))) (next2 (i + 1, b, C2) _ ⟨(by first | omega | (simp only; omega)), (hB.skip (.inl hA)), hF, hT, ha, hd, hg, hx, hy, ht⟩ (by first | omega | (simp only; omega)))
    ·
     by_cases hP : 0 < gnv ag df p i
     ·
      by_cases hC : b < 0
      ·
       refine run_draw (id := 12) (ops := F24.o12) [] (C2) [yy 0, yy 1, yy 2, yy 3, yy 4, yy 5, yy 6, yy 7, yy 8, yy 9, yy 10, yy 11, yy 12, yy 13, yy 14, yy 15, yy 16, yy 17, yy 18, yy 19, nn 20, yy 21, yy 22, yy 23] Tryz_mixed (by kernel_rfl) (by kernel_rfl) (by kernel_rfl) ?_
       intro w13 hs
       replace hF := hF.st hs
       replace hT := hT.t hs; replace ha := ha.t hs; replace hd := hd.t hs; replace hg := hg.t hs; replace hx := hx.t hs; replace hy := hy.t hs; replace ht := ht.t hs; replace h62 := h62.t hs
       have hR := Stp.refl [] w13 (C2)
       refine yM 65 12 ?_
       refine yM 66 14 ?_
       refine oI (e' := 4) (kq 67 (.indexAddr 100 (.tmp 65) (.tmp 66))) rfl rfl ht rfl (by kernel_rfl) rfl (by omega) (by first | omega | (simp only [tkB_len]; omega)) ?_
       intro g67 hg67
       try simp only [Int.toNat_natCast]
       refine oS (I := []) (kq 68 (.load 4 (.tmp 67))) rfl rfl ht hg67 (fun w' hS => ht.sy hg67 hS) (by first | omega | (simp only [tkB_len]; omega)) (by kernel_rfl) rfl rfl ?_
       intro v68 g68
       try simp only [Int.toNat_natCast] at g68
       obtain rfl := rv_bool.1 g68
       have e68 : (tkB gs k n)[i]'(by rw [tkB_len]; exact hin) = false := by rw [tkB_get]; exact Bool.eq_false_iff.2 hA
       rw [e68]
       refine yV (kq 69 (.unOp .not 4 (.tmp 68))) (fun _ => val_not rfl) ?_
       refine yM 70 69 ?_
       refine yMg 71 15 5 true ?_
       refine yV (kg 72 (.binOp .gtr 3 (.tmp 71) (.const (.int .i64 0)) 3) 5 true) (fun _ => val_T (val_gtr rfl rfl) hP) ?_
       refine yAt 73 70 72 ?_
       refine yM 74 73 ?_
       refine yMg 75 13 9 true ?_
       refine yV (kg 76 (.binOp .lss 3 (.tmp 75) (.const (.int .i64 0)) 3) 9 true) (fun _ => val_T (val_lss rfl rfl) hC) ?_
       refine yMg 77 76 9 true ?_
       refine pX 78 12 false ?_
       refine pX 79 12 false ?_
       refine pX 80 12 false ?_
       refine pX 81 12 false ?_
       refine pX 82 12 false ?_
       refine pX 83 12 false ?_
       refine pX 84 12 false ?_
       refine pW (kg 85 (.call { callee := .value (.func 57), args := #[(.tmp 79), (.tmp 80), (.tmp 84)], argTypes := #[28, 3, 3] }) 12 false) rfl rfl hR.ext ?_
       refine pX 86 12 false ?_
       refine yV (kg 87 (.pick (.tmp 77) (.const (.bool true)) (.tmp 86)) 9 true) (fun _ => val_pick_t rfl rfl) ?_
       refine yAt 88 74 87 ?_
       refine Sch.nil ?_
       refine run_cT 88 ?_
       refine run_pl [yy 0, yy 1] ?_
       refine yM 89 14 ?_
       refine yA 13 89 ?_
       refine Sch.nil ?_
       refine run_inBlock ?_
       refine run_pl [yy 0, yy 1, yy 2] ?_
       refine yM 56 14 ?_
       refine yV (kq 57 (.binOp .add 3 (.tmp 56) (.const (.int .i64 1)) 3)) (fun _ => val_addi rfl rfl (by omega) (by omega)) ?_
       refine yA 14 57 ?_
       refine Sch.nil ?_
       refine kp (sub_cons 3 rfl rfl (sub_cons 4 rfl rfl (sub_cons 8 rfl rfl (sub_cons 10 rfl rfl (sub_cons 12 rfl rfl (sub_cons 13 rfl rfl (sub_cons 14 rfl (eq_int (by simp)) (sub_nil _)))))))) (next2 (i + 1, (i : Int), C2) _ ⟨(by first | omega | (simp only; omega)), (hB.take (Bool.eq_false_iff.2 hA) hP (.inl hC)), hF, hT, ha, hd, hg, hx, hy, ht⟩ (by first | omega | (simp only; omega)))
      ·
       by_cases hD : gnv ag df p b.toNat < gnv ag df p i
       ·
        refine run_draw (id := 12) (ops := F24.o12) [] (C2) [yy 0, yy 1, yy 2, yy 3, yy 4, yy 5, yy 6, yy 7, yy 8, yy 9, yy 10, yy 11, yy 12, yy 13, yy 14, yy 15, yy 16, yy 17, yy 18, yy 19, nn 20, yy 21, yy 22, yy 23] Tryz_mixed (by kernel_rfl) (by kernel_rfl) (by kernel_rfl) ?_
        intro w14 hs
        replace hF := hF.st hs
        replace hT := hT.t hs; replace ha := ha.t hs; replace hd := hd.t hs; replace hg := hg.t hs; replace hx := hx.t hs; replace hy := hy.t hs; replace ht := ht.t hs; replace h62 := h62.t hs
        have hR := Stp.refl [] w14 (C2)
        obtain ⟨m, rfl⟩ : ∃ m : Nat, b = m := ⟨b.toNat, by omega⟩
        have hmi : m < i := by have := hbi (by omega); omega
        refine yM 65 12 ?_
        refine yM 66 14 ?_
        refine oI (e' := 4) (kq 67 (.indexAddr 100 (.tmp 65) (.tmp 66))) rfl rfl ht rfl (by kernel_rfl) rfl (by omega) (by first | omega | (simp only [tkB_len]; omega)) ?_
        intro g67 hg67
        try simp only [Int.toNat_natCast]
        refine oS (I := []) (kq 68 (.load 4 (.tmp 67))) rfl rfl ht hg67 (fun w' hS => ht.sy hg67 hS) (by first | omega | (simp only [tkB_len]; omega)) (by kernel_rfl) rfl rfl ?_
        intro v68 g68
        try simp only [Int.toNat_natCast] at g68
        obtain rfl := rv_bool.1 g68
        have e68 : (tkB gs k n)[i]'(by rw [tkB_len]; exact hin) = false := by rw [tkB_get]; exact Bool.eq_false_iff.2 hA
        rw [e68]
        refine yV (kq 69 (.unOp .not 4 (.tmp 68))) (fun _ => val_not rfl) ?_
        refine yM 70 69 ?_
        refine yMg 71 15 5 true ?_
        refine yV (kg 72 (.binOp .gtr 3 (.tmp 71) (.const (.int .i64 0)) 3) 5 true) (fun _ => val_T (val_gtr rfl rfl) hP) ?_
        refine yAt 73 70 72 ?_
        refine yM 74 73 ?_
        refine yMg 75 13 9 true ?_
        refine yV (kg 76 (.binOp .lss 3 (.tmp 75) (.const (.int .i64 0)) 3) 9 true) (fun _ => val_F (val_lss rfl rfl) hC) ?_
        refine yMg 77 76 9 true ?_
        refine yMg 78 15 12 false ?_
        refine yS (kg 79 (.load 28 (.tmp 3)) 12 false) rfl rfl (fun w' hS => val_loadOwnAgg (n := 3) (vs := [.int .i64 pr, va, vd]) (hx.stay hS (by decide)) (by kernel_rfl) (by kernel_rfl) rfl rfl rfl) ?_
        refine yMg 80 13 12 false ?_
        refine yMg 81 10 12 false ?_
        refine yMg 82 13 12 false ?_
        refine iS (e := 3) (kg 83 (.indexAddr 22 (.tmp 81) (.tmp 82)) 12 false) rfl rfl hg rfl (by kernel_rfl) rfl (by omega) (by omega) ?_
        intro b83 o83 h83
        try simp only [Int.toNat_natCast] at h83
        refine lS (kg 84 (.load 3 (.tmp 83)) 12 false) rfl rfl (fun w' hS => h83.sy hS) h83 (by kernel_rfl) rfl rfl ?_
        intro v84 g84
        first | (obtain rfl := rv_nat.1 g84) | (obtain rfl := rv_int.1 g84)
        rw [digs_get]
        refine cS (kg 85 (.call { callee := .value (.func 57), args := #[(.tmp 79), (.tmp 80), (.tmp 84)], argTypes := #[28, 3, 3] }) 12 false) rfl rfl (ent Tryz.call57 rfl) (rgain_ok (p := p) (i := m) hF hW ha hd (by omega)) ?_
        rintro vw15 w15 ⟨rfl, hs⟩
        refine ⟨(hR.trans hs (by simp)).ext, ?_⟩
        replace hF := hF.st hs
        replace hT := hT.t hs; replace ha := ha.t hs; replace hd := hd.t hs; replace hg := hg.t hs; replace hx := hx.t hs; replace hy := hy.t hs; replace ht := ht.t hs; replace h62 := h62.t hs; replace hR := hR.t hs; replace h83 := h83.t hs
        refine yV (kg 86 (.binOp .gtr 3 (.tmp 78) (.tmp 85) 3) 12 false) (fun _ => val_T (val_gtr rfl rfl) (by rw [Int.toNat_natCast] at hD; exact hD)) ?_
        refine yV (kg 87 (.pick (.tmp 77) (.const (.bool true)) (.tmp 86)) 9 true) (fun _ => val_pick_f rfl rfl) ?_
        refine yAt 88 74 87 ?_
        refine Sch.nil ?_
        refine run_cT 88 ?_
        refine run_pl [yy 0, yy 1] ?_
        refine yM 89 14 ?_
        refine yA 13 89 ?_
        refine Sch.nil ?_
        refine run_inBlock ?_
        refine run_pl [yy 0, yy 1, yy 2] ?_
        refine yM 56 14 ?_
        refine yV (kq 57 (.binOp .add 3 (.tmp 56) (.const (.int .i64 1)) 3)) (fun _ => val_addi rfl rfl (by omega) (by omega)) ?_
        refine yA 14 57 ?_
        refine Sch.nil ?_
        refine kp (sub_cons 3 rfl rfl (sub_cons 4 rfl rfl (sub_cons 8 rfl rfl (sub_cons 10 rfl rfl (sub_cons 12 rfl rfl (sub_cons 13 rfl rfl (sub_cons 14 rfl (eq_int (by simp)) (sub_nil _)))))))) (next2 (i + 1, (i : Int), C2) _ ⟨(by first | omega | (simp only; omega)), (hB.take (Bool.eq_false_iff.2 hA) hP (.inr hD)), hF, hT, ha, hd, hg, hx, hy, ht⟩ (by first | omega | (simp only; omega)))
       ·
        refine run_draw (id := 12) (ops := F24.o12) [] (C2) [yy 0, yy 1, yy 2, yy 3, yy 4, yy 5, yy 6, yy 7, yy 8, yy 9, yy 10, yy 11, yy 12, yy 13, yy 14, yy 15, yy 16, yy 17, yy 18, yy 19, nn 20, yy 21, yy 22, yy 23] Tryz_mixed (by kernel_rfl) (by kernel_rfl) (by kernel_rfl) ?_
        intro w16 hs
        replace hF := hF.st hs
        replace hT := hT.t hs; replace ha := ha.t hs; replace hd := hd.t hs; replace hg := hg.t hs; replace hx := hx.t hs; replace hy := hy.t hs; replace ht := ht.t hs; replace h62 := h62.t hs
        have hR := Stp.refl [] w16 (C2)
        obtain ⟨m, rfl⟩ : ∃ m : Nat, b = m := ⟨b.toNat, by omega⟩
        have hmi : m < i := by have := hbi (by omega); omega
        refine yM 65 12 ?_
        refine yM 66 14 ?_
        refine oI (e' := 4) (kq 67 (.indexAddr 100 (.tmp 65) (.tmp 66))) rfl rfl ht rfl (by kernel_rfl) rfl (by omega) (by first | omega | (simp only [tkB_len]; omega)) ?_
        intro g67 hg67
        try simp only [Int.toNat_natCast]
        refine oS (I := []) (kq 68 (.load 4 (.tmp 67))) rfl rfl ht hg67 (fun w' hS => ht.sy hg67 hS) (by first | omega | (simp only [tkB_len]; omega)) (by kernel_rfl) rfl rfl ?_
        intro v68 g68
        try simp only [Int.toNat_natCast] at g68
        obtain rfl := rv_bool.1 g68
        have e68 : (tkB gs k n)[i]'(by rw [tkB_len]; exact hin) = false := by rw [tkB_get]; exact Bool.eq_false_iff.2 hA
        rw [e68]
        refine yV (kq 69 (.unOp .not 4 (.tmp 68))) (fun _ => val_not rfl) ?_
        refine yM 70 69 ?_
        refine yMg 71 15 5 true ?_
        refine yV (kg 72 (.binOp .gtr 3 (.tmp 71) (.const (.int .i64 0)) 3) 5 true) (fun _ => val_T (val_gtr rfl rfl) hP) ?_
        refine yAt 73 70 72 ?_
        refine yM 74 73 ?_
        refine yMg 75 13 9 true ?_
        refine yV (kg 76 (.binOp .lss 3 (.tmp 75) (.const (.int .i64 0)) 3) 9 true) (fun _ => val_F (val_lss rfl rfl) hC) ?_
        refine yMg 77 76 9 true ?_
        refine yMg 78 15 12 false ?_
        refine yS (kg 79 (.load 28 (.tmp 3)) 12 false) rfl rfl (fun w' hS => val_loadOwnAgg (n := 3) (vs := [.int .i64 pr, va, vd]) (hx.stay hS (by decide)) (by kernel_rfl) (by kernel_rfl) rfl rfl rfl) ?_
        refine yMg 80 13 12 false ?_
        refine yMg 81 10 12 false ?_
        refine yMg 82 13 12 false ?_
        refine iS (e := 3) (kg 83 (.indexAddr 22 (.tmp 81) (.tmp 82)) 12 false) rfl rfl hg rfl (by kernel_rfl) rfl (by omega) (by omega) ?_
        intro b83 o83 h83
        try simp only [Int.toNat_natCast] at h83
        refine lS (kg 84 (.load 3 (.tmp 83)) 12 false) rfl rfl (fun w' hS => h83.sy hS) h83 (by kernel_rfl) rfl rfl ?_
        intro v84 g84
        first | (obtain rfl := rv_nat.1 g84) | (obtain rfl := rv_int.1 g84)
        rw [digs_get]
        refine cS (kg 85 (.call { callee := .value (.func 57), args := #[(.tmp 79), (.tmp 80), (.tmp 84)], argTypes := #[28, 3, 3] }) 12 false) rfl rfl (ent Tryz.call57 rfl) (rgain_ok (p := p) (i := m) hF hW ha hd (by omega)) ?_
        rintro vw17 w17 ⟨rfl, hs⟩
        refine ⟨(hR.trans hs (by simp)).ext, ?_⟩
        replace hF := hF.st hs
        replace hT := hT.t hs; replace ha := ha.t hs; replace hd := hd.t hs; replace hg := hg.t hs; replace hx := hx.t hs; replace hy := hy.t hs; replace ht := ht.t hs; replace h62 := h62.t hs; replace hR := hR.t hs; replace h83 := h83.t hs
        refine yV (kg 86 (.binOp .gtr 3 (.tmp 78) (.tmp 85) 3) 12 false) (fun _ => val_F (val_gtr rfl rfl) (by rw [Int.toNat_natCast] at hD; exact hD)) ?_
        refine yV (kg 87 (.pick (.tmp 77) (.const (.bool true)) (.tmp 86)) 9 true) (fun _ => val_pick_f rfl rfl) ?_
        refine yAt 88 74 87 ?_
        refine Sch.nil ?_
        refine run_cF 88 ?_
        refine run_sk ?_
        refine run_inBlock ?_
        refine run_pl [yy 0, yy 1, yy 2] ?_
        refine yM 56 14 ?_
        refine yV (kq 57 (.binOp .add 3 (.tmp 56) (.const (.int .i64 1)) 3)) (fun _ => val_addi rfl rfl (by omega) (by omega)) ?_
        refine yA 14 57 ?_
        refine Sch.nil ?_
        refine kp (sub_cons 3 rfl rfl (sub_cons 4 rfl rfl (sub_cons 8 rfl rfl (sub_cons 10 rfl rfl (sub_cons 12 rfl rfl (sub_cons 13 rfl rfl (sub_cons 14 rfl (eq_int (by simp)) (sub_nil _)))))))) (next2 (i + 1, (m : Int), C2) _ ⟨(by first | omega | (simp only; omega)), (hB.skip (.inr (.inr ⟨by omega, by omega⟩))), hF, hT, ha, hd, hg, hx, hy, ht⟩ (by first | omega | (simp only; omega)))
     ·
      refine run_draw (id := 12) (ops := F24.o12) [] (C2) [yy 0, yy 1, yy 2, yy 3, yy 4, yy 5, yy 6, yy 7, yy 8, yy 9, yy 10, yy 11, yy 12, yy 13, yy 14, yy 15, yy 16, yy 17, yy 18, yy 19, nn 20, yy 21, yy 22, yy 23] Tryz_mixed (by kernel_rfl) (by kernel_rfl) (by kernel_rfl) ?_
      intro w18 hs
      replace hF := hF.st hs
      replace hT := hT.t hs; replace ha := ha.t hs; replace hd := hd.t hs; replace hg := hg.t hs; replace hx := hx.t hs; replace hy := hy.t hs; replace ht := ht.t hs; replace h62 := h62.t hs
      have hR := Stp.refl [] w18 (C2)
      refine yM 65 12 ?_
      refine yM 66 14 ?_
      refine oI (e' := 4) (kq 67 (.indexAddr 100 (.tmp 65) (.tmp 66))) rfl rfl ht rfl (by kernel_rfl) rfl (by omega) (by first | omega | (simp only [tkB_len]; omega)) ?_
      intro g67 hg67
      try simp only [Int.toNat_natCast]
      refine oS (I := []) (kq 68 (.load 4 (.tmp 67))) rfl rfl ht hg67 (fun w' hS => ht.sy hg67 hS) (by first | omega | (simp only [tkB_len]; omega)) (by kernel_rfl) rfl rfl ?_
      intro v68 g68
      try simp only [Int.toNat_natCast] at g68
      obtain rfl := rv_bool.1 g68
      have e68 : (tkB gs k n)[i]'(by rw [tkB_len]; exact hin) = false := by rw [tkB_get]; exact Bool.eq_false_iff.2 hA
      rw [e68]
      refine yV (kq 69 (.unOp .not 4 (.tmp 68))) (fun _ => val_not rfl) ?_
      refine yM 70 69 ?_
      refine yMg 71 15 5 true ?_
      refine yV (kg 72 (.binOp .gtr 3 (.tmp 71) (.const (.int .i64 0)) 3) 5 true) (fun _ => val_F (val_gtr rfl rfl) hP) ?_
      refine yAt 73 70 72 ?_
      refine yM 74 73 ?_
      refine pX 75 9 true ?_
      refine pX 76 9 true ?_
      refine pX 77 9 true ?_
      refine pX 78 12 false ?_
      refine pX 79 12 false ?_
      refine pX 80 12 false ?_
      refine pX 81 12 false ?_
      refine pX 82 12 false ?_
      refine pX 83 12 false ?_
      refine pX 84 12 false ?_
      refine pW (kg 85 (.call { callee := .value (.func 57), args := #[(.tmp 79), (.tmp 80), (.tmp 84)], argTypes := #[28, 3, 3] }) 12 false) rfl rfl hR.ext ?_
      refine pX 86 12 false ?_
      refine pX 87 9 true ?_
      refine yAf 88 74 87 ?_
      refine Sch.nil ?_
      refine run_cF 88 ?_
      refine run_sk ?_
      refine run_inBlock ?_
      refine run_pl [yy 0, yy 1, yy 2] ?_
      refine yM 56 14 ?_
      refine yV (kq 57 (.binOp .add 3 (.tmp 56) (.const (.int .i64 1)) 3)) (fun _ => val_addi rfl rfl (by omega) (by omega)) ?_
      refine yA 14 57 ?_
      refine Sch.nil ?_
      refine kp (sub_cons 3 rfl rfl (sub_cons 4 rfl rfl (sub_cons 8 rfl rfl (sub_cons 10 rfl rfl (sub_cons 12 rfl rfl (sub_cons 13 rfl rfl (sub_cons 14 rfl (eq_int (by simp)) (sub_nil _)))))))) (next2 (i + 1, b, C2) _ ⟨(by first | omega | (simp only; omega)), (hB.skip (.inr (.inl (by omega)))), hF, hT, ha, hd, hg, hx, hy, ht⟩ (by first | omega | (simp only; omega)))
   ·
    have hin : n = i := by omega
    subst hin
    refine run_ex 2 ?_
    refine run_sq ?_
    refine run_sq ?_
    refine run_pl [yy 0, yy 1] ?_
    refine yM 90 13 ?_
    refine yV (kq 91 (.binOp .lss 3 (.tmp 90) (.const (.int .i64 0)) 3)) (fun _ => val_lss rfl rfl) ?_
    refine Sch.nil ?_
    refine run_i 91 rfl (fun h91 => ?_) (fun h91 => ?_)
    ·
     have hkl := Best.fin0 hSt hk hB h91
     refine run_sq ?_
     refine run_pl [yy 0, yy 1] ?_
     refine yV (kq 6 (.assign (.const (.slice none 0 0)))) (fun _ => val_assign rfl) ?_
     refine yAc 7 (.bool false) ?_
     refine Sch.nil ?_
     refine run_ret2 (by kernel_rfl) Tryz.func24 Tryz.results24 rfl rfl ?_
     exact ⟨_, [], false, rfl, hT.out1 (by decide), rv_nil, .inr ⟨(by rw [← hsc]; exact hgr), gs, k, by rw [← hn]; exact hSt, hk, by rw [← hsc]; exact hlt, .inl ⟨by rw [← hsc]; exact hpk, hkl, rfl, rfl⟩⟩⟩
    ·
     obtain ⟨hkl, hge⟩ := Best.fin hSt hk hB (by omega)
     obtain ⟨hbn, _, hgp, _⟩ := hB.some_ (by omega)
     obtain ⟨m, rfl⟩ : ∃ m : Nat, b = m := ⟨b.toNat, by omega⟩
     rw [Int.toNat_natCast] at hge hbn hgp
     have hps : preG s gs (k + 1) = preG s gs k + gnv ag df p m := by rw [preG, getD_in hkl, hge]
     have hpb1 := preG_b (s := s) hgb (k + 1) hkl
     have hpb0 := preG_b (s := s) hgb k hk
     have hma : m < ag.length := by omega
     refine run_sk ?_
     refine run_sq ?_
     refine run_pl [yy 0, yy 1, yy 2, nn 3] ?_
     refine yM 92 12 ?_
     refine yM 93 13 ?_
     refine oI (e' := 4) (kq 94 (.indexAddr 100 (.tmp 92) (.tmp 93))) rfl rfl ht rfl (by kernel_rfl) rfl (by omega) (by first | omega | (simp only [tkB_len]; omega)) ?_
     intro g94 hg94
     try simp only [Int.toNat_natCast]
     refine aN (k0 (.store 4 (.tmp 94) (.const (.bool true)))) rfl (a_storeO ht hg94 (by first | omega | (simp only [tkB_len]; omega)) rfl rfl (by kernel_rfl) (rv_bool.2 rfl)) ?_
     rintro _ w19 ⟨rfl, hs, ht⟩
     refine ⟨trivial, ?_⟩
     replace hF := hF.st hs
     replace hT := hT.t hs; replace ha := ha.t hs; replace hd := hd.t hs; replace hg := hg.t hs; replace hx := hx.t hs; replace hy := hy.t hs
     rw [tkB_set hSt hkl (by rw [hge])] at ht
     refine Sch.nil ?_
     refine run_draw (id := 17) (ops := F24.o17) [] (C2) [yy 0, yy 1, yy 2, yy 3, yy 4, yy 5, yy 6, nn 7, yy 8, yy 9] Tryz_mixed (by kernel_rfl) (by kernel_rfl) (by kernel_rfl) ?_
     intro w20 hs
     replace hF := hF.st hs
     replace hT := hT.t hs; replace ha := ha.t hs; replace hd := hd.t hs; replace hg := hg.t hs; replace hx := hx.t hs; replace hy := hy.t hs; replace ht := ht.t hs
     have hR := Stp.refl [] w20 (C2)
     refine yM 95 8 ?_
     refine yS (kq 96 (.load 28 (.tmp 3))) rfl rfl (fun w' hS => val_loadOwnAgg (n := 3) (vs := [.int .i64 pr, va, vd]) (hx.stay hS (by decide)) (by kernel_rfl) (by kernel_rfl) rfl rfl rfl) ?_
     refine yM 97 13 ?_
     refine yM 98 10 ?_
     refine yM 99 13 ?_
     refine iS (e := 3) (kq 100 (.indexAddr 22 (.tmp 98) (.tmp 99))) rfl rfl hg rfl (by kernel_rfl) rfl (by omega) (by omega) ?_
     intro b100 o100 h100
     try simp only [Int.toNat_natCast] at h100
     refine lS (kq 101 (.load 3 (.tmp 100))) rfl rfl (fun w' hS => h100.sy hS) h100 (by kernel_rfl) rfl rfl ?_
     intro v101 g101
     first | (obtain rfl := rv_nat.1 g101) | (obtain rfl := rv_int.1 g101)
     rw [digs_get]
     refine cS (kq 102 (.call { callee := .value (.func 57), args := #[(.tmp 96), (.tmp 97), (.tmp 101)], argTypes := #[28, 3, 3] })) rfl rfl (ent Tryz.call57 rfl) (rgain_ok (p := p) (i := m) hF hW ha hd hma) ?_
     rintro vw21 w21 ⟨rfl, hs⟩
     refine ⟨(hR.trans hs (by simp)).ext, ?_⟩
     replace hF := hF.st hs
     replace hT := hT.t hs; replace ha := ha.t hs; replace hd := hd.t hs; replace hg := hg.t hs; replace hx := hx.t hs; replace hy := hy.t hs; replace ht := ht.t hs; replace hR := hR.t hs; replace h100 := h100.t hs
     refine yV (kq 103 (.binOp .add 3 (.tmp 95) (.tmp 102) 3)) (fun _ => val_addi rfl rfl (by omega) (by omega)) ?_
     refine yA 8 103 ?_
     refine Sch.nil ?_
     refine run_inBlock ?_
     refine kp (sub_cons 3 rfl rfl (sub_cons 4 rfl rfl (sub_cons 8 rfl (eq_int (by simp only; omega)) (sub_cons 10 rfl rfl (sub_cons 12 rfl rfl (sub_nil _)))))) (next1 (k + 1, vt, C2) _ ⟨(by first | omega | (simp only; omega)), (fun j hj => by
         by_cases e : j = k
         · subst e; exact hpk
         · exact hlt j (by simp only at hj; omega)), hF, hT, ha, hd, hg, hx, hy, ht⟩ (by first | omega | (simp only; omega)))
  ·
   have hpk : hh ≤ preG s gs k := by omega
   refine run_ex 0 ?_
   refine run_sq ?_
   refine run_pl [yy 0] ?_
   refine yV (kq 16 (.assign (.const (.slice none 0 0)))) (fun _ => val_assign rfl) ?_
   refine Sch.nil ?_
   refine run_sq ?_
   refine run_sq ?_
   refine run_pl [yy 0] ?_
   refine yAc 17 (.int .i64 0) ?_
   refine Sch.nil ?_
   refine run_bk 4 ?_
   
   refine run_lp (ι := Nat × Value × (Nat → Nat)) (I := fun x w => x.1 ≤ n ∧ Lim w x.2.2 ∧ Stp [2, 3, 4, 5, 6, 7, 8, 9] w₀ (col1 C) w x.2.2 ∧ RV w (Mc x.2.2) (digs p n) ug ∧ OwnL w x.2.2 5 4 vt (tkB gs k n) ∧ OwnL w x.2.2 6 3 x.2.1 (tkL gs k x.1)) (e := fun x => [(10, ug), (12, vt), (16, x.2.1), (17, .int .i64 x.1)]) (m := fun x => n - x.1) (x₀ := (0, .slice none 0 0, C1)) (sr 10 (sr 12 (sr 16 (sr 17 (sub_nil _))))) ?_ ?_
   · exact ⟨Nat.zero_le _, hF, hT, hg, ht, OwnL.nil⟩
   intro ⟨q, vo, C3⟩ w22 hI next
   obtain ⟨hq, hF, hT, hg, ht, ho⟩ := hI
   try simp only at hq hF hT hg ht ho
   have next3 := next
   clear next
   show Run _ _ _ _ [(10, ug), (12, vt), (16, vo), (17, .int .i64 q)] _ _
   have htl := tkB_len gs k n
   have hdl := digs_len p n
   have hol := tkL_len gs k q
   refine run_sq ?_
   refine run_sq ?_
   refine run_pl [yy 0, yy 1, yy 2, yy 3] ?_
   refine yM 104 17 ?_
   refine yM 105 10 ?_
   refine yS (kq 106 (.call { callee := .builtin .len, args := #[(.tmp 105)], argTypes := #[22] })) rfl rfl (fun w' hS => hg.lenV rfl Tryz.underlying22 w' ) ?_
   refine yV (kq 107 (.binOp .lss 3 (.tmp 104) (.tmp 106) 3)) (fun _ => val_lss rfl rfl) ?_
   refine Sch.nil ?_
   refine run_i 107 rfl (fun h107 => ?_) (fun h107 => ?_)
   ·
    have hqn : q < n := by omega
    refine run_sk ?_
    refine run_sq ?_
    refine run_bk 5 ?_
    refine run_sq ?_
    refine run_pl [yy 0, yy 1, yy 2, nn 3] ?_
    refine yM 110 12 ?_
    refine yM 111 17 ?_
    refine oI (e' := 4) (kq 112 (.indexAddr 100 (.tmp 110) (.tmp 111))) rfl rfl ht rfl (by kernel_rfl) rfl (by omega) (by first | omega | (simp only [tkB_len]; omega)) ?_
    intro g112 hg112
    try simp only [Int.toNat_natCast]
    refine oN (kq 113 (.load 4 (.tmp 112))) rfl rfl trivial ht hg112 (by first | omega | (simp only [tkB_len]; omega)) (by kernel_rfl) rfl rfl ?_
    intro v113 g113
    try simp only [Int.toNat_natCast] at g113
    obtain rfl := rv_bool.1 g113
    rw [tkB_get]
    refine Sch.nil ?_
    refine run_c 113 rfl (fun h113 => ?_) (fun h113 => ?_)
    ·
     have hts : tkL gs k (q + 1) = tkL gs k q ++ [(q : Int)] := by rw [tkL_succ, if_pos h113]
     refine run_pl [yy 0, yy 1, nn 2, nn 3, yy 4] ?_
     refine yM 114 16 ?_
     refine yM 115 17 ?_
     refine aS (kq 116 (.buildSlice 22 1 #[(0, (.tmp 115))])) rfl rfl (a_buildSlice (ys := ([(q : Int)] : List Int)) (e := 3) (bytes := 8) hF (by kernel_rfl) rfl (by decide) (by decide) ⟨rfl, ⟨_, rfl, rv_int.2 rfl⟩, trivial⟩) ?_
     rintro v116 w23 ⟨hs, g116, hF⟩
     refine ⟨trivial, ?_⟩
     replace hT := hT.t hs; replace hg := hg.t hs; replace ht := ht.t hs; replace ho := ho.t hs
     refine aS (kq 117 (.call { callee := .builtin .append, args := #[(.tmp 114), (.tmp 116)], argTypes := #[22, 22] })) rfl rfl (a_append (e := 3) (bytes := 8) hF (by decide) rfl rfl (by kernel_rfl) (by decide) ho g116 (by simp only [List.length_cons, List.length_nil]; omega) (by simp only [List.length_cons, List.length_nil]; omega)) ?_
     rintro v117 w24 ⟨Cw24, hs, ho, hF⟩
     refine ⟨trivial, ?_⟩
     replace hT := hT.t hs; replace hg := hg.t hs; replace ht := ht.t hs; replace g116 := g116.t hs
     refine yA 16 117 ?_
     refine Sch.nil ?_
     refine run_inBlock ?_
     refine run_pl [yy 0, yy 1, yy 2] ?_
     refine yM 108 17 ?_
     refine yV (kq 109 (.binOp .add 3 (.tmp 108) (.const (.int .i64 1)) 3)) (fun _ => val_addi rfl rfl (by omega) (by omega)) ?_
     refine yA 17 109 ?_
     refine Sch.nil ?_
     refine kp (sub_cons 10 rfl rfl (sub_cons 12 rfl rfl (sub_cons 16 rfl rfl (sub_cons 17 rfl (eq_int (by simp)) (sub_nil _))))) (next3 (q + 1, v117, Cw24) _ ⟨(by first | omega | (simp only; omega)), hF, hT, hg, ht, (by simp only; rw [hts]; exact ho)⟩ (by first | omega | (simp only; omega)))
    ·
     have hts : tkL gs k (q + 1) = tkL gs k q := by rw [tkL_succ, if_neg (by rw [h113]; decide), List.append_nil]
     refine run_sk ?_
     refine run_inBlock ?_
     refine run_pl [yy 0, yy 1, yy 2] ?_
     refine yM 108 17 ?_
     refine yV (kq 109 (.binOp .add 3 (.tmp 108) (.const (.int .i64 1)) 3)) (fun _ => val_addi rfl rfl (by omega) (by omega)) ?_
     refine yA 17 109 ?_
     refine Sch.nil ?_
     refine kp (sub_cons 10 rfl rfl (sub_cons 12 rfl rfl (sub_cons 16 rfl rfl (sub_cons 17 rfl (eq_int (by simp)) (sub_nil _))))) (next3 (q + 1, vo, C3) _ ⟨(by first | omega | (simp only; omega)), hF, hT, hg, ht, (by simp only; rw [hts]; exact ho)⟩ (by first | omega | (simp only; omega)))
   ·
    have hqn : n = q := by omega
    subst hqn
    refine run_ex 4 ?_
    refine run_sq ?_
    refine run_pl [yy 0, yy 1, yy 2] ?_
    refine yM 118 16 ?_
    refine yA 6 118 ?_
    refine yAc 7 (.bool true) ?_
    refine Sch.nil ?_
    refine run_ret2 (by kernel_rfl) Tryz.func24 Tryz.results24 rfl rfl ?_
    exact ⟨_, tkL gs k n, true, rfl, hT.out1 (by decide), ho.out hT hF0 (Mc_col1 C) (fun b _ => col1_lt C (by decide) b) (by omega), .inr ⟨(by rw [← hsc]; exact hgr), gs, k, by rw [← hn]; exact hSt, hk, by rw [← hsc]; exact hlt, .inr ⟨by rw [← hsc]; exact hpk, rfl, tkL_sts hSt hk⟩⟩⟩
end Go.Proofs.YtionghonhnedgaaGreat
