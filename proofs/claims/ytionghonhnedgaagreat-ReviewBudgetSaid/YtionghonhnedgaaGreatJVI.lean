/- Steps through functions of the program. -/
import Derived.Test.YtionghonhnedgaaGreatJVH
set_option linter.unusedVariables false
set_option linter.unusedSimpArgs false
set_option maxRecDepth 100000
set_option maxHeartbeats 4000000
namespace Go.Proofs.YtionghonhnedgaaGreat
open Go.K Go.K.Rep

namespace F95
noncomputable def c0 := bodyOf Tryz.f95
end F95
theorem rfits_ok {w₀ : World} {C : Nat → Nat} {pr : Int} {ag df : List Int} {va vd : Value} {id ver : Int} {vals : List ByteArray} {vv : Value} (hF : Lim w₀ C) (ha : RV w₀ (Mc C) ag va) (hQ : QOK ag vals ver) (hv : RV w₀ (Mc C) vals vv) : Calls Tryz.prog 95 #[.agg #[.int .i64 pr, va, vd], .agg #[.int .i64 id, .int .i64 ver, vv]] w₀ (Ret fun v w' => v = .bool true ∧ Stp [] w₀ C w' C) := by
 have hF0 := hF
 have hT := Stp.refl [2, 3, 4, 5, 6, 7, 8, 9] w₀ (col1 C)
 replace hF := hF.col1
 replace ha : RV w₀ (Mc (col1 C)) ag va := by rw [Mc_col1]; exact ha
 replace hv : RV w₀ (Mc (col1 C)) vals vv := by rw [Mc_col1]; exact hv
 refine calls_start (c := F95.c0) (N := 23) [.agg #[.int .i64 pr, va, vd], .agg #[.int .i64 id, .int .i64 ver, vv]] Tryz.func95 (by kernel_rfl) (by kernel_rfl) (by kernel_rfl) ?_
 show Run _ _ _ _ [(0, .agg #[.int .i64 pr, va, vd]), (1, .agg #[.int .i64 id, .int .i64 ver, vv])] _ _
 refine run_sq ?_
 refine run_pl [nn 0, nn 1, yy 2] ?_
 refine aS (kq 2 (.box 28 (.tmp 0))) rfl rfl (a_box (cs := [.int .i64 pr, va, vd]) hF 3 rfl rfl) ?_
 rintro _ w1 ⟨Cw1, bw1, rfl, hs, hx, hF⟩
 refine ⟨trivial, ?_⟩
 replace hT := hT.t hs; replace ha := ha.t hs; replace hv := hv.t hs
 refine aS (kq 3 (.box 37 (.tmp 1))) rfl rfl (a_box (cs := [.int .i64 id, .int .i64 ver, vv]) hF 3 rfl rfl) ?_
 rintro _ w2 ⟨Cw2, bw2, rfl, hs, hy, hF⟩
 refine ⟨trivial, ?_⟩
 replace hT := hT.t hs; replace ha := ha.t hs; replace hv := hv.t hs; replace hx := hx.t hs
 refine yAc 4 (.bool false) ?_
 refine Sch.nil ?_
 refine run_sq ?_
 refine run_pl [yy 0, nn 1, yy 2, yy 3, nn 4, yy 5, yy 6, yy 7, yy 8, nn 9, nn 10, yy 11, yy 12, yy 13, nn 14, nn 15, yy 16, yy 17, yy 18] ?_
 refine yF 5 37 3 2 2 ?_
 refine nS (kq 6 (.load 35 (.tmp 5))) rfl rfl trivial (val_loadOwn hy.at_ (by kernel_rfl) rfl rfl) ?_
 refine yS (kq 7 (.call { callee := .builtin .len, args := #[(.tmp 6)], argTypes := #[35] })) rfl rfl (fun w' hS => hv.lenV rfl Tryz.underlying35 w' ) ?_
 refine yF 8 28 2 1 1 ?_
 refine nS (kq 9 (.load 22 (.tmp 8))) rfl rfl trivial (val_loadOwn hx.at_ (by kernel_rfl) rfl rfl) ?_
 refine yS (kq 10 (.call { callee := .builtin .len, args := #[(.tmp 9)], argTypes := #[22] })) rfl rfl (fun w' hS => ha.lenV rfl Tryz.underlying22 w' ) ?_
 refine yV (kq 11 (.binOp .eql 3 (.tmp 7) (.tmp 10) 3)) (fun _ => val_is (val_eql rfl rfl) (show _ = Value.bool true from congrArg Value.bool (decide_eq_true (by rw [hQ.1])))) ?_
 refine yM 12 11 ?_
 refine yFg 13 37 3 1 1 7 true ?_
 refine nS (kg 14 (.load 3 (.tmp 13)) 7 true) rfl rfl trivial (val_loadOwn hy.at_ (by kernel_rfl) rfl rfl) ?_
 refine cS (kg 15 (.call { callee := .value (.func 44), args := #[(.tmp 14)], argTypes := #[3] }) 7 true) rfl rfl (ent Tryz.call44 rfl) (ver_ok _ _) ?_
 rintro vw3 w3 ⟨rfl, rfl⟩
 rw [hQ.2.1]
 refine ⟨trivial, ?_⟩
 refine yAt 16 12 15 ?_
 refine yM 17 16 ?_
 refine yFg 18 37 3 2 2 12 true ?_
 refine nS (kg 19 (.load 35 (.tmp 18)) 12 true) rfl rfl trivial (val_loadOwn hy.at_ (by kernel_rfl) rfl rfl) ?_
 refine cS (kg 20 (.call { callee := .value (.func 122), args := #[(.tmp 19), (.func 123)], argTypes := #[35, 155] }) 12 true) rfl rfl (ent Tryz.call122 rfl) (containsL_ok hv hQ.2.2) ?_
 rintro vw4 w4 ⟨rfl, rfl⟩
 refine ⟨trivial, ?_⟩
 refine yV (kg 21 (.unOp .not 4 (.tmp 20)) 12 true) (fun _ => val_not rfl) ?_
 refine yAt 22 17 21 ?_
 refine yA 4 22 ?_
 refine Sch.nil ?_
 refine run_ret1 (by kernel_rfl) Tryz.func95 Tryz.results95 rfl ?_
 exact ⟨rfl, hT.out1 (by decide)⟩
namespace F62
noncomputable def c0 := bodyOf Tryz.f62
noncomputable def c8 := (cl (cr (cr (cl (cr c0)))))
noncomputable def c16 := (cl (cr (cl (cr (cr c0)))))
noncomputable def c17 := (cr (cr (cl (cr (cr c0)))))
noncomputable def c24 := (cl (cl (cr (cr (cr c0)))))
noncomputable def c25 := (cr (cl (cr (cr (cr c0)))))
noncomputable def c33 := (cl (cr (cr (cr (cr c0)))))
noncomputable def c43 := (cl (cr (cr (cr (cl c33)))))
noncomputable def c47 := (cr (cr (cr (cr (cr c0)))))
noncomputable def c54 := (cl (cl (cr (cl (cr c47)))))
end F62
/-- 'check', of what is valid. -/
theorem acheck_ok {w₀ : World} {C : Nat → Nat} {bud : Int} {sh : List Shw} {ds : List Dcs} {vs vz : Value} {pr : Int} {ag df : List Int} {va vd : Value} {lo hh wt : Int} {p : Nat} {A B : Couple} {id1 ver1 : Int} {vals1 : List ByteArray} {vv1 : Value} {id2 ver2 : Int} {vals2 : List ByteArray} {vv2 : Value} (hF : Lim w₀ C) (hRo : ROK bud sh ds) (hsh : RV w₀ (Mc C) sh vs) (hds : RV w₀ (Mc C) ds vz) (hW : WOK pr ag df) (ha : RV w₀ (Mc C) ag va) (hd : RV w₀ (Mc C) df vd) (hK : TOK lo hh) (hp : p < 3 ^ ag.length) (hAB : cplOK A B = true) (h1 : A.b = id1) (h2 : B.b = id2) (hQ1 : QOK ag vals1 ver1) (hv1 : RV w₀ (Mc C) vals1 vv1) (hQ2 : QOK ag vals2 ver2) (hv2 : RV w₀ (Mc C) vals2 vv2) :
    Calls Tryz.prog 62 #[.agg #[.int .i64 bud, vs, vz], .agg #[.int .i64 pr, va, vd], .agg #[.int .i64 lo, .int .i64 hh], .agg #[.int .i64 A.a, .int .i64 A.b, .int .i64 B.a, .int .i64 B.b, .int .i64 p, .int .i64 wt], .agg #[.int .i64 id1, .int .i64 ver1, vv1], .agg #[.int .i64 id2, .int .i64 ver2, vv2]] w₀ (Ret fun v w' => ∃ u fl ok, v = .tuple #[u, .int .i64 (if ok then 0 else 13)] ∧ Stp [] w₀ C w' C ∧ RV w' (Mc C) fl u ∧ FldS pr ag df lo hh p fl ok) := by
 have hF0 := hF
 have hT := Stp.refl [2, 3, 4, 5, 6, 7, 8, 9] w₀ (col1 C)
 replace hF := hF.col1
 replace ha : RV w₀ (Mc (col1 C)) ag va := by rw [Mc_col1]; exact ha
 replace hd : RV w₀ (Mc (col1 C)) df vd := by rw [Mc_col1]; exact hd
 replace hsh : RV w₀ (Mc (col1 C)) sh vs := by rw [Mc_col1]; exact hsh
 replace hds : RV w₀ (Mc (col1 C)) ds vz := by rw [Mc_col1]; exact hds
 replace hv1 : RV w₀ (Mc (col1 C)) vals1 vv1 := by rw [Mc_col1]; exact hv1
 replace hv2 : RV w₀ (Mc (col1 C)) vals2 vv2 := by rw [Mc_col1]; exact hv2
 refine calls_start (c := F62.c0) (N := 79) [.agg #[.int .i64 bud, vs, vz], .agg #[.int .i64 pr, va, vd], .agg #[.int .i64 lo, .int .i64 hh], .agg #[.int .i64 A.a, .int .i64 A.b, .int .i64 B.a, .int .i64 B.b, .int .i64 p, .int .i64 wt], .agg #[.int .i64 id1, .int .i64 ver1, vv1], .agg #[.int .i64 id2, .int .i64 ver2, vv2]] Tryz.func62 (by kernel_rfl) (by kernel_rfl) (by kernel_rfl) ?_
 show Run _ _ _ _ [(0, .agg #[.int .i64 bud, vs, vz]), (1, .agg #[.int .i64 pr, va, vd]), (2, .agg #[.int .i64 lo, .int .i64 hh]), (3, .agg #[.int .i64 A.a, .int .i64 A.b, .int .i64 B.a, .int .i64 B.b, .int .i64 p, .int .i64 wt]), (4, .agg #[.int .i64 id1, .int .i64 ver1, vv1]), (5, .agg #[.int .i64 id2, .int .i64 ver2, vv2])] _ _
 refine run_sq ?_
 refine run_pl [nn 0, nn 1, nn 2, nn 3, nn 4, nn 5, yy 6, yy 7] ?_
 refine aS (kq 6 (.box 26 (.tmp 0))) rfl rfl (a_box (cs := [.int .i64 bud, vs, vz]) hF 3 rfl rfl) ?_
 rintro _ w1 ⟨Cw1, bw1, rfl, hs, bx, hF⟩
 refine ⟨trivial, ?_⟩
 replace hT := hT.t hs; replace ha := ha.t hs; replace hd := hd.t hs; replace hsh := hsh.t hs; replace hds := hds.t hs; replace hv1 := hv1.t hs; replace hv2 := hv2.t hs
 refine aS (kq 7 (.box 28 (.tmp 1))) rfl rfl (a_box (cs := [.int .i64 pr, va, vd]) hF 3 rfl rfl) ?_
 rintro _ w2 ⟨Cw2, bw2, rfl, hs, bw, hF⟩
 refine ⟨trivial, ?_⟩
 replace hT := hT.t hs; replace ha := ha.t hs; replace hd := hd.t hs; replace hsh := hsh.t hs; replace hds := hds.t hs; replace hv1 := hv1.t hs; replace hv2 := hv2.t hs; replace bx := bx.t hs
 refine aS (kq 8 (.box 30 (.tmp 2))) rfl rfl (a_box (cs := [.int .i64 lo, .int .i64 hh]) hF 3 rfl rfl) ?_
 rintro _ w3 ⟨Cw3, bw3, rfl, hs, bt, hF⟩
 refine ⟨trivial, ?_⟩
 replace hT := hT.t hs; replace ha := ha.t hs; replace hd := hd.t hs; replace hsh := hsh.t hs; replace hds := hds.t hs; replace hv1 := hv1.t hs; replace hv2 := hv2.t hs; replace bx := bx.t hs; replace bw := bw.t hs
 refine aS (kq 9 (.box 34 (.tmp 3))) rfl rfl (a_box (cs := [.int .i64 A.a, .int .i64 A.b, .int .i64 B.a, .int .i64 B.b, .int .i64 p, .int .i64 wt]) hF 3 rfl rfl) ?_
 rintro _ w4 ⟨Cw4, bw4, rfl, hs, bc, hF⟩
 refine ⟨trivial, ?_⟩
 replace hT := hT.t hs; replace ha := ha.t hs; replace hd := hd.t hs; replace hsh := hsh.t hs; replace hds := hds.t hs; replace hv1 := hv1.t hs; replace hv2 := hv2.t hs; replace bx := bx.t hs; replace bw := bw.t hs; replace bt := bt.t hs
 refine aS (kq 10 (.box 37 (.tmp 4))) rfl rfl (a_box (cs := [.int .i64 id1, .int .i64 ver1, vv1]) hF 3 rfl rfl) ?_
 rintro _ w5 ⟨Cw5, bw5, rfl, hs, b1, hF⟩
 refine ⟨trivial, ?_⟩
 replace hT := hT.t hs; replace ha := ha.t hs; replace hd := hd.t hs; replace hsh := hsh.t hs; replace hds := hds.t hs; replace hv1 := hv1.t hs; replace hv2 := hv2.t hs; replace bx := bx.t hs; replace bw := bw.t hs; replace bt := bt.t hs; replace bc := bc.t hs
 refine aS (kq 11 (.box 37 (.tmp 5))) rfl rfl (a_box (cs := [.int .i64 id2, .int .i64 ver2, vv2]) hF 3 rfl rfl) ?_
 rintro _ w6 ⟨Cw6, bw6, rfl, hs, b2, hF⟩
 refine ⟨trivial, ?_⟩
 replace hT := hT.t hs; replace ha := ha.t hs; replace hd := hd.t hs; replace hsh := hsh.t hs; replace hds := hds.t hs; replace hv1 := hv1.t hs; replace hv2 := hv2.t hs; replace bx := bx.t hs; replace bw := bw.t hs; replace bt := bt.t hs; replace bc := bc.t hs; replace b1 := b1.t hs
 refine yV (kq 12 (.assign (.const (.slice none 0 0)))) (fun _ => val_assign rfl) ?_
 refine yAc 13 (.int .i64 0) ?_
 refine Sch.nil ?_
 refine run_sq ?_
 refine run_sq ?_
 refine run_pl [nn 0, nn 1, yy 2] ?_
 refine nS (kq 19 (.load 26 (.tmp 6))) rfl rfl trivial (val_loadOwnAgg (n := 3) (vs := [.int .i64 bud, vs, vz]) bx.at_ (by kernel_rfl) (by kernel_rfl) rfl rfl rfl) ?_
 refine cS (kq 20 (.call { callee := .value (.func 21), args := #[(.tmp 19)], argTypes := #[26] })) rfl rfl (ent Tryz.call21 rfl) (rcheck_ok hF hRo hsh hds) ?_
 rintro vw7 w7 ⟨rfl, hs⟩
 refine ⟨trivial, ?_⟩
 replace hF := hF.st hs
 replace hT := hT.t hs; replace ha := ha.t hs; replace hd := hd.t hs; replace hsh := hsh.t hs; replace hds := hds.t hs; replace hv1 := hv1.t hs; replace hv2 := hv2.t hs; replace bx := bx.t hs; replace bw := bw.t hs; replace bt := bt.t hs; replace bc := bc.t hs; replace b1 := b1.t hs; replace b2 := b2.t hs
 refine yA 14 20 ?_
 refine Sch.nil ?_
 refine run_sq ?_
 refine run_pl [yy 0, yy 1] ?_
 refine yM 21 14 ?_
 refine yV (kq 22 (.binOp .neq 52 (.tmp 21) (.const (.int .i64 0)) 52)) (fun _ => val_is (val_neq rfl rfl) (show _ = Value.bool false from congrArg Value.bool (decide_eq_false (by decide)))) ?_
 refine Sch.nil ?_
 refine run_cF 22 ?_
 refine run_sk ?_
 refine run_sq ?_
 refine run_sq ?_
 refine run_pl [nn 0, nn 1, yy 2] ?_
 refine nS (kq 24 (.load 28 (.tmp 7))) rfl rfl trivial (val_loadOwnAgg (n := 3) (vs := [.int .i64 pr, va, vd]) bw.at_ (by kernel_rfl) (by kernel_rfl) rfl rfl rfl) ?_
 refine cS (kq 25 (.call { callee := .value (.func 94), args := #[(.tmp 24)], argTypes := #[28] })) rfl rfl (ent Tryz.call94 rfl) (wcheck_ok hF hW ha hd) ?_
 rintro vw8 w8 ⟨rfl, hs⟩
 refine ⟨trivial, ?_⟩
 replace hF := hF.st hs
 replace hT := hT.t hs; replace ha := ha.t hs; replace hd := hd.t hs; replace hsh := hsh.t hs; replace hds := hds.t hs; replace hv1 := hv1.t hs; replace hv2 := hv2.t hs; replace bx := bx.t hs; replace bw := bw.t hs; replace bt := bt.t hs; replace bc := bc.t hs; replace b1 := b1.t hs; replace b2 := b2.t hs
 refine yA 15 25 ?_
 refine Sch.nil ?_
 refine run_sq ?_
 refine run_pl [yy 0, yy 1] ?_
 refine yM 26 15 ?_
 refine yV (kq 27 (.binOp .neq 52 (.tmp 26) (.const (.int .i64 0)) 52)) (fun _ => val_is (val_neq rfl rfl) (show _ = Value.bool false from congrArg Value.bool (decide_eq_false (by decide)))) ?_
 refine Sch.nil ?_
 refine run_cF 27 ?_
 refine run_sk ?_
 refine run_sq ?_
 refine run_sq ?_
 refine run_pl [nn 0, nn 1, yy 2] ?_
 refine nS (kq 29 (.load 30 (.tmp 8))) rfl rfl trivial (val_loadOwnAgg (n := 2) (vs := [.int .i64 lo, .int .i64 hh]) bt.at_ (by kernel_rfl) (by kernel_rfl) rfl rfl rfl) ?_
 refine cS (kq 30 (.call { callee := .value (.func 49), args := #[(.tmp 29)], argTypes := #[30] })) rfl rfl (ent Tryz.call49 rfl) (tcheck_ok hF hK) ?_
 rintro vw9 w9 ⟨rfl, hs⟩
 refine ⟨trivial, ?_⟩
 replace hF := hF.st hs
 replace hT := hT.t hs; replace ha := ha.t hs; replace hd := hd.t hs; replace hsh := hsh.t hs; replace hds := hds.t hs; replace hv1 := hv1.t hs; replace hv2 := hv2.t hs; replace bx := bx.t hs; replace bw := bw.t hs; replace bt := bt.t hs; replace bc := bc.t hs; replace b1 := b1.t hs; replace b2 := b2.t hs
 refine yA 16 30 ?_
 refine Sch.nil ?_
 refine run_sq ?_
 refine run_pl [yy 0, yy 1] ?_
 refine yM 31 16 ?_
 refine yV (kq 32 (.binOp .neq 52 (.tmp 31) (.const (.int .i64 0)) 52)) (fun _ => val_is (val_neq rfl rfl) (show _ = Value.bool false from congrArg Value.bool (decide_eq_false (by decide)))) ?_
 refine Sch.nil ?_
 refine run_cF 32 ?_
 refine run_sk ?_
 refine run_sq ?_
 refine run_bk 0 ?_
 refine run_sq ?_
 refine run_pl [yy 0, nn 1, yy 2, nn 3, nn 4, yy 5, yy 6, yy 7, yy 8, nn 9, yy 10, nn 11, yy 12, yy 13, yy 14, yy 15, yy 16, nn 17, yy 18, nn 19, yy 20, yy 21, yy 22] ?_
 refine yF 35 34 9 0 0 ?_
 refine nS (kq 36 (.load 32 (.tmp 35))) rfl rfl trivial (val_loadOwnAgg (n := 2) (vs := encR A) bc.at_ (by kernel_rfl) (by kernel_rfl) rfl rfl rfl) ?_
 refine yF 37 34 9 1 2 ?_
 refine nS (kq 38 (.load 32 (.tmp 37))) rfl rfl trivial (val_loadOwnAgg (n := 2) (vs := encR B) bc.at_ (by kernel_rfl) (by kernel_rfl) rfl rfl rfl) ?_
 refine cS (kq 39 (.call { callee := .value (.func 80), args := #[(.tmp 36), (.tmp 38)], argTypes := #[32, 32] })) rfl rfl (ent Tryz.call80 rfl) (couple_ok (x := A) (y := B) hF) ?_
 rintro vw10 w10 ⟨rfl, hs⟩
 rw [hAB]
 refine ⟨trivial, ?_⟩
 replace hF := hF.st hs
 replace hT := hT.t hs; replace ha := ha.t hs; replace hd := hd.t hs; replace hsh := hsh.t hs; replace hds := hds.t hs; replace hv1 := hv1.t hs; replace hv2 := hv2.t hs; replace bx := bx.t hs; replace bw := bw.t hs; replace bt := bt.t hs; replace bc := bc.t hs; replace b1 := b1.t hs; replace b2 := b2.t hs
 refine yV (kq 40 (.unOp .not 4 (.tmp 39))) (fun _ => val_not rfl) ?_
 refine yM 41 40 ?_
 refine yFg 42 34 9 0 0 6 false ?_
 refine yFg 43 32 42 1 1 6 false ?_
 refine nS (kg 44 (.load 3 (.tmp 43)) 6 false) rfl rfl trivial (val_loadOwn bc.at_ (by kernel_rfl) rfl rfl) ?_
 refine yFg 45 37 10 0 0 6 false ?_
 refine nS (kg 46 (.load 3 (.tmp 45)) 6 false) rfl rfl trivial (val_loadOwn b1.at_ (by kernel_rfl) rfl rfl) ?_
 refine yV (kg 47 (.binOp .neq 3 (.tmp 44) (.tmp 46) 3) 6 false) (fun _ => val_is (val_neq rfl rfl) (show _ = Value.bool false from congrArg Value.bool (decide_eq_false (by omega)))) ?_
 refine yOf 48 41 47 ?_
 refine yM 49 48 ?_
 refine yFg 50 34 9 1 2 14 false ?_
 refine yFg 51 32 50 1 1 14 false ?_
 refine nS (kg 52 (.load 3 (.tmp 51)) 14 false) rfl rfl trivial (val_loadOwn bc.at_ (by kernel_rfl) rfl rfl) ?_
 refine yFg 53 37 11 0 0 14 false ?_
 refine nS (kg 54 (.load 3 (.tmp 53)) 14 false) rfl rfl trivial (val_loadOwn b2.at_ (by kernel_rfl) rfl rfl) ?_
 refine yV (kg 55 (.binOp .neq 3 (.tmp 52) (.tmp 54) 3) 14 false) (fun _ => val_is (val_neq rfl rfl) (show _ = Value.bool false from congrArg Value.bool (decide_eq_false (by omega)))) ?_
 refine yOf 56 49 55 ?_
 refine yA 34 56 ?_
 refine Sch.nil ?_
 refine run_cF 34 ?_
 refine run_sq ?_
 refine run_pl [nn 0, nn 1, nn 2, yy 3, yy 4, nn 5, nn 6, nn 7, yy 8, yy 9, yy 10] ?_
 refine nS (kq 58 (.load 28 (.tmp 7))) rfl rfl trivial (val_loadOwnAgg (n := 3) (vs := [.int .i64 pr, va, vd]) bw.at_ (by kernel_rfl) (by kernel_rfl) rfl rfl rfl) ?_
 refine nS (kq 59 (.load 37 (.tmp 10))) rfl rfl trivial (val_loadOwnAgg (n := 3) (vs := [.int .i64 id1, .int .i64 ver1, vv1]) b1.at_ (by kernel_rfl) (by kernel_rfl) rfl rfl rfl) ?_
 refine cS (kq 60 (.call { callee := .value (.func 95), args := #[(.tmp 58), (.tmp 59)], argTypes := #[28, 37] })) rfl rfl (ent Tryz.call95 rfl) (rfits_ok (pr := pr) (df := df) (vd := vd) hF ha hQ1 hv1) ?_
 rintro vw11 w11 ⟨rfl, hs⟩
 refine ⟨trivial, ?_⟩
 replace hF := hF.st hs
 replace hT := hT.t hs; replace ha := ha.t hs; replace hd := hd.t hs; replace hsh := hsh.t hs; replace hds := hds.t hs; replace hv1 := hv1.t hs; replace hv2 := hv2.t hs; replace bx := bx.t hs; replace bw := bw.t hs; replace bt := bt.t hs; replace bc := bc.t hs; replace b1 := b1.t hs; replace b2 := b2.t hs
 refine yV (kq 61 (.unOp .not 4 (.tmp 60))) (fun _ => val_not rfl) ?_
 refine yM 62 61 ?_
 refine nS (kg 63 (.load 28 (.tmp 7)) 4 false) rfl rfl trivial (val_loadOwnAgg (n := 3) (vs := [.int .i64 pr, va, vd]) bw.at_ (by kernel_rfl) (by kernel_rfl) rfl rfl rfl) ?_
 refine nS (kg 64 (.load 37 (.tmp 11)) 4 false) rfl rfl trivial (val_loadOwnAgg (n := 3) (vs := [.int .i64 id2, .int .i64 ver2, vv2]) b2.at_ (by kernel_rfl) (by kernel_rfl) rfl rfl rfl) ?_
 refine cS (kg 65 (.call { callee := .value (.func 95), args := #[(.tmp 63), (.tmp 64)], argTypes := #[28, 37] }) 4 false) rfl rfl (ent Tryz.call95 rfl) (rfits_ok (pr := pr) (df := df) (vd := vd) hF ha hQ2 hv2) ?_
 rintro vw12 w12 ⟨rfl, hs⟩
 refine ⟨trivial, ?_⟩
 replace hF := hF.st hs
 replace hT := hT.t hs; replace ha := ha.t hs; replace hd := hd.t hs; replace hsh := hsh.t hs; replace hds := hds.t hs; replace hv1 := hv1.t hs; replace hv2 := hv2.t hs; replace bx := bx.t hs; replace bw := bw.t hs; replace bt := bt.t hs; replace bc := bc.t hs; replace b1 := b1.t hs; replace b2 := b2.t hs
 refine yV (kg 66 (.unOp .not 4 (.tmp 65)) 4 false) (fun _ => val_not rfl) ?_
 refine yOf 67 62 66 ?_
 refine yA 57 67 ?_
 refine Sch.nil ?_
 refine run_cF 57 ?_
 refine run_sk ?_
 refine run_inBlock ?_
 refine run_sq ?_
 refine run_pl [nn 0, nn 1, yy 2, nn 3, nn 4, yy 5, yy 6, yy 7, yy 8, yy 9] ?_
 refine nS (kq 69 (.load 28 (.tmp 7))) rfl rfl trivial (val_loadOwnAgg (n := 3) (vs := [.int .i64 pr, va, vd]) bw.at_ (by kernel_rfl) (by kernel_rfl) rfl rfl rfl) ?_
 refine nS (kq 70 (.load 30 (.tmp 8))) rfl rfl trivial (val_loadOwnAgg (n := 2) (vs := [.int .i64 lo, .int .i64 hh]) bt.at_ (by kernel_rfl) (by kernel_rfl) rfl rfl rfl) ?_
 refine yF 71 34 9 2 4 ?_
 refine nS (kq 72 (.load 3 (.tmp 71))) rfl rfl trivial (val_loadOwn bc.at_ (by kernel_rfl) rfl rfl) ?_
 refine cS (kq 73 (.call { callee := .value (.func 23), args := #[(.tmp 69), (.tmp 70), (.tmp 72)], argTypes := #[28, 30, 3] })) rfl rfl (ent Tryz.call23 rfl) (fields_ok hF hW ha hd hK hp) ?_
 rintro vw13 w13 ⟨u, fl, ok, rfl, hs, hg, hFl⟩
 refine ⟨trivial, ?_⟩
 replace hF := hF.st hs
 replace hT := hT.t hs; replace ha := ha.t hs; replace hd := hd.t hs; replace hsh := hsh.t hs; replace hds := hds.t hs; replace hv1 := hv1.t hs; replace hv2 := hv2.t hs; replace bx := bx.t hs; replace bw := bw.t hs; replace bt := bt.t hs; replace bc := bc.t hs; replace b1 := b1.t hs; replace b2 := b2.t hs
 refine yM 68 73 ?_
 refine yV (kq 74 (.extract (.tmp 68) 0)) (fun _ => val_extract rfl rfl) ?_
 refine yV (kq 75 (.extract (.tmp 68) 1)) (fun _ => val_extract rfl rfl) ?_
 refine yA 17 74 ?_
 refine yA 18 75 ?_
 refine Sch.nil ?_
 refine run_sq ?_
 refine run_sq ?_
 refine run_pl [yy 0, yy 1] ?_
 refine yM 76 18 ?_
 refine yV (kq 77 (.unOp .not 4 (.tmp 76))) (fun _ => val_not rfl) ?_
 refine Sch.nil ?_
 refine run_c 77 rfl (fun h77 => ?_) (fun h77 => ?_)
 ·
  refine run_sq ?_
  refine run_pl [yy 0, yy 1] ?_
  refine yV (kq 12 (.assign (.const (.slice none 0 0)))) (fun _ => val_assign rfl) ?_
  refine yAc 13 (.int .i64 13) ?_
  refine Sch.nil ?_
  refine run_ret2 (by kernel_rfl) Tryz.func62 Tryz.results62 rfl rfl ?_
  have hok : ok = false := by simpa using h77
  subst hok
  exact ⟨_, [], false, rfl, hT.out1 (by decide), rv_nil, by rw [← FldS.no hFl]; exact hFl⟩
 ·
  refine run_sk ?_
  refine run_sq ?_
  refine run_pl [yy 0, yy 1, yy 2] ?_
  refine yM 78 17 ?_
  refine yA 12 78 ?_
  refine yAc 13 (.int .i64 0) ?_
  refine Sch.nil ?_
  refine run_ret2 (by kernel_rfl) Tryz.func62 Tryz.results62 rfl rfl ?_
  have hok : ok = true := by simpa using h77
  subst hok
  exact ⟨_, fl, true, rfl, hT.out1 (by decide), hg.out hT hF0 (Mc_col1 C), hFl⟩
end Go.Proofs.YtionghonhnedgaaGreat
