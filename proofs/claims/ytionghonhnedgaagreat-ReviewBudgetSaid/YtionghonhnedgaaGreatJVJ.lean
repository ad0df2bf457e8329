/- Steps through functions of the program. -/
import Derived.Test.YtionghonhnedgaaGreatJVI
set_option linter.unusedVariables false
set_option linter.unusedSimpArgs false
set_option maxRecDepth 100000
set_option maxHeartbeats 4000000
namespace Go.Proofs.YtionghonhnedgaaGreat
open Go.K Go.K.Rep

namespace F29
noncomputable def c0 := bodyOf Tryz.f29
noncomputable def c8 := (cl (cr (cl (cr (cr c0)))))
noncomputable def c15 := (cl (cr (cr (cr (cr c0)))))
noncomputable def c16 := (cr (cr (cr (cr (cr c0)))))
noncomputable def c24 := (cl (cl (cr (cr (cr c16)))))
noncomputable def c34 := (cl (cl (cr (cr (cr c24)))))
noncomputable def c38 := (cl (cr (cr (cr (cr c16)))))
noncomputable def c39 := (cr (cr (cr (cr (cr c16)))))
noncomputable def o14 := rops (cl c39)
end F29
/-- 'Ask', of what is valid. -/
theorem ask_ok {w₀ : World} {C : Nat → Nat} {bud : Int} {sh : List Shw} {ds : List Dcs} {vs vz : Value} {pr : Int} {ag df : List Int} {va vd : Value} {lo hh wt : Int} {p : Nat} {A B : Couple} {id1 ver1 : Int} {vals1 : List ByteArray} {vv1 : Value} {id2 ver2 : Int} {vals2 : List ByteArray} {vv2 : Value} (hF : Lim w₀ C) (hRo : ROK bud sh ds) (hsh : RV w₀ (Mc C) sh vs) (hds : RV w₀ (Mc C) ds vz) (hW : WOK pr ag df) (ha : RV w₀ (Mc C) ag va) (hd : RV w₀ (Mc C) df vd) (hK : TOK lo hh) (hp : p < 3 ^ ag.length) (hAB : cplOK A B = true) (h1 : A.b = id1) (h2 : B.b = id2) (hQ1 : QOK ag vals1 ver1) (hv1 : RV w₀ (Mc C) vals1 vv1) (hQ2 : QOK ag vals2 ver2) (hv2 : RV w₀ (Mc C) vals2 vv2) (hlen : sh.length + 2 * ag.length ≤ 4096) :
    Calls Tryz.prog 29 #[.agg #[.int .i64 bud, vs, vz], .agg #[.int .i64 pr, va, vd], .agg #[.int .i64 lo, .int .i64 hh], .agg #[.int .i64 A.a, .int .i64 A.b, .int .i64 B.a, .int .i64 B.b, .int .i64 p, .int .i64 wt], .agg #[.int .i64 id1, .int .i64 ver1, vv1], .agg #[.int .i64 id2, .int .i64 ver2, vv2]] w₀ (Ret fun v w' => ∃ bud' vs' vz' vn sh' ds' now e, v = .tuple #[.agg #[.int .i64 bud', vs', vz'], vn, .int .i64 e] ∧ Stp [] w₀ C w' C ∧ RV w' (Mc C) sh' vs' ∧ RV w' (Mc C) ds' vz' ∧ RV w' (Mc C) now vn ∧ AskS pr ag df lo hh p bud sh A B vals1 vals2 ver1 ver2 bud' sh' now e ∧ (e = 0 → ds' = ds)) := by
 have hF0 := hF
 have hT := Stp.refl [2, 3, 4, 5, 6, 7, 8, 9] w₀ (col1 C)
 replace hF := hF.col1
 replace ha : RV w₀ (Mc (col1 C)) ag va := by rw [Mc_col1]; exact ha
 replace hd : RV w₀ (Mc (col1 C)) df vd := by rw [Mc_col1]; exact hd
 replace hsh : RV w₀ (Mc (col1 C)) sh vs := by rw [Mc_col1]; exact hsh
 replace hds : RV w₀ (Mc (col1 C)) ds vz := by rw [Mc_col1]; exact hds
 replace hv1 : RV w₀ (Mc (col1 C)) vals1 vv1 := by rw [Mc_col1]; exact hv1
 replace hv2 : RV w₀ (Mc (col1 C)) vals2 vv2 := by rw [Mc_col1]; exact hv2
 refine calls_start (c := F29.c0) (N := 91) [.agg #[.int .i64 bud, vs, vz], .agg #[.int .i64 pr, va, vd], .agg #[.int .i64 lo, .int .i64 hh], .agg #[.int .i64 A.a, .int .i64 A.b, .int .i64 B.a, .int .i64 B.b, .int .i64 p, .int .i64 wt], .agg #[.int .i64 id1, .int .i64 ver1, vv1], .agg #[.int .i64 id2, .int .i64 ver2, vv2]] Tryz.func29 (by kernel_rfl) (by kernel_rfl) (by kernel_rfl) ?_
 show Run _ _ _ _ [(0, .agg #[.int .i64 bud, vs, vz]), (1, .agg #[.int .i64 pr, va, vd]), (2, .agg #[.int .i64 lo, .int .i64 hh]), (3, .agg #[.int .i64 A.a, .int .i64 A.b, .int .i64 B.a, .int .i64 B.b, .int .i64 p, .int .i64 wt]), (4, .agg #[.int .i64 id1, .int .i64 ver1, vv1]), (5, .agg #[.int .i64 id2, .int .i64 ver2, vv2])] _ _
 refine run_sq ?_
 refine run_pl [nn 0, nn 1, nn 2, nn 3, nn 4, nn 5, nn 6, yy 7, yy 8] ?_
 refine aS (kq 6 (.box 26 (.tmp 0))) rfl rfl (a_box (cs := [.int .i64 bud, vs, vz]) hF 4 rfl rfl) ?_
 rintro _ w1 ⟨Cw1, bw1, rfl, hs, bx, hF⟩
 refine ⟨trivial, ?_⟩
 replace hT := hT.t hs; replace ha := ha.t hs; replace hd := hd.t hs; replace hsh := hsh.t hs; replace hds := hds.t hs; replace hv1 := hv1.t hs; replace hv2 := hv2.t hs
 refine aS (kq 7 (.box 28 (.tmp 1))) rfl rfl (a_box (cs := [.int .i64 pr, va, vd]) hF 3 rfl rfl) ?_
 rintro _ w2 ⟨Cw2, bw2, rfl, hs, bw, hF⟩
 refine ⟨trivial, ?_⟩
 replace hT := hT.t hs; replace ha := ha.t hs; replace hd := hd.t hs; replace hsh := hsh.t hs; replace hds := hds.t hs; replace hv1 := hv1.t hs; replace hv2 := hv2.t hs; replace bx := bx.t hs
 refine aS (kq 8 (.box 30 (.tmp 2))) rfl rfl (a_box (cs := [.int .i64 lo, .int .i64 hh]) hF 3 rfl rfl) ?_
 rintro _ w3 ⟨Cw3, bw3, rfl, hs, bt, hF⟩
 refine ⟨trivial, ?_⟩
 replace hT := hT.t hs; replace ha := ha.t hs; replace hd := hd.t hs; replace hsh := hsh.t hs; replace hds := hds.t hs; replace hv1 := hv1.t hs; replace hv2 := hv2.t hs; replace bx := bx.t hs; replace bw := bw.t hs
 refine aS (kq 9 (.box 34 (.tmp 3))) rfl rfl (a_box (cs := [.int .i64 A.a, .int .i64 A.b, .int .i64 B.a, .int .i64 B.b, .int .i64 p, .int .i64 wt]) hF 3 rfl rfl) ?_
 rintro _ w4 ⟨Cw4, bw4, rfl, hs, bc, hF⟩
 refine ⟨trivial, ?_⟩
 replace hT := hT.t hs; replace ha := ha.t hs; replace hd := hd.t hs; replace hsh := hsh.t hs; replace hds := hds.t hs; replace hv1 := hv1.t hs; replace hv2 := hv2.t hs; replace bx := bx.t hs; replace bw := bw.t hs; replace bt := bt.t hs
 refine aS (kq 10 (.box 37 (.tmp 4))) rfl rfl (a_box (cs := [.int .i64 id1, .int .i64 ver1, vv1]) hF 3 rfl rfl) ?_
 rintro _ w5 ⟨Cw5, bw5, rfl, hs, b1, hF⟩
 refine ⟨trivial, ?_⟩
 replace hT := hT.t hs; replace ha := ha.t hs; replace hd := hd.t hs; replace hsh := hsh.t hs; replace hds := hds.t hs; replace hv1 := hv1.t hs; replace hv2 := hv2.t hs; replace bx := bx.t hs; replace bw := bw.t hs; replace bt := bt.t hs; replace bc := bc.t hs
 refine aS (kq 11 (.box 37 (.tmp 5))) rfl rfl (a_box (cs := [.int .i64 id2, .int .i64 ver2, vv2]) hF 3 rfl rfl) ?_
 rintro _ w6 ⟨Cw6, bw6, rfl, hs, b2, hF⟩
 refine ⟨trivial, ?_⟩
 replace hT := hT.t hs; replace ha := ha.t hs; replace hd := hd.t hs; replace hsh := hsh.t hs; replace hds := hds.t hs; replace hv1 := hv1.t hs; replace hv2 := hv2.t hs; replace bx := bx.t hs; replace bw := bw.t hs; replace bt := bt.t hs; replace bc := bc.t hs; replace b1 := b1.t hs
 refine aS (kq 12 (.alloc 26)) rfl rfl (a_alloc (cs := [.int .i64 0, .slice none 0 0, .slice none 0 0]) hF 5 (by kernel_rfl)) ?_
 rintro _ w7 ⟨Cw7, bw7, rfl, hs, hy, hF⟩
 refine ⟨trivial, ?_⟩
 replace hT := hT.t hs; replace ha := ha.t hs; replace hd := hd.t hs; replace hsh := hsh.t hs; replace hds := hds.t hs; replace hv1 := hv1.t hs; replace hv2 := hv2.t hs; replace bx := bx.t hs; replace bw := bw.t hs; replace bt := bt.t hs; replace bc := bc.t hs; replace b1 := b1.t hs; replace b2 := b2.t hs
 refine yV (kq 13 (.assign (.const (.slice none 0 0)))) (fun _ => val_assign rfl) ?_
 refine yAc 14 (.int .i64 0) ?_
 refine Sch.nil ?_
 refine run_sq ?_
 refine run_pl [nn 0, nn 1, nn 2, nn 3, nn 4, nn 5, nn 6, yy 7, yy 8, yy 9, yy 10, yy 11] ?_
 refine nS (kq 22 (.load 26 (.tmp 6))) rfl rfl trivial (val_loadOwnAgg (n := 3) (vs := [.int .i64 bud, vs, vz]) bx.at_ (by kernel_rfl) (by kernel_rfl) rfl rfl rfl) ?_
 refine nS (kq 23 (.load 28 (.tmp 7))) rfl rfl trivial (val_loadOwnAgg (n := 3) (vs := [.int .i64 pr, va, vd]) bw.at_ (by kernel_rfl) (by kernel_rfl) rfl rfl rfl) ?_
 refine nS (kq 24 (.load 30 (.tmp 8))) rfl rfl trivial (val_loadOwnAgg (n := 2) (vs := [.int .i64 lo, .int .i64 hh]) bt.at_ (by kernel_rfl) (by kernel_rfl) rfl rfl rfl) ?_
 refine nS (kq 25 (.load 34 (.tmp 9))) rfl rfl trivial (val_loadOwnAgg (n := 6) (vs := [.int .i64 A.a, .int .i64 A.b, .int .i64 B.a, .int .i64 B.b, .int .i64 p, .int .i64 wt]) bc.at_ (by kernel_rfl) (by kernel_rfl) rfl rfl rfl) ?_
 refine nS (kq 26 (.load 37 (.tmp 10))) rfl rfl trivial (val_loadOwnAgg (n := 3) (vs := [.int .i64 id1, .int .i64 ver1, vv1]) b1.at_ (by kernel_rfl) (by kernel_rfl) rfl rfl rfl) ?_
 refine nS (kq 27 (.load 37 (.tmp 11))) rfl rfl trivial (val_loadOwnAgg (n := 3) (vs := [.int .i64 id2, .int .i64 ver2, vv2]) b2.at_ (by kernel_rfl) (by kernel_rfl) rfl rfl rfl) ?_
 refine cS (kq 28 (.call { callee := .value (.func 62), args := #[(.tmp 22), (.tmp 23), (.tmp 24), (.tmp 25), (.tmp 26), (.tmp 27)], argTypes := #[26, 28, 30, 34, 37, 37] })) rfl rfl (ent Tryz.call62 rfl) (acheck_ok hF hRo hsh hds hW ha hd hK hp hAB h1 h2 hQ1 hv1 hQ2 hv2) ?_
 rintro vw8 w8 ⟨u, fl, ok, rfl, hs, hg, hFl⟩
 refine ⟨trivial, ?_⟩
 replace hF := hF.st hs
 replace hT := hT.t hs; replace ha := ha.t hs; replace hd := hd.t hs; replace hsh := hsh.t hs; replace hds := hds.t hs; replace hv1 := hv1.t hs; replace hv2 := hv2.t hs; replace bx := bx.t hs; replace bw := bw.t hs; replace bt := bt.t hs; replace bc := bc.t hs; replace b1 := b1.t hs; replace b2 := b2.t hs; replace hy := hy.t hs
 refine yM 21 28 ?_
 refine yV (kq 29 (.extract (.tmp 21) 0)) (fun _ => val_extract rfl rfl) ?_
 refine yV (kq 30 (.extract (.tmp 21) 1)) (fun _ => val_extract rfl rfl) ?_
 refine yA 15 29 ?_
 refine yA 16 30 ?_
 refine Sch.nil ?_
 refine run_sq ?_
 refine run_sq ?_
 by_cases hok : ok = false
 ·
  refine run_pl [yy 0, yy 1] ?_
  refine yM 31 16 ?_
  refine yV (kq 32 (.binOp .neq 52 (.tmp 31) (.const (.int .i64 0)) 52)) (fun _ => val_is (val_neq rfl rfl) (show _ = Value.bool true from by rw [hok]; rfl)) ?_
  refine Sch.nil ?_
  refine run_cT 32 ?_
  refine run_sq ?_
  refine run_pl [yy 0, yy 1, nn 2, yy 3, yy 4] ?_
  refine yV (kq 33 (.build 26 #[])) (fun _ => val_build (zs := [.int .i64 0, .slice none 0 0, .slice none 0 0]) (ps := [(0, 1), (1, 1), (2, 1)]) (qs := []) (cs := [.int .i64 0, .slice none 0 0, .slice none 0 0]) (by kernel_rfl) (by kernel_rfl) trivial rfl) ?_
  refine yM 34 16 ?_
  refine aN (k0 (.store 26 (.tmp 12) (.tmp 33))) rfl (a_storeAll (vs := [.int .i64 0, .slice none 0 0, .slice none 0 0]) (n := 3) rfl rfl (by kernel_rfl) rfl rfl (by intro u hu; simp only [List.mem_cons, List.not_mem_nil, or_false] at hu; rcases hu with rfl | rfl | rfl <;> rfl) hy rfl) ?_
  rintro _ w9 ⟨rfl, hs, hy⟩
  refine ⟨trivial, ?_⟩
  replace hF := hF.st hs
  replace hT := hT.t hs; replace ha := ha.t hs; replace hd := hd.t hs; replace hsh := hsh.t hs; replace hds := hds.t hs; replace hv1 := hv1.t hs; replace hv2 := hv2.t hs; replace bx := bx.t hs; replace bw := bw.t hs; replace bt := bt.t hs; replace bc := bc.t hs; replace b1 := b1.t hs; replace b2 := b2.t hs; replace hg := hg.t hs
  refine yV (kq 13 (.assign (.const (.slice none 0 0)))) (fun _ => val_assign rfl) ?_
  refine yA 14 34 ?_
  refine Sch.nil ?_
  refine run_retCTT (by kernel_rfl) Tryz.func29 Tryz.results29 rfl rfl rfl hy.at_ (by kernel_rfl) (by kernel_rfl) rfl ?_
  subst hok
  exact ⟨0, _, _, _, [], [], [], 13, rfl, hT.out1 (by decide), rv_nil, rv_nil, rv_nil, ⟨fl, false, hFl, .inl ⟨rfl, rfl⟩⟩, fun e => absurd e (by decide)⟩
 ·
  refine run_pl [yy 0, yy 1] ?_
  refine yM 31 16 ?_
  refine yV (kq 32 (.binOp .neq 52 (.tmp 31) (.const (.int .i64 0)) 52)) (fun _ => val_is (val_neq rfl rfl) (show _ = Value.bool false from by rw [show ok = true from by simpa using hok]; rfl)) ?_
  refine Sch.nil ?_
  refine run_cF 32 ?_
  refine run_sk ?_
  refine run_sq ?_
  refine run_pl [nn 0, nn 1, nn 2] ?_
  refine nS (kq 35 (.load 26 (.tmp 6))) rfl rfl trivial (val_loadOwnAgg (n := 3) (vs := [.int .i64 bud, vs, vz]) bx.at_ (by kernel_rfl) (by kernel_rfl) rfl rfl rfl) ?_
  skip
  replace hok : ok = true := by simpa using hok
  subst hok
  refine cS (kq 36 (.call { callee := .value (.func 63), args := #[(.tmp 35)], argTypes := #[26] })) rfl rfl (ent Tryz.call63 rfl) (fresh_ok hF hsh hds (by omega) (by have := hRo.ld; omega)) ?_
  rintro vw10 w10 ⟨vs2, vz2, rfl, hs, hsh2, hds2⟩
  refine ⟨trivial, ?_⟩
  replace hF := hF.st hs
  replace hT := hT.t hs; replace ha := ha.t hs; replace hd := hd.t hs; replace hsh := hsh.t hs; replace hds := hds.t hs; replace hv1 := hv1.t hs; replace hv2 := hv2.t hs; replace bx := bx.t hs; replace bw := bw.t hs; replace bt := bt.t hs; replace bc := bc.t hs; replace b1 := b1.t hs; replace b2 := b2.t hs; replace hy := hy.t hs; replace hg := hg.t hs
  refine aN (k0 (.store 26 (.tmp 6) (.tmp 36))) rfl (a_storeAll (vs := [.int .i64 bud, vs2, vz2]) (n := 3) rfl rfl (by kernel_rfl) rfl rfl (by intro u hu; simp only [List.mem_cons, List.not_mem_nil, or_false] at hu; rcases hu with rfl | rfl | rfl <;> first | rfl | exact (hsh2.one rfl).2 | exact (hds2.one rfl).2) bx rfl) ?_
  rintro _ w11 ⟨rfl, hs, bx⟩
  refine ⟨trivial, ?_⟩
  replace hF := hF.st hs
  replace hT := hT.t hs; replace ha := ha.t hs; replace hd := hd.t hs; replace hsh := hsh.t hs; replace hds := hds.t hs; replace hv1 := hv1.t hs; replace hv2 := hv2.t hs; replace bw := bw.t hs; replace bt := bt.t hs; replace bc := bc.t hs; replace b1 := b1.t hs; replace b2 := b2.t hs; replace hy := hy.t hs; replace hg := hg.t hs; replace hsh2 := hsh2.t hs; replace hds2 := hds2.t hs
  refine Sch.nil ?_
  refine run_sq ?_
  refine run_pl [nn 0, yy 1, nn 2, nn 3, yy 4, nn 5, yy 6, yy 7, yy 8, yy 9, yy 10] ?_
  refine nS (kq 38 (.load 26 (.tmp 6))) rfl rfl trivial (val_loadOwnAgg (n := 3) (vs := [.int .i64 bud, vs2, vz2]) bx.at_ (by kernel_rfl) (by kernel_rfl) rfl rfl rfl) ?_
  refine yF 39 34 9 0 0 ?_
  refine nS (kq 40 (.load 32 (.tmp 39))) rfl rfl trivial (val_loadOwnAgg (n := 2) (vs := encR A) bc.at_ (by kernel_rfl) (by kernel_rfl) rfl rfl rfl) ?_
  refine nS (kq 41 (.load 37 (.tmp 10))) rfl rfl trivial (val_loadOwnAgg (n := 3) (vs := [.int .i64 id1, .int .i64 ver1, vv1]) b1.at_ (by kernel_rfl) (by kernel_rfl) rfl rfl rfl) ?_
  refine yM 42 15 ?_
  refine cS (kq 43 (.call { callee := .value (.func 26), args := #[(.tmp 38), (.tmp 40), (.tmp 41), (.tmp 42)], argTypes := #[26, 32, 37, 22] })) rfl rfl (ent Tryz.call26 rfl) (missing_ok (bud := bud) (id := id1) (ver := ver1) (vz := vz2) (r := A) hF hsh2 hv1 hg hQ1.2.2 (by rw [hQ1.1]; exact hW.l5)) ?_
  rintro vw12 w12 ⟨u1, rfl, hs, hf1⟩
  refine ⟨trivial, ?_⟩
  replace hF := hF.st hs
  replace hT := hT.t hs; replace ha := ha.t hs; replace hd := hd.t hs; replace hsh := hsh.t hs; replace hds := hds.t hs; replace hv1 := hv1.t hs; replace hv2 := hv2.t hs; replace bx := bx.t hs; replace bw := bw.t hs; replace bt := bt.t hs; replace bc := bc.t hs; replace b1 := b1.t hs; replace b2 := b2.t hs; replace hy := hy.t hs; replace hg := hg.t hs; replace hsh2 := hsh2.t hs; replace hds2 := hds2.t hs
  have hbb0 := hRo.b0
  have hbb1 := hRo.b1
  have hml1 := misL_len sh A ver1 vals1 fl vals1.length
  have hms1 := misL_sum (sh := sh) (r := A) (ver := ver1) (fl := fl) hQ1.2.2 vals1.length (Nat.le_refl _)
  have hql1 := hQ1.1
  have hql2 := hQ2.1
  have hw5 := hW.l5
  have hdi1 : Dist (sh ++ misL sh A ver1 vals1 fl vals1.length) := dist_add (Dist.of_asc hRo.sa) _
  refine yM 37 43 ?_
  refine yV (kq 44 (.extract (.tmp 37) 0)) (fun _ => val_extract rfl rfl) ?_
  refine yV (kq 45 (.extract (.tmp 37) 1)) (fun _ => val_extract rfl rfl) ?_
  refine yA 17 44 ?_
  refine yA 18 45 ?_
  refine Sch.nil ?_
  refine run_sq ?_
  refine run_pl [yy 0, nn 1, yy 2, nn 3, yy 4, nn 5] ?_
  refine yF 46 26 6 1 1 ?_
  refine nS (kq 47 (.load 23 (.tmp 46))) rfl rfl trivial (val_loadOwn bx.at_ (by kernel_rfl) rfl rfl) ?_
  refine yM 48 17 ?_
  refine cS (kq 49 (.call { callee := .value (.func 64), args := #[(.tmp 47), (.tmp 48)], argTypes := #[23, 23] })) rfl rfl (ent Tryz.call64 rfl) (with_ok hF hsh2 hf1 hdi1 (by omega)) ?_
  rintro vw1 w13 ⟨z1, hS1, hs, hz1⟩
  have hzl1 := hS1.len
  rw [List.length_append] at hzl1
  refine ⟨trivial, ?_⟩
  replace hF := hF.st hs
  replace hT := hT.t hs; replace ha := ha.t hs; replace hd := hd.t hs; replace hsh := hsh.t hs; replace hds := hds.t hs; replace hv1 := hv1.t hs; replace hv2 := hv2.t hs; replace bx := bx.t hs; replace bw := bw.t hs; replace bt := bt.t hs; replace bc := bc.t hs; replace b1 := b1.t hs; replace b2 := b2.t hs; replace hy := hy.t hs; replace hg := hg.t hs; replace hsh2 := hsh2.t hs; replace hds2 := hds2.t hs; replace hf1 := hf1.t hs
  refine yF 50 26 6 1 1 ?_
  refine aN (k0 (.store 23 (.tmp 50) (.tmp 49))) rfl (a_store1 rfl rfl (by kernel_rfl) (hz1.one rfl).1 (hz1.one rfl).2 bx (by simp)) ?_
  rintro _ w14 ⟨rfl, hs, bx⟩
  refine ⟨trivial, ?_⟩
  replace hF := hF.st hs
  replace hT := hT.t hs; replace ha := ha.t hs; replace hd := hd.t hs; replace hsh := hsh.t hs; replace hds := hds.t hs; replace hv1 := hv1.t hs; replace hv2 := hv2.t hs; replace bw := bw.t hs; replace bt := bt.t hs; replace bc := bc.t hs; replace b1 := b1.t hs; replace b2 := b2.t hs; replace hy := hy.t hs; replace hg := hg.t hs; replace hsh2 := hsh2.t hs; replace hds2 := hds2.t hs; replace hf1 := hf1.t hs; replace hz1 := hz1.t hs
  refine Sch.nil ?_
  refine run_sq ?_
  refine run_pl [nn 0, yy 1, nn 2, nn 3, yy 4, nn 5, yy 6, yy 7, yy 8, yy 9, yy 10] ?_
  refine nS (kq 52 (.load 26 (.tmp 6))) rfl rfl trivial (val_loadOwnAgg (n := 3) (vs := [.int .i64 bud, vw1, vz2]) bx.at_ (by kernel_rfl) (by kernel_rfl) rfl rfl rfl) ?_
  refine yF 53 34 9 1 2 ?_
  refine nS (kq 54 (.load 32 (.tmp 53))) rfl rfl trivial (val_loadOwnAgg (n := 2) (vs := encR B) bc.at_ (by kernel_rfl) (by kernel_rfl) rfl rfl rfl) ?_
  refine nS (kq 55 (.load 37 (.tmp 11))) rfl rfl trivial (val_loadOwnAgg (n := 3) (vs := [.int .i64 id2, .int .i64 ver2, vv2]) b2.at_ (by kernel_rfl) (by kernel_rfl) rfl rfl rfl) ?_
  refine yM 56 15 ?_
  refine cS (kq 57 (.call { callee := .value (.func 26), args := #[(.tmp 52), (.tmp 54), (.tmp 55), (.tmp 56)], argTypes := #[26, 32, 37, 22] })) rfl rfl (ent Tryz.call26 rfl) (missing_ok (bud := bud) (id := id2) (ver := ver2) (vz := vz2) (r := B) hF hz1 hv2 hg hQ2.2.2 (by rw [hQ2.1]; exact hW.l5)) ?_
  rintro vw15 w15 ⟨u2, rfl, hs, hf2⟩
  refine ⟨trivial, ?_⟩
  replace hF := hF.st hs
  replace hT := hT.t hs; replace ha := ha.t hs; replace hd := hd.t hs; replace hsh := hsh.t hs; replace hds := hds.t hs; replace hv1 := hv1.t hs; replace hv2 := hv2.t hs; replace bx := bx.t hs; replace bw := bw.t hs; replace bt := bt.t hs; replace bc := bc.t hs; replace b1 := b1.t hs; replace b2 := b2.t hs; replace hy := hy.t hs; replace hg := hg.t hs; replace hsh2 := hsh2.t hs; replace hds2 := hds2.t hs; replace hf1 := hf1.t hs; replace hz1 := hz1.t hs
  have hdi2 : Dist (z1 ++ misL z1 B ver2 vals2 fl vals2.length) := dist_add (Dist.of_asc (hdi1.sts hS1)) _
  have hml2 := misL_len z1 B ver2 vals2 fl vals2.length
  have hms2 := misL_sum (sh := z1) (r := B) (ver := ver2) (fl := fl) hQ2.2.2 vals2.length (Nat.le_refl _)
  refine yM 51 57 ?_
  refine yV (kq 58 (.extract (.tmp 51) 0)) (fun _ => val_extract rfl rfl) ?_
  refine yV (kq 59 (.extract (.tmp 51) 1)) (fun _ => val_extract rfl rfl) ?_
  refine yA 19 58 ?_
  refine yA 20 59 ?_
  refine Sch.nil ?_
  refine run_sq ?_
  refine run_pl [yy 0, nn 1, yy 2, nn 3, yy 4, nn 5] ?_
  refine yF 60 26 6 1 1 ?_
  refine nS (kq 61 (.load 23 (.tmp 60))) rfl rfl trivial (val_loadOwn bx.at_ (by kernel_rfl) rfl rfl) ?_
  refine yM 62 19 ?_
  refine cS (kq 63 (.call { callee := .value (.func 64), args := #[(.tmp 61), (.tmp 62)], argTypes := #[23, 23] })) rfl rfl (ent Tryz.call64 rfl) (with_ok hF hz1 hf2 hdi2 (by omega)) ?_
  rintro vw2 w16 ⟨z2, hS2, hs, hz2⟩
  have hzl2 := hS2.len
  rw [List.length_append] at hzl2
  refine ⟨trivial, ?_⟩
  replace hF := hF.st hs
  replace hT := hT.t hs; replace ha := ha.t hs; replace hd := hd.t hs; replace hsh := hsh.t hs; replace hds := hds.t hs; replace hv1 := hv1.t hs; replace hv2 := hv2.t hs; replace bx := bx.t hs; replace bw := bw.t hs; replace bt := bt.t hs; replace bc := bc.t hs; replace b1 := b1.t hs; replace b2 := b2.t hs; replace hy := hy.t hs; replace hg := hg.t hs; replace hsh2 := hsh2.t hs; replace hds2 := hds2.t hs; replace hf1 := hf1.t hs; replace hz1 := hz1.t hs; replace hf2 := hf2.t hs
  refine yF 64 26 6 1 1 ?_
  refine aN (k0 (.store 23 (.tmp 64) (.tmp 63))) rfl (a_store1 rfl rfl (by kernel_rfl) (hz2.one rfl).1 (hz2.one rfl).2 bx (by simp)) ?_
  rintro _ w17 ⟨rfl, hs, bx⟩
  refine ⟨trivial, ?_⟩
  replace hF := hF.st hs
  replace hT := hT.t hs; replace ha := ha.t hs; replace hd := hd.t hs; replace hsh := hsh.t hs; replace hds := hds.t hs; replace hv1 := hv1.t hs; replace hv2 := hv2.t hs; replace bw := bw.t hs; replace bt := bt.t hs; replace bc := bc.t hs; replace b1 := b1.t hs; replace b2 := b2.t hs; replace hy := hy.t hs; replace hg := hg.t hs; replace hsh2 := hsh2.t hs; replace hds2 := hds2.t hs; replace hf1 := hf1.t hs; replace hz1 := hz1.t hs; replace hf2 := hf2.t hs; replace hz2 := hz2.t hs
  refine Sch.nil ?_
  refine run_sq ?_
  refine run_bk 0 ?_
  refine run_sq ?_
  refine run_pl [yy 0, nn 1, yy 2, yy 3, yy 4] ?_
  refine yF 66 26 6 1 1 ?_
  refine nS (kq 67 (.load 23 (.tmp 66))) rfl rfl trivial (val_loadOwn bx.at_ (by kernel_rfl) rfl rfl) ?_
  refine yS (kq 68 (.call { callee := .builtin .len, args := #[(.tmp 67)], argTypes := #[23] })) rfl rfl (fun w' hS => hz2.lenV rfl Tryz.underlying23 w' ) ?_
  refine yV (kq 69 (.binOp .gtr 3 (.tmp 68) (.const (.int .i64 4096)) 3)) (fun _ => val_is (val_gtr rfl rfl) (show _ = Value.bool false from congrArg Value.bool (decide_eq_false (by omega)))) ?_
  refine yA 65 69 ?_
  refine Sch.nil ?_
  refine run_cF 65 ?_
  refine run_sq ?_
  refine run_pl [yy 0, yy 1, yy 2, yy 3, nn 4, yy 5, yy 6] ?_
  refine yM 72 18 ?_
  refine yM 73 20 ?_
  refine yV (kq 74 (.binOp .add 3 (.tmp 72) (.tmp 73) 3)) (fun _ => val_addi rfl rfl (by omega) (by omega)) ?_
  refine yF 75 26 6 0 0 ?_
  refine nS (kq 76 (.load 3 (.tmp 75))) rfl rfl trivial (val_loadOwn bx.at_ (by kernel_rfl) rfl rfl) ?_
  refine yV (kq 77 (.binOp .gtr 3 (.tmp 74) (.tmp 76) 3)) (fun _ => val_gtr rfl rfl) ?_
  refine yA 71 77 ?_
  refine Sch.nil ?_
  refine run_i 71 rfl (fun h71 => ?_) (fun h71 => ?_)
  ·
   refine run_sq ?_
   refine run_pl [yy 0, nn 1, yy 2, yy 3] ?_
   refine yV (kq 78 (.build 26 #[])) (fun _ => val_build (zs := [.int .i64 0, .slice none 0 0, .slice none 0 0]) (ps := [(0, 1), (1, 1), (2, 1)]) (qs := []) (cs := [.int .i64 0, .slice none 0 0, .slice none 0 0]) (by kernel_rfl) (by kernel_rfl) trivial rfl) ?_
   refine aN (k0 (.store 26 (.tmp 12) (.tmp 78))) rfl (a_storeAll (vs := [.int .i64 0, .slice none 0 0, .slice none 0 0]) (n := 3) rfl rfl (by kernel_rfl) rfl rfl (by intro u hu; simp only [List.mem_cons, List.not_mem_nil, or_false] at hu; rcases hu with rfl | rfl | rfl <;> rfl) hy rfl) ?_
   rintro _ w18 ⟨rfl, hs, hy⟩
   refine ⟨trivial, ?_⟩
   replace hF := hF.st hs
   replace hT := hT.t hs; replace ha := ha.t hs; replace hd := hd.t hs; replace hsh := hsh.t hs; replace hds := hds.t hs; replace hv1 := hv1.t hs; replace hv2 := hv2.t hs; replace bx := bx.t hs; replace bw := bw.t hs; replace bt := bt.t hs; replace bc := bc.t hs; replace b1 := b1.t hs; replace b2 := b2.t hs; replace hg := hg.t hs; replace hsh2 := hsh2.t hs; replace hds2 := hds2.t hs; replace hf1 := hf1.t hs; replace hz1 := hz1.t hs; replace hf2 := hf2.t hs; replace hz2 := hz2.t hs
   refine yV (kq 13 (.assign (.const (.slice none 0 0)))) (fun _ => val_assign rfl) ?_
   refine yAc 14 (.int .i64 45) ?_
   refine Sch.nil ?_
   refine run_retCTT (by kernel_rfl) Tryz.func29 Tryz.results29 rfl rfl rfl hy.at_ (by kernel_rfl) (by kernel_rfl) rfl ?_
   exact ⟨0, _, _, _, [], [], [], 45, rfl, hT.out1 (by decide), rv_nil, rv_nil, rv_nil, ⟨fl, true, hFl, .inr ⟨rfl, z1, z2, hS1, hS2, .inl ⟨by omega, rfl⟩⟩⟩, fun e => absurd e (by decide)⟩
  ·
   refine run_sk ?_
   refine run_inBlock ?_
   refine run_sq ?_
   refine run_pl [yy 0, nn 1, yy 2, yy 3, yy 4, yy 5, yy 6, nn 7] ?_
   refine yF 79 26 6 0 0 ?_
   refine nS (kq 80 (.load 3 (.tmp 79))) rfl rfl trivial (val_loadOwn bx.at_ (by kernel_rfl) rfl rfl) ?_
   refine yM 81 18 ?_
   refine yM 82 20 ?_
   refine yV (kq 83 (.binOp .add 3 (.tmp 81) (.tmp 82) 3)) (fun _ => val_addi rfl rfl (by omega) (by omega)) ?_
   refine yV (kq 84 (.binOp .sub 3 (.tmp 80) (.tmp 83) 3)) (fun _ => val_subi rfl rfl (by omega) (by omega)) ?_
   refine yF 85 26 6 0 0 ?_
   refine aN (k0 (.store 3 (.tmp 85) (.tmp 84))) rfl (a_store1 rfl rfl (by kernel_rfl) rfl rfl bx (by simp)) ?_
   rintro _ w19 ⟨rfl, hs, bx⟩
   refine ⟨trivial, ?_⟩
   replace hF := hF.st hs
   replace hT := hT.t hs; replace ha := ha.t hs; replace hd := hd.t hs; replace hsh := hsh.t hs; replace hds := hds.t hs; replace hv1 := hv1.t hs; replace hv2 := hv2.t hs; replace bw := bw.t hs; replace bt := bt.t hs; replace bc := bc.t hs; replace b1 := b1.t hs; replace b2 := b2.t hs; replace hy := hy.t hs; replace hg := hg.t hs; replace hsh2 := hsh2.t hs; replace hds2 := hds2.t hs; replace hf1 := hf1.t hs; replace hz1 := hz1.t hs; replace hf2 := hf2.t hs; replace hz2 := hz2.t hs
   refine Sch.nil ?_
   refine run_sq ?_
   refine run_bar (id := 14) (ops := F29.o14) [5] (Cw7) 5 [yy 0, yy 1, yy 2, nn 3, nn 4] [yy 6, yy 7] Tryz_mixed (by kernel_rfl) (by kernel_rfl) (by kernel_rfl) ?_
   intro w20 hs
   replace hF := hF.st hs
   replace hT := hT.t hs; replace ha := ha.t hs; replace hd := hd.t hs; replace hsh := hsh.t hs; replace hds := hds.t hs; replace hv1 := hv1.t hs; replace hv2 := hv2.t hs; replace bx := bx.t hs; replace bw := bw.t hs; replace bt := bt.t hs; replace bc := bc.t hs; replace b1 := b1.t hs; replace b2 := b2.t hs; replace hy := hy.t hs; replace hg := hg.t hs; replace hsh2 := hsh2.t hs; replace hds2 := hds2.t hs; replace hf1 := hf1.t hs; replace hz1 := hz1.t hs; replace hf2 := hf2.t hs; replace hz2 := hz2.t hs
   have hR := Stp.refl [5] w20 (Cw7)
   refine yS (kq 86 (.load 26 (.tmp 6))) rfl rfl (fun w' hS => val_loadOwnAgg (n := 3) (vs := [.int .i64 (bud - (sumCh (misL sh A ver1 vals1 fl vals1.length) + sumCh (misL z1 B ver2 vals2 fl vals2.length))), vw2, vz2]) (bx.stay hS (by decide)) (by kernel_rfl) (by kernel_rfl) rfl rfl rfl) ?_
   refine yM 87 17 ?_
   refine yM 88 19 ?_
   refine aS (kq 89 (.buildSlice 136 2 #[(0, (.tmp 87)), (1, (.tmp 88))])) rfl rfl (a_buildSlice (ys := ([misL sh A ver1 vals1 fl vals1.length, misL z1 B ver2 vals2 fl vals2.length] : List (List Shw))) (e := 23) (bytes := 24) hF (by kernel_rfl) rfl (by decide) (by decide) ⟨rfl, ⟨_, rfl, hf1⟩, rfl, ⟨_, rfl, hf2⟩, trivial⟩) ?_
   rintro v89 w21 ⟨hs, g89, hF⟩
   refine ⟨(hR.trans hs (by simp)).ext, ?_⟩
   replace hT := hT.t hs; replace ha := ha.t hs; replace hd := hd.t hs; replace hsh := hsh.t hs; replace hds := hds.t hs; replace hv1 := hv1.t hs; replace hv2 := hv2.t hs; replace bx := bx.t hs; replace bw := bw.t hs; replace bt := bt.t hs; replace bc := bc.t hs; replace b1 := b1.t hs; replace b2 := b2.t hs; replace hy := hy.t hs; replace hg := hg.t hs; replace hsh2 := hsh2.t hs; replace hds2 := hds2.t hs; replace hf1 := hf1.t hs; replace hz1 := hz1.t hs; replace hf2 := hf2.t hs; replace hz2 := hz2.t hs; replace hR := hR.t hs
   refine cS (kq 90 (.call { callee := .value (.func 65), args := #[(.tmp 89)], argTypes := #[136] })) rfl rfl (ent Tryz.call65 rfl) (concatR_ok hF g89 (by simp; omega)) ?_
   rintro vnow w22 ⟨hs, hnow⟩
   rw [show [misL sh A ver1 vals1 fl vals1.length, misL z1 B ver2 vals2 fl vals2.length].flatten = misL sh A ver1 vals1 fl vals1.length ++ misL z1 B ver2 vals2 fl vals2.length from by simp] at hnow
   refine ⟨(hR.trans hs (by simp)).ext, ?_⟩
   replace hF := hF.st hs
   replace hT := hT.t hs; replace ha := ha.t hs; replace hd := hd.t hs; replace hsh := hsh.t hs; replace hds := hds.t hs; replace hv1 := hv1.t hs; replace hv2 := hv2.t hs; replace bx := bx.t hs; replace bw := bw.t hs; replace bt := bt.t hs; replace bc := bc.t hs; replace b1 := b1.t hs; replace b2 := b2.t hs; replace hy := hy.t hs; replace hg := hg.t hs; replace hsh2 := hsh2.t hs; replace hds2 := hds2.t hs; replace hf1 := hf1.t hs; replace hz1 := hz1.t hs; replace hf2 := hf2.t hs; replace hz2 := hz2.t hs; replace hR := hR.t hs; replace g89 := g89.t hs
   refine bar_do hR.ext ?_
   refine aN (k0 (.store 26 (.tmp 12) (.tmp 86))) rfl (a_storeAll (vs := [.int .i64 (bud - (sumCh (misL sh A ver1 vals1 fl vals1.length) + sumCh (misL z1 B ver2 vals2 fl vals2.length))), vw2, vz2]) (n := 3) rfl rfl (by kernel_rfl) rfl rfl (by intro u hu; simp only [List.mem_cons, List.not_mem_nil, or_false] at hu; rcases hu with rfl | rfl | rfl <;> first | rfl | exact (hz2.one rfl).2 | exact (hds2.one rfl).2) hy rfl) ?_
   rintro _ w23 ⟨rfl, hs, hy⟩
   refine ⟨trivial, ?_⟩
   replace hF := hF.st hs
   replace hT := hT.t hs; replace ha := ha.t hs; replace hd := hd.t hs; replace hsh := hsh.t hs; replace hds := hds.t hs; replace hv1 := hv1.t hs; replace hv2 := hv2.t hs; replace bx := bx.t hs; replace bw := bw.t hs; replace bt := bt.t hs; replace bc := bc.t hs; replace b1 := b1.t hs; replace b2 := b2.t hs; replace hg := hg.t hs; replace hsh2 := hsh2.t hs; replace hds2 := hds2.t hs; replace hf1 := hf1.t hs; replace hz1 := hz1.t hs; replace hf2 := hf2.t hs; replace hz2 := hz2.t hs; replace g89 := g89.t hs; replace hnow := hnow.t hs
   refine bar_next ?_
   refine yA 13 90 ?_
   refine yAc 14 (.int .i64 0) ?_
   refine Sch.nil ?_
   refine run_retCTT (by kernel_rfl) Tryz.func29 Tryz.results29 rfl rfl rfl hy.at_ (by kernel_rfl) (by kernel_rfl) rfl ?_
   exact ⟨_, _, _, _, z2, ds, _, 0, rfl, hT.out1 (by decide), hz2.out hT hF0 (Mc_col1 C), hds2.out hT hF0 (Mc_col1 C), hnow.out hT hF0 (Mc_col1 C), ⟨fl, true, hFl, .inr ⟨rfl, z1, z2, hS1, hS2, .inr ⟨by omega, rfl, rfl, rfl, rfl⟩⟩⟩, fun _ => rfl⟩
end Go.Proofs.YtionghonhnedgaaGreat
