/- Steps through functions of the program. -/
import Derived.Test.YtionghonhnedgaaGreatJVP
import Derived.Test.YtionghonhnedgaaGreatJVU
import Derived.Test.YtionghonhnedgaaGreatL2
set_option linter.unusedVariables false
set_option linter.unusedSimpArgs false
set_option maxRecDepth 100000
set_option maxHeartbeats 4000000
namespace Go.Proofs.YtionghonhnedgaaGreat
open Go.K Go.K.Rep

namespace F6
noncomputable def c0 := bodyOf Tryz.f6
noncomputable def c7 := (cl (cl (cr (cl (cr c0)))))
noncomputable def c15 := (cl (cr (cr (cr (cr c0)))))
noncomputable def c16 := (cr (cr (cr (cr (cr c0)))))
noncomputable def c23 := (cl (cl (cr (cr (cl c16)))))
noncomputable def c33 := (cl (cr (cr (cr (cr c16)))))
noncomputable def c34 := (cr (cr (cr (cr (cr c16)))))
noncomputable def c43 := (cl (cr (cr (cr (cr c34)))))
noncomputable def c44 := (cr (cr (cr (cr (cr c34)))))
end F6
/-- A couple is decided once for its versions, only after its deciding fields were shown, and anew for another version. -/
theorem reviewOnce_ok {w₀ : World} {C : Nat → Nat} {l : List Int} {vl : Value} (hF : Lim w₀ C) (hl : RV w₀ (Mc C) l vl) : Calls Tryz.prog 6 #[vl] w₀ (Ret fun v w' => v = .bool true ∧ Stp [] w₀ C w' C) := by
 have hF0 := hF
 have hT := Stp.refl [2, 3, 4, 5, 6, 7, 8, 9] w₀ (col1 C)
 replace hF := hF.col1
 replace hl : RV w₀ (Mc (col1 C)) l vl := by rw [Mc_col1]; exact hl
 refine calls_start (c := F6.c0) (N := 197) [vl] Tryz.func6 (by kernel_rfl) (by kernel_rfl) (by kernel_rfl) ?_
 show Run _ _ _ _ [(0, vl)] _ _
 refine run_sq ?_
 refine run_pl [yy 0] ?_
 refine yAc 2 (.bool false) ?_
 refine Sch.nil ?_
 refine run_sq ?_
 refine run_sq ?_
 refine run_pl [nn 0, yy 1, yy 2, yy 3, nn 4, yy 5, yy 6] ?_
 refine cS (kq 27 (.call { callee := .value (.func 8), args := #[], argTypes := #[] })) rfl rfl (ent Tryz.call8 rfl) (awake_ok hF) ?_
 rintro vw1 w1 ⟨rfl, hs⟩
 refine ⟨trivial, ?_⟩
 replace hF := hF.st hs
 replace hT := hT.t hs; replace hl := hl.t hs
 refine yV (kq 28 (.unOp .not 4 (.tmp 27))) (fun _ => val_not rfl) ?_
 refine yM 29 28 ?_
 refine yMg 30 0 2 false ?_
 refine cS (kg 31 (.call { callee := .value (.func 9), args := #[(.tmp 30)], argTypes := #[22] }) 2 false) rfl rfl (ent Tryz.call9 rfl) (few_any hl) ?_
 rintro vw2 w2 ⟨rfl, rfl⟩
 refine ⟨trivial, ?_⟩
 refine yV (kg 32 (.unOp .not 4 (.tmp 31)) 2 false) (fun _ => val_notd rfl) ?_
 refine yOf 33 29 32 ?_
 refine Sch.nil ?_
 refine run_i 33 rfl (fun h33 => ?_) (fun h33 => ?_)
 ·
  refine run_sq ?_
  refine run_pl [nn 0, yy 1] ?_
  refine cS (kq 34 (.call { callee := .value (.func 8), args := #[], argTypes := #[] })) rfl rfl (ent Tryz.call8 rfl) (awake_ok hF) ?_
  rintro vw3 w3 ⟨rfl, hs⟩
  refine ⟨trivial, ?_⟩
  replace hF := hF.st hs
  replace hT := hT.t hs; replace hl := hl.t hs
  refine yA 2 34 ?_
  refine Sch.nil ?_
  refine run_ret1 (by kernel_rfl) Tryz.func6 Tryz.results6 rfl ?_
  exact ⟨rfl, hT.out1 (by decide)⟩
 ·
  refine run_sk ?_
  refine run_sq ?_
  refine run_pl [yy 0, nn 1, yy 2] ?_
  refine yM 35 0 ?_
  refine cS (kq 36 (.call { callee := .value (.func 10), args := #[(.tmp 35)], argTypes := #[22] })) rfl rfl (ent Tryz.call10 rfl) (new_any hF hl) ?_
  rintro vw4 w4 ⟨Cd, bd, rfl, hs, hF, hd⟩
  refine ⟨trivial, ?_⟩
  replace hT := hT.t hs; replace hl := hl.t hs
  refine yA 3 36 ?_
  refine Sch.nil ?_
  refine run_sq ?_
  refine run_pl [yy 0, nn 1, yy 2, yy 3] ?_
  refine yM 37 3 ?_
  refine cS (kq 38 (.call { callee := .value (.func 11), args := #[(.tmp 37), (.const (.int .i64 3))], argTypes := #[40, 3] })) rfl rfl (ent Tryz.call11 rfl) (next_any (n := 3) hF (by decide) hd (by omega) (by omega)) ?_
  rintro vw5 w5 ⟨kn, rfl, hkn, hs, hd⟩
  refine ⟨trivial, ?_⟩
  replace hF := hF.st hs
  replace hT := hT.t hs; replace hl := hl.t hs
  obtain ⟨n, hn⟩ : ∃ n, n = kn + 1 := ⟨_, rfl⟩
  refine yV (kq 39 (.binOp .add 3 (.const (.int .i64 1)) (.tmp 38) 3)) (fun _ => val_is (val_addi rfl rfl (by omega) (by omega)) (show _ = Value.int .i64 ((n : Nat) : Int) from congrArg (Value.int .i64) (by omega))) ?_
  refine yA 4 39 ?_
  refine Sch.nil ?_
  refine run_sq ?_
  refine run_pl [yy 0, yy 1, nn 2, yy 3, yy 4, yy 5, yy 6, nn 7, nn 8, nn 9, nn 10, yy 11] ?_
  refine yM 41 3 ?_
  refine yM 42 4 ?_
  refine cS (kq 43 (.call { callee := .value (.func 12), args := #[(.tmp 41), (.tmp 42)], argTypes := #[40, 3] })) rfl rfl (ent Tryz.call12 rfl) (grey_any (n := n) hF (by decide) hd (by omega) (by omega)) ?_
  rintro vw6 w6 ⟨pr, ag, df, va, vd, lo, hh, p, rfl, hDW, prl, prh, hK, hh9, hpp, hs, ha, hq, hd⟩
  refine ⟨trivial, ?_⟩
  replace hF := hF.st hs
  replace hT := hT.t hs; replace hl := hl.t hs
  have hW := hDW.ok (by omega) (by omega) prl prh
  have hla := hDW.la
  have hld := hDW.ld
  have hp3 := pow3 hW.l5
  obtain ⟨hk1, hk2, hk3, hk4⟩ := id hK
  refine yM 40 43 ?_
  refine yV (kq 44 (.extract (.tmp 40) 0)) (fun _ => val_extract rfl rfl) ?_
  refine yV (kq 45 (.extract (.tmp 40) 1)) (fun _ => val_extract rfl rfl) ?_
  refine yV (kq 46 (.extract (.tmp 40) 2)) (fun _ => val_extract rfl rfl) ?_
  refine aS (kq 5 (.alloc 28)) rfl rfl (a_alloc (cs := [.int .i64 0, .slice none 0 0, .slice none 0 0]) hF 4 (by kernel_rfl)) ?_
  rintro _ w7 ⟨Cw7, bw7, rfl, hs, bw, hF⟩
  refine ⟨trivial, ?_⟩
  replace hT := hT.t hs; replace hl := hl.t hs
  replace hd := hd.st hs (by first | decide | (simp <;> omega)) (by first | decide | (simp <;> omega))
  replace ha := ha.t hs; replace hq := hq.t hs
  refine aS (kq 6 (.alloc 30)) rfl rfl (a_alloc (cs := [.int .i64 0, .int .i64 0]) hF 5 (by kernel_rfl)) ?_
  rintro _ w8 ⟨Cw8, bw8, rfl, hs, bt, hF⟩
  refine ⟨trivial, ?_⟩
  replace hT := hT.t hs; replace hl := hl.t hs
  replace hd := hd.st hs (by first | decide | (simp <;> omega)) (by first | decide | (simp <;> omega))
  replace ha := ha.t hs; replace hq := hq.t hs; replace bw := bw.t hs
  refine aN (k0 (.store 28 (.tmp 5) (.tmp 44))) rfl (a_storeAll (vs := [.int .i64 pr, va, vd]) (n := 3) rfl rfl (by kernel_rfl) rfl rfl (by intro u hu; simp only [List.mem_cons, List.not_mem_nil, or_false] at hu; rcases hu with rfl | rfl | rfl <;> first | rfl | exact (ha.one rfl).2 | exact (hq.one rfl).2) bw rfl) ?_
  rintro _ w9 ⟨rfl, hs, bw⟩
  refine ⟨trivial, ?_⟩
  replace hF := hF.st hs
  replace hT := hT.t hs; replace hl := hl.t hs
  replace hd := hd.st hs (by first | decide | (simp <;> omega)) (by first | decide | (simp <;> omega))
  replace ha := ha.t hs; replace hq := hq.t hs; replace bt := bt.t hs
  refine aN (k0 (.store 30 (.tmp 6) (.tmp 45))) rfl (a_storeAll (vs := [.int .i64 lo, .int .i64 hh]) (n := 2) rfl rfl (by kernel_rfl) rfl rfl (by intro u hu; simp only [List.mem_cons, List.not_mem_nil, or_false] at hu; rcases hu with rfl | rfl <;> first | rfl) bt rfl) ?_
  rintro _ w10 ⟨rfl, hs, bt⟩
  refine ⟨trivial, ?_⟩
  replace hF := hF.st hs
  replace hT := hT.t hs; replace hl := hl.t hs
  replace hd := hd.st hs (by first | decide | (simp <;> omega)) (by first | decide | (simp <;> omega))
  replace ha := ha.t hs; replace hq := hq.t hs; replace bw := bw.t hs
  refine yA 7 46 ?_
  refine Sch.nil ?_
  refine run_sq ?_
  refine run_sq ?_
  refine run_pl [nn 0, nn 1, yy 2, nn 3, yy 4, yy 5, yy 6, yy 7, yy 8] ?_
  refine nS (kq 48 (.load 28 (.tmp 5))) rfl rfl trivial (val_loadOwnAgg (n := 3) (vs := [.int .i64 pr, va, vd]) bw.at_ (by kernel_rfl) (by kernel_rfl) rfl rfl rfl) ?_
  refine nS (kq 49 (.load 30 (.tmp 6))) rfl rfl trivial (val_loadOwnAgg (n := 2) (vs := [.int .i64 lo, .int .i64 hh]) bt.at_ (by kernel_rfl) (by kernel_rfl) rfl rfl rfl) ?_
  refine yM 50 7 ?_
  refine cS (kq 51 (.call { callee := .value (.func 24), args := #[(.tmp 48), (.tmp 49), (.tmp 50)], argTypes := #[28, 30, 3] })) rfl rfl (ent Tryz.call24 rfl) (rfields_ok hF hW ha hq hK hpp) ?_
  rintro vw11 w11 ⟨u1, fl, ok, rfl, hs, hf, hFl⟩
  refine ⟨trivial, ?_⟩
  replace hF := hF.st hs
  replace hT := hT.t hs; replace hl := hl.t hs
  replace hd := hd.st hs (by first | decide | (simp <;> omega)) (by first | decide | (simp <;> omega))
  replace ha := ha.t hs; replace hq := hq.t hs; replace bw := bw.t hs; replace bt := bt.t hs
  refine yM 47 51 ?_
  refine yV (kq 52 (.extract (.tmp 47) 0)) (fun _ => val_extract rfl rfl) ?_
  refine yV (kq 53 (.extract (.tmp 47) 1)) (fun _ => val_extract rfl rfl) ?_
  refine yA 8 52 ?_
  refine yA 9 53 ?_
  refine Sch.nil ?_
  refine run_sq ?_
  refine run_pl [yy 0, yy 1] ?_
  refine yM 54 9 ?_
  refine yV (kq 55 (.unOp .not 4 (.tmp 54))) (fun _ => val_not rfl) ?_
  refine Sch.nil ?_
  refine run_c 55 rfl (fun h55 => ?_) (fun h55 => ?_)
  ·
   refine run_sq ?_
   refine run_pl [yy 0] ?_
   refine yAc 2 (.bool true) ?_
   refine Sch.nil ?_
   refine run_ret1 (by kernel_rfl) Tryz.func6 Tryz.results6 rfl ?_
   exact ⟨rfl, hT.out1 (by decide)⟩
  ·
   obtain rfl : ok = true := by simpa using h55
   refine run_sk ?_
   refine run_sq ?_
   refine run_pl [yy 0, yy 1, yy 2, yy 3, nn 4, nn 5] ?_
   refine yV (kq 56 (.build 32 #[(1, (.const (.int .i64 1)))])) (fun _ => val_build (zs := [.int .i64 0, .int .i64 0]) (ps := [(0, 1), (1, 1)]) (qs := [(1, [.int .i64 1])]) (cs := [.int .i64 0, .int .i64 1]) (by kernel_rfl) (by kernel_rfl) (by exact ⟨rfl, ⟨_, rfl, rfl⟩, trivial⟩) rfl) ?_
   refine yV (kq 57 (.build 32 #[(0, (.const (.int .i64 1))), (1, (.const (.int .i64 2)))])) (fun _ => val_build (zs := [.int .i64 0, .int .i64 0]) (ps := [(0, 1), (1, 1)]) (qs := [(0, [.int .i64 1]), (1, [.int .i64 2])]) (cs := [.int .i64 1, .int .i64 2]) (by kernel_rfl) (by kernel_rfl) (by exact ⟨rfl, ⟨_, rfl, rfl⟩, rfl, ⟨_, rfl, rfl⟩, trivial⟩) rfl) ?_
   refine yM 58 7 ?_
   refine yV (kq 59 (.build 34 #[(0, (.tmp 56)), (1, (.tmp 57)), (2, (.tmp 58))])) (fun _ => val_build (zs := [.int .i64 0, .int .i64 0, .int .i64 0, .int .i64 0, .int .i64 0, .int .i64 0]) (ps := [(0, 2), (2, 2), (4, 1), (5, 1)]) (qs := [(0, [.int .i64 0, .int .i64 1]), (1, [.int .i64 1, .int .i64 2]), (2, [.int .i64 p])]) (cs := [.int .i64 0, .int .i64 1, .int .i64 1, .int .i64 2, .int .i64 p, .int .i64 0]) (by kernel_rfl) (by kernel_rfl) (by exact ⟨rfl, ⟨_, rfl, rfl⟩, rfl, ⟨_, rfl, rfl⟩, rfl, ⟨_, rfl, rfl⟩, trivial⟩) rfl) ?_
   refine aS (kq 10 (.alloc 34)) rfl rfl (a_alloc (cs := [.int .i64 0, .int .i64 0, .int .i64 0, .int .i64 0, .int .i64 0, .int .i64 0]) hF 9 (by kernel_rfl)) ?_
   rintro _ w12 ⟨Cw12, bw12, rfl, hs, bc, hF⟩
   refine ⟨trivial, ?_⟩
   replace hT := hT.t hs; replace hl := hl.t hs
   replace hd := hd.st hs (by first | decide | (simp <;> omega)) (by first | decide | (simp <;> omega))
   replace ha := ha.t hs; replace hq := hq.t hs; replace bw := bw.t hs; replace bt := bt.t hs; replace hf := hf.t hs
   refine aN (k0 (.store 34 (.tmp 10) (.tmp 59))) rfl (a_storeAll (vs := [.int .i64 0, .int .i64 1, .int .i64 1, .int .i64 2, .int .i64 p, .int .i64 0]) (n := 6) rfl rfl (by kernel_rfl) rfl rfl (by intro u hu; simp only [List.mem_cons, List.not_mem_nil, or_false] at hu; rcases hu with rfl | rfl | rfl | rfl | rfl | rfl <;> first | rfl) bc rfl) ?_
   rintro _ w13 ⟨rfl, hs, bc⟩
   refine ⟨trivial, ?_⟩
   replace hF := hF.st hs
   replace hT := hT.t hs; replace hl := hl.t hs
   replace hd := hd.st hs (by first | decide | (simp <;> omega)) (by first | decide | (simp <;> omega))
   replace ha := ha.t hs; replace hq := hq.t hs; replace bw := bw.t hs; replace bt := bt.t hs; replace hf := hf.t hs
   refine Sch.nil ?_
   refine run_sq ?_
   refine run_pl [yy 0, yy 1, nn 2, yy 3, yy 4, nn 5, nn 6, nn 7, nn 8, nn 9] ?_
   refine yM 60 3 ?_
   refine yM 61 4 ?_
   refine cS (kq 62 (.call { callee := .value (.func 13), args := #[(.tmp 60), (.const (.int .i64 1)), (.tmp 61)], argTypes := #[40, 3, 3] })) rfl rfl (ent Tryz.call13 rfl) (plain_any (id := 1) (n := n) hF (by decide) hd (by omega)) ?_
   rintro vw14 w14 ⟨ver1, vals1, vv1, rfl, va1, vb1, vl1, vs91, hs, hv1, hd⟩
   refine ⟨trivial, ?_⟩
   replace hF := hF.st hs
   replace hT := hT.t hs; replace hl := hl.t hs; replace ha := ha.t hs; replace hq := hq.t hs; replace bw := bw.t hs; replace bt := bt.t hs; replace hf := hf.t hs; replace bc := bc.t hs
   refine yM 63 3 ?_
   refine yM 64 4 ?_
   refine cS (kq 65 (.call { callee := .value (.func 13), args := #[(.tmp 63), (.const (.int .i64 2)), (.tmp 64)], argTypes := #[40, 3, 3] })) rfl rfl (ent Tryz.call13 rfl) (plain_any (id := 2) (n := n) hF (by decide) hd (by omega)) ?_
   rintro vw15 w15 ⟨ver2, vals2, vv2, rfl, va2, vb2, vl2, vs92, hs, hv2, hd⟩
   refine ⟨trivial, ?_⟩
   replace hF := hF.st hs
   replace hT := hT.t hs; replace hl := hl.t hs; replace ha := ha.t hs; replace hq := hq.t hs; replace bw := bw.t hs; replace bt := bt.t hs; replace hf := hf.t hs; replace bc := bc.t hs; replace hv1 := hv1.t hs
   refine aS (kq 11 (.alloc 37)) rfl rfl (a_alloc (cs := [.int .i64 0, .int .i64 0, .slice none 0 0]) hF 6 (by kernel_rfl)) ?_
   rintro _ w16 ⟨Cw16, bw16, rfl, hs, b1, hF⟩
   refine ⟨trivial, ?_⟩
   replace hT := hT.t hs; replace hl := hl.t hs
   replace hd := hd.st hs (by first | decide | (simp <;> omega)) (by first | decide | (simp <;> omega))
   replace ha := ha.t hs; replace hq := hq.t hs; replace bw := bw.t hs; replace bt := bt.t hs; replace hf := hf.t hs; replace bc := bc.t hs; replace hv1 := hv1.t hs; replace hv2 := hv2.t hs
   refine aS (kq 12 (.alloc 37)) rfl rfl (a_alloc (cs := [.int .i64 0, .int .i64 0, .slice none 0 0]) hF 2 (by kernel_rfl)) ?_
   rintro _ w17 ⟨Cw17, bw17, rfl, hs, b2, hF⟩
   refine ⟨trivial, ?_⟩
   replace hT := hT.t hs; replace hl := hl.t hs
   replace hd := hd.st hs (by first | decide | (simp <;> omega)) (by first | decide | (simp <;> omega))
   replace ha := ha.t hs; replace hq := hq.t hs; replace bw := bw.t hs; replace bt := bt.t hs; replace hf := hf.t hs; replace bc := bc.t hs; replace hv1 := hv1.t hs; replace hv2 := hv2.t hs; replace b1 := b1.t hs
   refine aN (k0 (.store 37 (.tmp 11) (.tmp 62))) rfl (a_storeAll (vs := [.int .i64 1, .int .i64 ver1, vv1]) (n := 3) rfl rfl (by kernel_rfl) rfl rfl (by intro u hu; simp only [List.mem_cons, List.not_mem_nil, or_false] at hu; rcases hu with rfl | rfl | rfl <;> first | rfl | exact (hv1.one rfl).2) b1 rfl) ?_
   rintro _ w18 ⟨rfl, hs, b1⟩
   refine ⟨trivial, ?_⟩
   replace hF := hF.st hs
   replace hT := hT.t hs; replace hl := hl.t hs
   replace hd := hd.st hs (by first | decide | (simp <;> omega)) (by first | decide | (simp <;> omega))
   replace ha := ha.t hs; replace hq := hq.t hs; replace bw := bw.t hs; replace bt := bt.t hs; replace hf := hf.t hs; replace bc := bc.t hs; replace hv1 := hv1.t hs; replace hv2 := hv2.t hs; replace b2 := b2.t hs
   refine aN (k0 (.store 37 (.tmp 12) (.tmp 65))) rfl (a_storeAll (vs := [.int .i64 2, .int .i64 ver2, vv2]) (n := 3) rfl rfl (by kernel_rfl) rfl rfl (by intro u hu; simp only [List.mem_cons, List.not_mem_nil, or_false] at hu; rcases hu with rfl | rfl | rfl <;> first | rfl | exact (hv2.one rfl).2) b2 rfl) ?_
   rintro _ w19 ⟨rfl, hs, b2⟩
   refine ⟨trivial, ?_⟩
   replace hF := hF.st hs
   replace hT := hT.t hs; replace hl := hl.t hs
   replace hd := hd.st hs (by first | decide | (simp <;> omega)) (by first | decide | (simp <;> omega))
   replace ha := ha.t hs; replace hq := hq.t hs; replace bw := bw.t hs; replace bt := bt.t hs; replace hf := hf.t hs; replace bc := bc.t hs; replace hv1 := hv1.t hs; replace hv2 := hv2.t hs; replace b1 := b1.t hs
   refine Sch.nil ?_
   refine run_sq ?_
   refine run_pl [nn 0, yy 1, yy 2, yy 3, nn 4, nn 5, yy 6] ?_
   have hQ1 : QOK ag vals1 ver1 := qok9 (by omega) va1 (by omega) vs91
   have hQ2 : QOK ag vals2 ver2 := qok9 (by omega) va2 (by omega) vs92
   have hQ3 : QOK ag vals2 (ver2 + 1) := qok9 (by omega) (by omega) (by omega) vs92
   have hR0 := start_R (b := 600) (by decide) (by decide)
   have hAB : cplOK ⟨0, 1⟩ ⟨1, 2⟩ = true := by decide
   refine cS (kq 67 (.call { callee := .value (.func 18), args := #[(.const (.int .i64 600))], argTypes := #[3] })) rfl rfl (ent Tryz.call18 rfl) (start_ok (bud := 600) hF (by decide) (by decide)) ?_
   rintro vw20 w20 ⟨rfl, hs⟩
   refine ⟨trivial, ?_⟩
   replace hF := hF.st hs
   replace hT := hT.t hs; replace hl := hl.t hs
   replace hd := hd.st hs (by first | decide | (simp <;> omega)) (by first | decide | (simp <;> omega))
   replace ha := ha.t hs; replace hq := hq.t hs; replace bw := bw.t hs; replace bt := bt.t hs; replace hf := hf.t hs; replace bc := bc.t hs; replace hv1 := hv1.t hs; replace hv2 := hv2.t hs; replace b1 := b1.t hs; replace b2 := b2.t hs
   refine yM 66 67 ?_
   refine yV (kq 68 (.extract (.tmp 66) 0)) (fun _ => val_extract rfl rfl) ?_
   refine yV (kq 69 (.extract (.tmp 66) 1)) (fun _ => val_extract rfl rfl) ?_
   refine aS (kq 13 (.alloc 26)) rfl rfl (a_alloc (cs := [.int .i64 0, .slice none 0 0, .slice none 0 0]) hF 7 (by kernel_rfl)) ?_
   rintro _ w21 ⟨Cw21, bw21, rfl, hs, bx, hF⟩
   refine ⟨trivial, ?_⟩
   replace hT := hT.t hs; replace hl := hl.t hs
   replace hd := hd.st hs (by first | decide | (simp <;> omega)) (by first | decide | (simp <;> omega))
   replace ha := ha.t hs; replace hq := hq.t hs; replace bw := bw.t hs; replace bt := bt.t hs; replace hf := hf.t hs; replace bc := bc.t hs; replace hv1 := hv1.t hs; replace hv2 := hv2.t hs; replace b1 := b1.t hs; replace b2 := b2.t hs
   refine aN (k0 (.store 26 (.tmp 13) (.tmp 68))) rfl (a_storeAll (vs := [.int .i64 600, .slice none 0 0, .slice none 0 0]) (n := 3) rfl rfl (by kernel_rfl) rfl rfl (by intro u hu; simp only [List.mem_cons, List.not_mem_nil, or_false] at hu; rcases hu with rfl | rfl | rfl <;> first | rfl) bx rfl) ?_
   rintro _ w22 ⟨rfl, hs, bx⟩
   refine ⟨trivial, ?_⟩
   replace hF := hF.st hs
   replace hT := hT.t hs; replace hl := hl.t hs
   replace hd := hd.st hs (by first | decide | (simp <;> omega)) (by first | decide | (simp <;> omega))
   replace ha := ha.t hs; replace hq := hq.t hs; replace bw := bw.t hs; replace bt := bt.t hs; replace hf := hf.t hs; replace bc := bc.t hs; replace hv1 := hv1.t hs; replace hv2 := hv2.t hs; replace b1 := b1.t hs; replace b2 := b2.t hs
   refine yA 14 69 ?_
   refine Sch.nil ?_
   refine run_sq ?_
   refine run_pl [nn 0, nn 1, nn 2, nn 3, nn 4, nn 5, nn 6, yy 7, yy 8, yy 9, nn 10, nn 11, yy 12] ?_
   refine nS (kq 71 (.load 26 (.tmp 13))) rfl rfl trivial (val_loadOwnAgg (n := 3) (vs := [.int .i64 600, .slice none 0 0, .slice none 0 0]) bx.at_ (by kernel_rfl) (by kernel_rfl) rfl rfl rfl) ?_
   refine nS (kq 72 (.load 28 (.tmp 5))) rfl rfl trivial (val_loadOwnAgg (n := 3) (vs := [.int .i64 pr, va, vd]) bw.at_ (by kernel_rfl) (by kernel_rfl) rfl rfl rfl) ?_
   refine nS (kq 73 (.load 30 (.tmp 6))) rfl rfl trivial (val_loadOwnAgg (n := 2) (vs := [.int .i64 lo, .int .i64 hh]) bt.at_ (by kernel_rfl) (by kernel_rfl) rfl rfl rfl) ?_
   refine nS (kq 74 (.load 34 (.tmp 10))) rfl rfl trivial (val_loadOwnAgg (n := 6) (vs := [.int .i64 0, .int .i64 1, .int .i64 1, .int .i64 2, .int .i64 p, .int .i64 0]) bc.at_ (by kernel_rfl) (by kernel_rfl) rfl rfl rfl) ?_
   refine nS (kq 75 (.load 37 (.tmp 11))) rfl rfl trivial (val_loadOwnAgg (n := 3) (vs := [.int .i64 1, .int .i64 ver1, vv1]) b1.at_ (by kernel_rfl) (by kernel_rfl) rfl rfl rfl) ?_
   refine nS (kq 76 (.load 37 (.tmp 12))) rfl rfl trivial (val_loadOwnAgg (n := 3) (vs := [.int .i64 2, .int .i64 ver2, vv2]) b2.at_ (by kernel_rfl) (by kernel_rfl) rfl rfl rfl) ?_
   refine cS (kq 77 (.call { callee := .value (.func 31), args := #[(.tmp 71), (.tmp 72), (.tmp 73), (.tmp 74), (.tmp 75), (.tmp 76), (.const (.bool true))], argTypes := #[26, 28, 30, 34, 37, 37, 4] })) rfl rfl (ent Tryz.call31 rfl) (decide_ok (A := ⟨0, 1⟩) (B := ⟨1, 2⟩) (id1 := 1) (id2 := 2) (sh := []) (ds := []) hF hR0 rv_nil rv_nil hW ha hq hK hpp hAB rfl rfl hQ1 hv1 hQ2 hv2 (fun k h => by simp at h)) ?_
   rintro vw23 w23 ⟨bd1, vs1, vz1, sh1, ds1, e1, rfl, hs, hsh1, hds1, hD1⟩
   obtain rfl := hD1.unshown hFl (not_all0 hFl)
   refine ⟨trivial, ?_⟩
   replace hF := hF.st hs
   replace hT := hT.t hs; replace hl := hl.t hs
   replace hd := hd.st hs (by first | decide | (simp <;> omega)) (by first | decide | (simp <;> omega))
   replace ha := ha.t hs; replace hq := hq.t hs; replace bw := bw.t hs; replace bt := bt.t hs; replace hf := hf.t hs; replace bc := bc.t hs; replace hv1 := hv1.t hs; replace hv2 := hv2.t hs; replace b1 := b1.t hs; replace b2 := b2.t hs; replace bx := bx.t hs
   refine yM 70 77 ?_
   refine yV (kq 78 (.extract (.tmp 70) 0)) (fun _ => val_extract rfl rfl) ?_
   refine yV (kq 79 (.extract (.tmp 70) 1)) (fun _ => val_extract rfl rfl) ?_
   refine aS (kq 15 (.alloc 26)) rfl rfl (a_alloc (cs := [.int .i64 0, .slice none 0 0, .slice none 0 0]) hF 8 (by kernel_rfl)) ?_
   rintro _ w24 ⟨Cw24, bw24, rfl, hs, bq1, hF⟩
   refine ⟨trivial, ?_⟩
   replace hT := hT.t hs; replace hl := hl.t hs
   replace hd := hd.st hs (by first | decide | (simp <;> omega)) (by first | decide | (simp <;> omega))
   replace ha := ha.t hs; replace hq := hq.t hs; replace bw := bw.t hs; replace bt := bt.t hs; replace hf := hf.t hs; replace bc := bc.t hs; replace hv1 := hv1.t hs; replace hv2 := hv2.t hs; replace b1 := b1.t hs; replace b2 := b2.t hs; replace bx := bx.t hs; replace hsh1 := hsh1.t hs; replace hds1 := hds1.t hs
   refine aN (k0 (.store 26 (.tmp 15) (.tmp 78))) rfl (a_storeAll (vs := [.int .i64 bd1, vs1, vz1]) (n := 3) rfl rfl (by kernel_rfl) rfl rfl (by intro u hu; simp only [List.mem_cons, List.not_mem_nil, or_false] at hu; rcases hu with rfl | rfl | rfl <;> first | rfl | exact (hsh1.one rfl).2 | exact (hds1.one rfl).2) bq1 rfl) ?_
   rintro _ w25 ⟨rfl, hs, bq1⟩
   refine ⟨trivial, ?_⟩
   replace hF := hF.st hs
   replace hT := hT.t hs; replace hl := hl.t hs
   replace hd := hd.st hs (by first | decide | (simp <;> omega)) (by first | decide | (simp <;> omega))
   replace ha := ha.t hs; replace hq := hq.t hs; replace bw := bw.t hs; replace bt := bt.t hs; replace hf := hf.t hs; replace bc := bc.t hs; replace hv1 := hv1.t hs; replace hv2 := hv2.t hs; replace b1 := b1.t hs; replace b2 := b2.t hs; replace bx := bx.t hs; replace hsh1 := hsh1.t hs; replace hds1 := hds1.t hs
   refine yA 16 79 ?_
   refine Sch.nil ?_
   refine run_sq ?_
   refine run_pl [nn 0, nn 1, nn 2, nn 3, nn 4, nn 5, nn 6, yy 7, yy 8, yy 9, yy 10, nn 11, yy 12, yy 13] ?_
   refine nS (kq 81 (.load 26 (.tmp 13))) rfl rfl trivial (val_loadOwnAgg (n := 3) (vs := [.int .i64 600, .slice none 0 0, .slice none 0 0]) bx.at_ (by kernel_rfl) (by kernel_rfl) rfl rfl rfl) ?_
   refine nS (kq 82 (.load 28 (.tmp 5))) rfl rfl trivial (val_loadOwnAgg (n := 3) (vs := [.int .i64 pr, va, vd]) bw.at_ (by kernel_rfl) (by kernel_rfl) rfl rfl rfl) ?_
   refine nS (kq 83 (.load 30 (.tmp 6))) rfl rfl trivial (val_loadOwnAgg (n := 2) (vs := [.int .i64 lo, .int .i64 hh]) bt.at_ (by kernel_rfl) (by kernel_rfl) rfl rfl rfl) ?_
   refine nS (kq 84 (.load 34 (.tmp 10))) rfl rfl trivial (val_loadOwnAgg (n := 6) (vs := [.int .i64 0, .int .i64 1, .int .i64 1, .int .i64 2, .int .i64 p, .int .i64 0]) bc.at_ (by kernel_rfl) (by kernel_rfl) rfl rfl rfl) ?_
   refine nS (kq 85 (.load 37 (.tmp 11))) rfl rfl trivial (val_loadOwnAgg (n := 3) (vs := [.int .i64 1, .int .i64 ver1, vv1]) b1.at_ (by kernel_rfl) (by kernel_rfl) rfl rfl rfl) ?_
   refine nS (kq 86 (.load 37 (.tmp 12))) rfl rfl trivial (val_loadOwnAgg (n := 3) (vs := [.int .i64 2, .int .i64 ver2, vv2]) b2.at_ (by kernel_rfl) (by kernel_rfl) rfl rfl rfl) ?_
   have eln : ([] : List Shw).length = 0 := rfl
   refine cS (kq 87 (.call { callee := .value (.func 29), args := #[(.tmp 81), (.tmp 82), (.tmp 83), (.tmp 84), (.tmp 85), (.tmp 86)], argTypes := #[26, 28, 30, 34, 37, 37] })) rfl rfl (ent Tryz.call29 rfl) (ask_ok (A := ⟨0, 1⟩) (B := ⟨1, 2⟩) (id1 := 1) (id2 := 2) (sh := []) (ds := []) hF hR0 rv_nil rv_nil hW ha hq hK hpp hAB rfl rfl hQ1 hv1 hQ2 hv2 (by omega)) ?_
   rintro vw26 w26 ⟨bd2, vs2, vz2, vn2, sh2, ds2, now2, e2, rfl, hs, hsh2, hds2, hnow2, hA2, hde2⟩
   obtain ⟨rfl, hbl2⟩ := hA2.fits2 hFl (mis27 (by omega) vs91) (mis27 (by omega) vs92) (by omega)
   obtain rfl := hde2 rfl
   obtain ⟨hR2, hln2, hnl2, _, ⟨flx, hFx, hAll2⟩, _, hin2⟩ := hA2.law hR0 hAB hW hQ1 hQ2 (by omega)
   obtain ⟨rfl, _⟩ := hFl.uniq hFx
   simp only [List.length_nil] at hln2
   refine ⟨trivial, ?_⟩
   replace hF := hF.st hs
   replace hT := hT.t hs; replace hl := hl.t hs
   replace hd := hd.st hs (by first | decide | (simp <;> omega)) (by first | decide | (simp <;> omega))
   replace ha := ha.t hs; replace hq := hq.t hs; replace bw := bw.t hs; replace bt := bt.t hs; replace hf := hf.t hs; replace bc := bc.t hs; replace hv1 := hv1.t hs; replace hv2 := hv2.t hs; replace b1 := b1.t hs; replace b2 := b2.t hs; replace bx := bx.t hs; replace hsh1 := hsh1.t hs; replace hds1 := hds1.t hs
   refine yM 80 87 ?_
   refine yV (kq 88 (.extract (.tmp 80) 0)) (fun _ => val_extract rfl rfl) ?_
   refine yV (kq 89 (.extract (.tmp 80) 1)) (fun _ => val_extract rfl rfl) ?_
   refine yV (kq 90 (.extract (.tmp 80) 2)) (fun _ => val_extract rfl rfl) ?_
   refine aN (k0 (.store 26 (.tmp 13) (.tmp 88))) rfl (a_storeAll (vs := [.int .i64 bd2, vs2, vz2]) (n := 3) rfl rfl (by kernel_rfl) rfl rfl (by intro u hu; simp only [List.mem_cons, List.not_mem_nil, or_false] at hu; rcases hu with rfl | rfl | rfl <;> first | rfl | exact (hsh2.one rfl).2 | exact (hds2.one rfl).2) bx rfl) ?_
   rintro _ w27 ⟨rfl, hs, bx⟩
   refine ⟨trivial, ?_⟩
   replace hF := hF.st hs
   replace hT := hT.t hs; replace hl := hl.t hs
   replace hd := hd.st hs (by first | decide | (simp <;> omega)) (by first | decide | (simp <;> omega))
   replace ha := ha.t hs; replace hq := hq.t hs; replace bw := bw.t hs; replace bt := bt.t hs; replace hf := hf.t hs; replace bc := bc.t hs; replace hv1 := hv1.t hs; replace hv2 := hv2.t hs; replace b1 := b1.t hs; replace b2 := b2.t hs; replace hsh1 := hsh1.t hs; replace hds1 := hds1.t hs; replace hsh2 := hsh2.t hs; replace hds2 := hds2.t hs; replace hnow2 := hnow2.t hs
   refine yA 17 89 ?_
   refine yA 18 90 ?_
   refine Sch.nil ?_
   refine run_sq ?_
   refine run_pl [nn 0, nn 1, nn 2, nn 3, nn 4, nn 5, nn 6, yy 7, yy 8, yy 9, nn 10, yy 11] ?_
   refine nS (kq 92 (.load 26 (.tmp 13))) rfl rfl trivial (val_loadOwnAgg (n := 3) (vs := [.int .i64 bd2, vs2, vz2]) bx.at_ (by kernel_rfl) (by kernel_rfl) rfl rfl rfl) ?_
   refine nS (kq 93 (.load 28 (.tmp 5))) rfl rfl trivial (val_loadOwnAgg (n := 3) (vs := [.int .i64 pr, va, vd]) bw.at_ (by kernel_rfl) (by kernel_rfl) rfl rfl rfl) ?_
   refine nS (kq 94 (.load 30 (.tmp 6))) rfl rfl trivial (val_loadOwnAgg (n := 2) (vs := [.int .i64 lo, .int .i64 hh]) bt.at_ (by kernel_rfl) (by kernel_rfl) rfl rfl rfl) ?_
   refine nS (kq 95 (.load 34 (.tmp 10))) rfl rfl trivial (val_loadOwnAgg (n := 6) (vs := [.int .i64 0, .int .i64 1, .int .i64 1, .int .i64 2, .int .i64 p, .int .i64 0]) bc.at_ (by kernel_rfl) (by kernel_rfl) rfl rfl rfl) ?_
   refine nS (kq 96 (.load 37 (.tmp 11))) rfl rfl trivial (val_loadOwnAgg (n := 3) (vs := [.int .i64 1, .int .i64 ver1, vv1]) b1.at_ (by kernel_rfl) (by kernel_rfl) rfl rfl rfl) ?_
   refine nS (kq 97 (.load 37 (.tmp 12))) rfl rfl trivial (val_loadOwnAgg (n := 3) (vs := [.int .i64 2, .int .i64 ver2, vv2]) b2.at_ (by kernel_rfl) (by kernel_rfl) rfl rfl rfl) ?_
   refine cS (kq 98 (.call { callee := .value (.func 31), args := #[(.tmp 92), (.tmp 93), (.tmp 94), (.tmp 95), (.tmp 96), (.tmp 97), (.const (.bool true))], argTypes := #[26, 28, 30, 34, 37, 37, 4] })) rfl rfl (ent Tryz.call31 rfl) (decide_ok (A := ⟨0, 1⟩) (B := ⟨1, 2⟩) (id1 := 1) (id2 := 2) (sh := sh2) (ds := []) hF hR2 hsh2 hds2 hW ha hq hK hpp hAB rfl rfl hQ1 hv1 hQ2 hv2 (fun k h => by simp at h)) ?_
   rintro vw28 w28 ⟨bd3, vs3, vz3, sh3, ds3, e3, rfl, hs, hsh3, hds3, hD3⟩
   obtain ⟨rfl, rfl, rfl, rfl⟩ := hD3.added hFl hAll2 (fun k h => by simp at h) (by decide)
   obtain ⟨hR3, _⟩ := hD3.law hR2 hAB hQ1.2.1 hQ2.2.1
   replace hds3 : RV _ _ ([(⟨⟨0, 1⟩, ⟨1, 2⟩, ver1, ver2, true⟩ : Dcs)] : List Dcs) vz3 := hds3
   replace hR3 : ROK _ _ ([(⟨⟨0, 1⟩, ⟨1, 2⟩, ver1, ver2, true⟩ : Dcs)] : List Dcs) := hR3
   refine ⟨trivial, ?_⟩
   replace hF := hF.st hs
   replace hT := hT.t hs; replace hl := hl.t hs
   replace hd := hd.st hs (by first | decide | (simp <;> omega)) (by first | decide | (simp <;> omega))
   replace ha := ha.t hs; replace hq := hq.t hs; replace bw := bw.t hs; replace bt := bt.t hs; replace hf := hf.t hs; replace bc := bc.t hs; replace hv1 := hv1.t hs; replace hv2 := hv2.t hs; replace b1 := b1.t hs; replace b2 := b2.t hs; replace bx := bx.t hs; replace hsh1 := hsh1.t hs; replace hds1 := hds1.t hs; replace hsh2 := hsh2.t hs; replace hds2 := hds2.t hs; replace hnow2 := hnow2.t hs
   refine yM 91 98 ?_
   refine yV (kq 99 (.extract (.tmp 91) 0)) (fun _ => val_extract rfl rfl) ?_
   refine yV (kq 100 (.extract (.tmp 91) 1)) (fun _ => val_extract rfl rfl) ?_
   refine aN (k0 (.store 26 (.tmp 13) (.tmp 99))) rfl (a_storeAll (vs := [.int .i64 bd3, vs3, vz3]) (n := 3) rfl rfl (by kernel_rfl) rfl rfl (by intro u hu; simp only [List.mem_cons, List.not_mem_nil, or_false] at hu; rcases hu with rfl | rfl | rfl <;> first | rfl | exact (hsh3.one rfl).2 | exact (hds3.one rfl).2) bx rfl) ?_
   rintro _ w29 ⟨rfl, hs, bx⟩
   refine ⟨trivial, ?_⟩
   replace hF := hF.st hs
   replace hT := hT.t hs; replace hl := hl.t hs
   replace hd := hd.st hs (by first | decide | (simp <;> omega)) (by first | decide | (simp <;> omega))
   replace ha := ha.t hs; replace hq := hq.t hs; replace bw := bw.t hs; replace bt := bt.t hs; replace hf := hf.t hs; replace bc := bc.t hs; replace hv1 := hv1.t hs; replace hv2 := hv2.t hs; replace b1 := b1.t hs; replace b2 := b2.t hs; replace hsh1 := hsh1.t hs; replace hds1 := hds1.t hs; replace hsh2 := hsh2.t hs; replace hds2 := hds2.t hs; replace hnow2 := hnow2.t hs; replace hsh3 := hsh3.t hs; replace hds3 := hds3.t hs
   refine yA 19 100 ?_
   refine Sch.nil ?_
   refine run_sq ?_
   refine run_pl [nn 0, nn 1, nn 2, nn 3, nn 4, nn 5, nn 6, yy 7, yy 8, yy 9, nn 10, nn 11, yy 12] ?_
   refine nS (kq 102 (.load 26 (.tmp 13))) rfl rfl trivial (val_loadOwnAgg (n := 3) (vs := [.int .i64 bd3, vs3, vz3]) bx.at_ (by kernel_rfl) (by kernel_rfl) rfl rfl rfl) ?_
   refine nS (kq 103 (.load 28 (.tmp 5))) rfl rfl trivial (val_loadOwnAgg (n := 3) (vs := [.int .i64 pr, va, vd]) bw.at_ (by kernel_rfl) (by kernel_rfl) rfl rfl rfl) ?_
   refine nS (kq 104 (.load 30 (.tmp 6))) rfl rfl trivial (val_loadOwnAgg (n := 2) (vs := [.int .i64 lo, .int .i64 hh]) bt.at_ (by kernel_rfl) (by kernel_rfl) rfl rfl rfl) ?_
   refine nS (kq 105 (.load 34 (.tmp 10))) rfl rfl trivial (val_loadOwnAgg (n := 6) (vs := [.int .i64 0, .int .i64 1, .int .i64 1, .int .i64 2, .int .i64 p, .int .i64 0]) bc.at_ (by kernel_rfl) (by kernel_rfl) rfl rfl rfl) ?_
   refine nS (kq 106 (.load 37 (.tmp 11))) rfl rfl trivial (val_loadOwnAgg (n := 3) (vs := [.int .i64 1, .int .i64 ver1, vv1]) b1.at_ (by kernel_rfl) (by kernel_rfl) rfl rfl rfl) ?_
   refine nS (kq 107 (.load 37 (.tmp 12))) rfl rfl trivial (val_loadOwnAgg (n := 3) (vs := [.int .i64 2, .int .i64 ver2, vv2]) b2.at_ (by kernel_rfl) (by kernel_rfl) rfl rfl rfl) ?_
   refine cS (kq 108 (.call { callee := .value (.func 31), args := #[(.tmp 102), (.tmp 103), (.tmp 104), (.tmp 105), (.tmp 106), (.tmp 107), (.const (.bool false))], argTypes := #[26, 28, 30, 34, 37, 37, 4] })) rfl rfl (ent Tryz.call31 rfl) (decide_ok (A := ⟨0, 1⟩) (B := ⟨1, 2⟩) (id1 := 1) (id2 := 2) (sh := sh3) (ds := [(⟨⟨0, 1⟩, ⟨1, 2⟩, ver1, ver2, true⟩ : Dcs)]) hF hR3 hsh3 hds3 hW ha hq hK hpp hAB rfl rfl hQ1 hv1 hQ2 hv2 (fun k h => by
  obtain rfl : k = 0 := by simp only [List.length_cons, List.length_nil] at h; omega
  exact Int.le_of_eq (cmpD_same rfl rfl rfl rfl))) ?_
   rintro vw30 w30 ⟨bd4, vs4, vz4, sh4, ds4, e4, rfl, hs, hsh4, hds4, hD4⟩
   obtain rfl := hD4.there (same := false) hFl hAll2 (k := 0) (show 0 < ([(⟨⟨0, 1⟩, ⟨1, 2⟩, ver1, ver2, true⟩ : Dcs)] : List Dcs).length from Nat.zero_lt_one) (cmpD_same rfl rfl rfl rfl) hR3.da
   refine ⟨trivial, ?_⟩
   replace hF := hF.st hs
   replace hT := hT.t hs; replace hl := hl.t hs
   replace hd := hd.st hs (by first | decide | (simp <;> omega)) (by first | decide | (simp <;> omega))
   replace ha := ha.t hs; replace hq := hq.t hs; replace bw := bw.t hs; replace bt := bt.t hs; replace hf := hf.t hs; replace bc := bc.t hs; replace hv1 := hv1.t hs; replace hv2 := hv2.t hs; replace b1 := b1.t hs; replace b2 := b2.t hs; replace bx := bx.t hs; replace hsh1 := hsh1.t hs; replace hds1 := hds1.t hs; replace hsh2 := hsh2.t hs; replace hds2 := hds2.t hs; replace hnow2 := hnow2.t hs; replace hsh3 := hsh3.t hs; replace hds3 := hds3.t hs
   refine yM 101 108 ?_
   refine yV (kq 109 (.extract (.tmp 101) 0)) (fun _ => val_extract rfl rfl) ?_
   refine yV (kq 110 (.extract (.tmp 101) 1)) (fun _ => val_extract rfl rfl) ?_
   refine aS (kq 20 (.alloc 26)) rfl rfl (a_alloc (cs := [.int .i64 0, .slice none 0 0, .slice none 0 0]) hF 8 (by kernel_rfl)) ?_
   rintro _ w31 ⟨Cw31, bw31, rfl, hs, bq2, hF⟩
   refine ⟨trivial, ?_⟩
   replace hT := hT.t hs; replace hl := hl.t hs
   replace hd := hd.st hs (by first | decide | (simp <;> omega)) (by first | decide | (simp <;> omega))
   replace ha := ha.t hs; replace hq := hq.t hs; replace bw := bw.t hs; replace bt := bt.t hs; replace hf := hf.t hs; replace bc := bc.t hs; replace hv1 := hv1.t hs; replace hv2 := hv2.t hs; replace b1 := b1.t hs; replace b2 := b2.t hs; replace bx := bx.t hs; replace hsh1 := hsh1.t hs; replace hds1 := hds1.t hs; replace hsh2 := hsh2.t hs; replace hds2 := hds2.t hs; replace hnow2 := hnow2.t hs; replace hsh3 := hsh3.t hs; replace hds3 := hds3.t hs; replace hsh4 := hsh4.t hs; replace hds4 := hds4.t hs
   refine aN (k0 (.store 26 (.tmp 20) (.tmp 109))) rfl (a_storeAll (vs := [.int .i64 bd4, vs4, vz4]) (n := 3) rfl rfl (by kernel_rfl) rfl rfl (by intro u hu; simp only [List.mem_cons, List.not_mem_nil, or_false] at hu; rcases hu with rfl | rfl | rfl <;> first | rfl | exact (hsh4.one rfl).2 | exact (hds4.one rfl).2) bq2 rfl) ?_
   rintro _ w32 ⟨rfl, hs, bq2⟩
   refine ⟨trivial, ?_⟩
   replace hF := hF.st hs
   replace hT := hT.t hs; replace hl := hl.t hs
   replace hd := hd.st hs (by first | decide | (simp <;> omega)) (by first | decide | (simp <;> omega))
   replace ha := ha.t hs; replace hq := hq.t hs; replace bw := bw.t hs; replace bt := bt.t hs; replace hf := hf.t hs; replace bc := bc.t hs; replace hv1 := hv1.t hs; replace hv2 := hv2.t hs; replace b1 := b1.t hs; replace b2 := b2.t hs; replace bx := bx.t hs; replace hsh1 := hsh1.t hs; replace hds1 := hds1.t hs; replace hsh2 := hsh2.t hs; replace hds2 := hds2.t hs; replace hnow2 := hnow2.t hs; replace hsh3 := hsh3.t hs; replace hds3 := hds3.t hs; replace hsh4 := hsh4.t hs; replace hds4 := hds4.t hs
   refine yA 21 110 ?_
   refine Sch.nil ?_
   refine run_sq ?_
   refine run_pl [yy 0, nn 1, yy 2, yy 3, nn 4] ?_
   refine yF 111 37 12 1 1 ?_
   refine nS (kq 112 (.load 3 (.tmp 111))) rfl rfl trivial (val_loadOwn b2.at_ (by kernel_rfl) rfl rfl) ?_
   refine yV (kq 113 (.binOp .add 3 (.tmp 112) (.const (.int .i64 1)) 3)) (fun _ => val_addi rfl rfl (by omega) (by omega)) ?_
   refine yF 114 37 12 1 1 ?_
   refine aN (k0 (.store 3 (.tmp 114) (.tmp 113))) rfl (a_store1 rfl rfl (by kernel_rfl) rfl rfl b2 (by simp)) ?_
   rintro _ w33 ⟨rfl, hs, b2⟩
   refine ⟨trivial, ?_⟩
   replace hF := hF.st hs
   replace hT := hT.t hs; replace hl := hl.t hs
   replace hd := hd.st hs (by first | decide | (simp <;> omega)) (by first | decide | (simp <;> omega))
   replace ha := ha.t hs; replace hq := hq.t hs; replace bw := bw.t hs; replace bt := bt.t hs; replace hf := hf.t hs; replace bc := bc.t hs; replace hv1 := hv1.t hs; replace hv2 := hv2.t hs; replace b1 := b1.t hs; replace bx := bx.t hs; replace hsh1 := hsh1.t hs; replace hds1 := hds1.t hs; replace hsh2 := hsh2.t hs; replace hds2 := hds2.t hs; replace hnow2 := hnow2.t hs; replace hsh3 := hsh3.t hs; replace hds3 := hds3.t hs; replace hsh4 := hsh4.t hs; replace hds4 := hds4.t hs
   refine Sch.nil ?_
   refine run_sq ?_
   refine run_pl [nn 0, nn 1, nn 2, nn 3, nn 4, nn 5, nn 6, yy 7, yy 8, yy 9, nn 10, nn 11, yy 12] ?_
   refine nS (kq 116 (.load 26 (.tmp 13))) rfl rfl trivial (val_loadOwnAgg (n := 3) (vs := [.int .i64 bd3, vs3, vz3]) bx.at_ (by kernel_rfl) (by kernel_rfl) rfl rfl rfl) ?_
   refine nS (kq 117 (.load 28 (.tmp 5))) rfl rfl trivial (val_loadOwnAgg (n := 3) (vs := [.int .i64 pr, va, vd]) bw.at_ (by kernel_rfl) (by kernel_rfl) rfl rfl rfl) ?_
   refine nS (kq 118 (.load 30 (.tmp 6))) rfl rfl trivial (val_loadOwnAgg (n := 2) (vs := [.int .i64 lo, .int .i64 hh]) bt.at_ (by kernel_rfl) (by kernel_rfl) rfl rfl rfl) ?_
   refine nS (kq 119 (.load 34 (.tmp 10))) rfl rfl trivial (val_loadOwnAgg (n := 6) (vs := [.int .i64 0, .int .i64 1, .int .i64 1, .int .i64 2, .int .i64 p, .int .i64 0]) bc.at_ (by kernel_rfl) (by kernel_rfl) rfl rfl rfl) ?_
   refine nS (kq 120 (.load 37 (.tmp 11))) rfl rfl trivial (val_loadOwnAgg (n := 3) (vs := [.int .i64 1, .int .i64 ver1, vv1]) b1.at_ (by kernel_rfl) (by kernel_rfl) rfl rfl rfl) ?_
   refine nS (kq 121 (.load 37 (.tmp 12))) rfl rfl trivial (val_loadOwnAgg (n := 3) (vs := [.int .i64 2, .int .i64 (ver2 + 1), vv2]) b2.at_ (by kernel_rfl) (by kernel_rfl) rfl rfl rfl) ?_
   refine cS (kq 122 (.call { callee := .value (.func 31), args := #[(.tmp 116), (.tmp 117), (.tmp 118), (.tmp 119), (.tmp 120), (.tmp 121), (.const (.bool false))], argTypes := #[26, 28, 30, 34, 37, 37, 4] })) rfl rfl (ent Tryz.call31 rfl) (decide_ok (A := ⟨0, 1⟩) (B := ⟨1, 2⟩) (id1 := 1) (id2 := 2) (sh := sh3) (ds := [(⟨⟨0, 1⟩, ⟨1, 2⟩, ver1, ver2, true⟩ : Dcs)]) hF hR3 hsh3 hds3 hW ha hq hK hpp hAB rfl rfl hQ1 hv1 hQ3 hv2 (fun k h => by
  obtain rfl : k = 0 := by simp only [List.length_cons, List.length_nil] at h; omega
  exact Int.le_of_lt (cmpD_ver rfl rfl rfl (show ver2 < ver2 + 1 by omega)))) ?_
   rintro vw34 w34 ⟨bd5, vs5, vz5, sh5, ds5, e5, rfl, hs, hsh5, hds5, hD5⟩
   obtain rfl := hD5.unshown hFl (not_all hFl (fun x hx e => by
     rcases hin2 x hx with h | ⟨h, _⟩ | ⟨_, h⟩
     · simp at h
     · rw [e.1] at h; revert h; decide
     · rw [e.2] at h; omega))
   refine ⟨trivial, ?_⟩
   replace hF := hF.st hs
   replace hT := hT.t hs; replace hl := hl.t hs
   replace hd := hd.st hs (by first | decide | (simp <;> omega)) (by first | decide | (simp <;> omega))
   replace ha := ha.t hs; replace hq := hq.t hs; replace bw := bw.t hs; replace bt := bt.t hs; replace hf := hf.t hs; replace bc := bc.t hs; replace hv1 := hv1.t hs; replace hv2 := hv2.t hs; replace b1 := b1.t hs; replace b2 := b2.t hs; replace bx := bx.t hs; replace hsh1 := hsh1.t hs; replace hds1 := hds1.t hs; replace hsh2 := hsh2.t hs; replace hds2 := hds2.t hs; replace hnow2 := hnow2.t hs; replace hsh3 := hsh3.t hs; replace hds3 := hds3.t hs; replace hsh4 := hsh4.t hs; replace hds4 := hds4.t hs
   refine yM 115 122 ?_
   refine yV (kq 123 (.extract (.tmp 115) 0)) (fun _ => val_extract rfl rfl) ?_
   refine yV (kq 124 (.extract (.tmp 115) 1)) (fun _ => val_extract rfl rfl) ?_
   refine aS (kq 22 (.alloc 26)) rfl rfl (a_alloc (cs := [.int .i64 0, .slice none 0 0, .slice none 0 0]) hF 8 (by kernel_rfl)) ?_
   rintro _ w35 ⟨Cw35, bw35, rfl, hs, bq3, hF⟩
   refine ⟨trivial, ?_⟩
   replace hT := hT.t hs; replace hl := hl.t hs
   replace hd := hd.st hs (by first | decide | (simp <;> omega)) (by first | decide | (simp <;> omega))
   replace ha := ha.t hs; replace hq := hq.t hs; replace bw := bw.t hs; replace bt := bt.t hs; replace hf := hf.t hs; replace bc := bc.t hs; replace hv1 := hv1.t hs; replace hv2 := hv2.t hs; replace b1 := b1.t hs; replace b2 := b2.t hs; replace bx := bx.t hs; replace hsh1 := hsh1.t hs; replace hds1 := hds1.t hs; replace hsh2 := hsh2.t hs; replace hds2 := hds2.t hs; replace hnow2 := hnow2.t hs; replace hsh3 := hsh3.t hs; replace hds3 := hds3.t hs; replace hsh4 := hsh4.t hs; replace hds4 := hds4.t hs; replace hsh5 := hsh5.t hs; replace hds5 := hds5.t hs
   refine aN (k0 (.store 26 (.tmp 22) (.tmp 123))) rfl (a_storeAll (vs := [.int .i64 bd5, vs5, vz5]) (n := 3) rfl rfl (by kernel_rfl) rfl rfl (by intro u hu; simp only [List.mem_cons, List.not_mem_nil, or_false] at hu; rcases hu with rfl | rfl | rfl <;> first | rfl | exact (hsh5.one rfl).2 | exact (hds5.one rfl).2) bq3 rfl) ?_
   rintro _ w36 ⟨rfl, hs, bq3⟩
   refine ⟨trivial, ?_⟩
   replace hF := hF.st hs
   replace hT := hT.t hs; replace hl := hl.t hs
   replace hd := hd.st hs (by first | decide | (simp <;> omega)) (by first | decide | (simp <;> omega))
   replace ha := ha.t hs; replace hq := hq.t hs; replace bw := bw.t hs; replace bt := bt.t hs; replace hf := hf.t hs; replace bc := bc.t hs; replace hv1 := hv1.t hs; replace hv2 := hv2.t hs; replace b1 := b1.t hs; replace b2 := b2.t hs; replace bx := bx.t hs; replace hsh1 := hsh1.t hs; replace hds1 := hds1.t hs; replace hsh2 := hsh2.t hs; replace hds2 := hds2.t hs; replace hnow2 := hnow2.t hs; replace hsh3 := hsh3.t hs; replace hds3 := hds3.t hs; replace hsh4 := hsh4.t hs; replace hds4 := hds4.t hs; replace hsh5 := hsh5.t hs; replace hds5 := hds5.t hs
   refine yA 23 124 ?_
   refine Sch.nil ?_
   refine run_sq ?_
   refine run_pl [nn 0, nn 1, nn 2, nn 3, nn 4, nn 5, nn 6, yy 7, yy 8, yy 9, yy 10, nn 11, yy 12, yy 13] ?_
   refine nS (kq 126 (.load 26 (.tmp 13))) rfl rfl trivial (val_loadOwnAgg (n := 3) (vs := [.int .i64 bd3, vs3, vz3]) bx.at_ (by kernel_rfl) (by kernel_rfl) rfl rfl rfl) ?_
   refine nS (kq 127 (.load 28 (.tmp 5))) rfl rfl trivial (val_loadOwnAgg (n := 3) (vs := [.int .i64 pr, va, vd]) bw.at_ (by kernel_rfl) (by kernel_rfl) rfl rfl rfl) ?_
   refine nS (kq 128 (.load 30 (.tmp 6))) rfl rfl trivial (val_loadOwnAgg (n := 2) (vs := [.int .i64 lo, .int .i64 hh]) bt.at_ (by kernel_rfl) (by kernel_rfl) rfl rfl rfl) ?_
   refine nS (kq 129 (.load 34 (.tmp 10))) rfl rfl trivial (val_loadOwnAgg (n := 6) (vs := [.int .i64 0, .int .i64 1, .int .i64 1, .int .i64 2, .int .i64 p, .int .i64 0]) bc.at_ (by kernel_rfl) (by kernel_rfl) rfl rfl rfl) ?_
   refine nS (kq 130 (.load 37 (.tmp 11))) rfl rfl trivial (val_loadOwnAgg (n := 3) (vs := [.int .i64 1, .int .i64 ver1, vv1]) b1.at_ (by kernel_rfl) (by kernel_rfl) rfl rfl rfl) ?_
   refine nS (kq 131 (.load 37 (.tmp 12))) rfl rfl trivial (val_loadOwnAgg (n := 3) (vs := [.int .i64 2, .int .i64 (ver2 + 1), vv2]) b2.at_ (by kernel_rfl) (by kernel_rfl) rfl rfl rfl) ?_
   refine cS (kq 132 (.call { callee := .value (.func 29), args := #[(.tmp 126), (.tmp 127), (.tmp 128), (.tmp 129), (.tmp 130), (.tmp 131)], argTypes := #[26, 28, 30, 34, 37, 37] })) rfl rfl (ent Tryz.call29 rfl) (ask_ok (A := ⟨0, 1⟩) (B := ⟨1, 2⟩) (id1 := 1) (id2 := 2) (sh := sh3) (ds := [(⟨⟨0, 1⟩, ⟨1, 2⟩, ver1, ver2, true⟩ : Dcs)]) hF hR3 hsh3 hds3 hW ha hq hK hpp hAB rfl rfl hQ1 hv1 hQ3 hv2 (by omega)) ?_
   rintro vw37 w37 ⟨bd6, vs6, vz6, vn6, sh6, ds6, now6, e6, rfl, hs, hsh6, hds6, hnow6, hA6, hde6⟩
   obtain ⟨rfl, hbl6⟩ := hA6.fits2 hFl (mis27 (by omega) vs91) (mis27 (by omega) vs92) (by omega)
   obtain rfl := hde6 rfl
   obtain ⟨hR6, hln6, hnl6, _, ⟨flx, hFx, hAll6⟩, _, hin6⟩ := hA6.law hR3 hAB hW hQ1 hQ3 (by omega)
   obtain ⟨rfl, _⟩ := hFl.uniq hFx
   refine ⟨trivial, ?_⟩
   replace hF := hF.st hs
   replace hT := hT.t hs; replace hl := hl.t hs
   replace hd := hd.st hs (by first | decide | (simp <;> omega)) (by first | decide | (simp <;> omega))
   replace ha := ha.t hs; replace hq := hq.t hs; replace bw := bw.t hs; replace bt := bt.t hs; replace hf := hf.t hs; replace bc := bc.t hs; replace hv1 := hv1.t hs; replace hv2 := hv2.t hs; replace b1 := b1.t hs; replace b2 := b2.t hs; replace bx := bx.t hs; replace hsh1 := hsh1.t hs; replace hds1 := hds1.t hs; replace hsh2 := hsh2.t hs; replace hds2 := hds2.t hs; replace hnow2 := hnow2.t hs; replace hsh3 := hsh3.t hs; replace hds3 := hds3.t hs; replace hsh4 := hsh4.t hs; replace hds4 := hds4.t hs; replace hsh5 := hsh5.t hs; replace hds5 := hds5.t hs
   refine yM 125 132 ?_
   refine yV (kq 133 (.extract (.tmp 125) 0)) (fun _ => val_extract rfl rfl) ?_
   refine yV (kq 134 (.extract (.tmp 125) 1)) (fun _ => val_extract rfl rfl) ?_
   refine yV (kq 135 (.extract (.tmp 125) 2)) (fun _ => val_extract rfl rfl) ?_
   refine aN (k0 (.store 26 (.tmp 13) (.tmp 133))) rfl (a_storeAll (vs := [.int .i64 bd6, vs6, vz6]) (n := 3) rfl rfl (by kernel_rfl) rfl rfl (by intro u hu; simp only [List.mem_cons, List.not_mem_nil, or_false] at hu; rcases hu with rfl | rfl | rfl <;> first | rfl | exact (hsh6.one rfl).2 | exact (hds6.one rfl).2) bx rfl) ?_
   rintro _ w38 ⟨rfl, hs, bx⟩
   refine ⟨trivial, ?_⟩
   replace hF := hF.st hs
   replace hT := hT.t hs; replace hl := hl.t hs
   replace hd := hd.st hs (by first | decide | (simp <;> omega)) (by first | decide | (simp <;> omega))
   replace ha := ha.t hs; replace hq := hq.t hs; replace bw := bw.t hs; replace bt := bt.t hs; replace hf := hf.t hs; replace bc := bc.t hs; replace hv1 := hv1.t hs; replace hv2 := hv2.t hs; replace b1 := b1.t hs; replace b2 := b2.t hs; replace hsh1 := hsh1.t hs; replace hds1 := hds1.t hs; replace hsh2 := hsh2.t hs; replace hds2 := hds2.t hs; replace hnow2 := hnow2.t hs; replace hsh3 := hsh3.t hs; replace hds3 := hds3.t hs; replace hsh4 := hsh4.t hs; replace hds4 := hds4.t hs; replace hsh5 := hsh5.t hs; replace hds5 := hds5.t hs; replace hsh6 := hsh6.t hs; replace hds6 := hds6.t hs; replace hnow6 := hnow6.t hs
   refine yA 24 134 ?_
   refine yA 25 135 ?_
   refine Sch.nil ?_
   refine run_sq ?_
   refine run_pl [nn 0, nn 1, nn 2, nn 3, nn 4, nn 5, nn 6, yy 7, yy 8, yy 9, nn 10, yy 11] ?_
   refine nS (kq 137 (.load 26 (.tmp 13))) rfl rfl trivial (val_loadOwnAgg (n := 3) (vs := [.int .i64 bd6, vs6, vz6]) bx.at_ (by kernel_rfl) (by kernel_rfl) rfl rfl rfl) ?_
   refine nS (kq 138 (.load 28 (.tmp 5))) rfl rfl trivial (val_loadOwnAgg (n := 3) (vs := [.int .i64 pr, va, vd]) bw.at_ (by kernel_rfl) (by kernel_rfl) rfl rfl rfl) ?_
   refine nS (kq 139 (.load 30 (.tmp 6))) rfl rfl trivial (val_loadOwnAgg (n := 2) (vs := [.int .i64 lo, .int .i64 hh]) bt.at_ (by kernel_rfl) (by kernel_rfl) rfl rfl rfl) ?_
   refine nS (kq 140 (.load 34 (.tmp 10))) rfl rfl trivial (val_loadOwnAgg (n := 6) (vs := [.int .i64 0, .int .i64 1, .int .i64 1, .int .i64 2, .int .i64 p, .int .i64 0]) bc.at_ (by kernel_rfl) (by kernel_rfl) rfl rfl rfl) ?_
   refine nS (kq 141 (.load 37 (.tmp 11))) rfl rfl trivial (val_loadOwnAgg (n := 3) (vs := [.int .i64 1, .int .i64 ver1, vv1]) b1.at_ (by kernel_rfl) (by kernel_rfl) rfl rfl rfl) ?_
   refine nS (kq 142 (.load 37 (.tmp 12))) rfl rfl trivial (val_loadOwnAgg (n := 3) (vs := [.int .i64 2, .int .i64 (ver2 + 1), vv2]) b2.at_ (by kernel_rfl) (by kernel_rfl) rfl rfl rfl) ?_
   refine cS (kq 143 (.call { callee := .value (.func 31), args := #[(.tmp 137), (.tmp 138), (.tmp 139), (.tmp 140), (.tmp 141), (.tmp 142), (.const (.bool false))], argTypes := #[26, 28, 30, 34, 37, 37, 4] })) rfl rfl (ent Tryz.call31 rfl) (decide_ok (A := ⟨0, 1⟩) (B := ⟨1, 2⟩) (id1 := 1) (id2 := 2) (sh := sh6) (ds := [(⟨⟨0, 1⟩, ⟨1, 2⟩, ver1, ver2, true⟩ : Dcs)]) hF hR6 hsh6 hds6 hW ha hq hK hpp hAB rfl rfl hQ1 hv1 hQ3 hv2 (fun k h => by
  obtain rfl : k = 0 := by simp only [List.length_cons, List.length_nil] at h; omega
  exact Int.le_of_lt (cmpD_ver rfl rfl rfl (show ver2 < ver2 + 1 by omega)))) ?_
   rintro vw39 w39 ⟨bd7, vs7, vz7, sh7, ds7, e7, rfl, hs, hsh7, hds7, hD7⟩
   obtain ⟨rfl, rfl, rfl, rfl⟩ := hD7.added (ds := [(⟨⟨0, 1⟩, ⟨1, 2⟩, ver1, ver2, true⟩ : Dcs)]) hFl hAll6 (fun k h => by
     obtain rfl : k = 0 := by simp only [List.length_cons, List.length_nil] at h; omega
     exact cmpD_ver rfl rfl rfl (show ver2 < ver2 + 1 by omega)) (show 1 < 4096 by decide)
   replace hds7 : RV _ _ ([(⟨⟨0, 1⟩, ⟨1, 2⟩, ver1, ver2, true⟩ : Dcs), (⟨⟨0, 1⟩, ⟨1, 2⟩, ver1, ver2 + 1, false⟩ : Dcs)] : List Dcs) vz7 := hds7
   refine ⟨trivial, ?_⟩
   replace hF := hF.st hs
   replace hT := hT.t hs; replace hl := hl.t hs
   replace hd := hd.st hs (by first | decide | (simp <;> omega)) (by first | decide | (simp <;> omega))
   replace ha := ha.t hs; replace hq := hq.t hs; replace bw := bw.t hs; replace bt := bt.t hs; replace hf := hf.t hs; replace bc := bc.t hs; replace hv1 := hv1.t hs; replace hv2 := hv2.t hs; replace b1 := b1.t hs; replace b2 := b2.t hs; replace bx := bx.t hs; replace hsh1 := hsh1.t hs; replace hds1 := hds1.t hs; replace hsh2 := hsh2.t hs; replace hds2 := hds2.t hs; replace hnow2 := hnow2.t hs; replace hsh3 := hsh3.t hs; replace hds3 := hds3.t hs; replace hsh4 := hsh4.t hs; replace hds4 := hds4.t hs; replace hsh5 := hsh5.t hs; replace hds5 := hds5.t hs; replace hsh6 := hsh6.t hs; replace hds6 := hds6.t hs; replace hnow6 := hnow6.t hs
   refine yM 136 143 ?_
   refine yV (kq 144 (.extract (.tmp 136) 0)) (fun _ => val_extract rfl rfl) ?_
   refine yV (kq 145 (.extract (.tmp 136) 1)) (fun _ => val_extract rfl rfl) ?_
   refine aN (k0 (.store 26 (.tmp 13) (.tmp 144))) rfl (a_storeAll (vs := [.int .i64 bd7, vs7, vz7]) (n := 3) rfl rfl (by kernel_rfl) rfl rfl (by intro u hu; simp only [List.mem_cons, List.not_mem_nil, or_false] at hu; rcases hu with rfl | rfl | rfl <;> first | rfl | exact (hsh7.one rfl).2 | exact (hds7.one rfl).2) bx rfl) ?_
   rintro _ w40 ⟨rfl, hs, bx⟩
   refine ⟨trivial, ?_⟩
   replace hF := hF.st hs
   replace hT := hT.t hs; replace hl := hl.t hs
   replace hd := hd.st hs (by first | decide | (simp <;> omega)) (by first | decide | (simp <;> omega))
   replace ha := ha.t hs; replace hq := hq.t hs; replace bw := bw.t hs; replace bt := bt.t hs; replace hf := hf.t hs; replace bc := bc.t hs; replace hv1 := hv1.t hs; replace hv2 := hv2.t hs; replace b1 := b1.t hs; replace b2 := b2.t hs; replace hsh1 := hsh1.t hs; replace hds1 := hds1.t hs; replace hsh2 := hsh2.t hs; replace hds2 := hds2.t hs; replace hnow2 := hnow2.t hs; replace hsh3 := hsh3.t hs; replace hds3 := hds3.t hs; replace hsh4 := hsh4.t hs; replace hds4 := hds4.t hs; replace hsh5 := hsh5.t hs; replace hds5 := hds5.t hs; replace hsh6 := hsh6.t hs; replace hds6 := hds6.t hs; replace hnow6 := hnow6.t hs; replace hsh7 := hsh7.t hs; replace hds7 := hds7.t hs
   refine yA 26 145 ?_
   refine Sch.nil ?_
   refine run_sq ?_
   refine run_pl [yy 0, yy 1, yy 2, yy 3, yy 4, yy 5, yy 6, yy 7, yy 8, yy 9, yy 10, yy 11, yy 12, yy 13, yy 14, yy 15, yy 16, yy 17, yy 18, yy 19, yy 20, yy 21, yy 22, yy 23, yy 24, yy 25, yy 26, yy 27, yy 28, yy 29, yy 30, yy 31, nn 32, yy 33, yy 34, yy 35, yy 36, yy 37, nn 38, yy 39, yy 40, nn 41, yy 42, yy 43, yy 44, nn 45, yy 46, yy 47, nn 48, yy 49, yy 50, yy 51] ?_
   have eld : ([(⟨⟨0, 1⟩, ⟨1, 2⟩, ver1, ver2, true⟩ : Dcs), (⟨⟨0, 1⟩, ⟨1, 2⟩, ver1, ver2 + 1, false⟩ : Dcs)] : List Dcs).length = 2 := rfl
   refine yM 146 14 ?_
   refine yV (kq 147 (.binOp .eql 52 (.tmp 146) (.const (.int .i64 0)) 52)) (fun _ => val_is (val_eql rfl rfl) (show _ = Value.bool true from congrArg Value.bool (decide_eq_true (by rfl)))) ?_
   refine yM 148 147 ?_
   refine yMg 149 16 2 true ?_
   refine yV (kg 150 (.binOp .eql 52 (.tmp 149) (.const (.int .i64 50)) 52) 2 true) (fun _ => val_is (val_eql rfl rfl) (show _ = Value.bool true from congrArg Value.bool (decide_eq_true (by rfl)))) ?_
   refine yAt 151 148 150 ?_
   refine yM 152 151 ?_
   refine yMg 153 18 6 true ?_
   refine yV (kg 154 (.binOp .eql 52 (.tmp 153) (.const (.int .i64 0)) 52) 6 true) (fun _ => val_is (val_eql rfl rfl) (show _ = Value.bool true from congrArg Value.bool (decide_eq_true (by rfl)))) ?_
   refine yAt 155 152 154 ?_
   refine yM 156 155 ?_
   refine yMg 157 19 10 true ?_
   refine yV (kg 158 (.binOp .eql 52 (.tmp 157) (.const (.int .i64 0)) 52) 10 true) (fun _ => val_is (val_eql rfl rfl) (show _ = Value.bool true from congrArg Value.bool (decide_eq_true (by rfl)))) ?_
   refine yAt 159 156 158 ?_
   refine yM 160 159 ?_
   refine yMg 161 21 14 true ?_
   refine yV (kg 162 (.binOp .eql 52 (.tmp 161) (.const (.int .i64 42)) 52) 14 true) (fun _ => val_is (val_eql rfl rfl) (show _ = Value.bool true from congrArg Value.bool (decide_eq_true (by rfl)))) ?_
   refine yAt 163 160 162 ?_
   refine yM 164 163 ?_
   refine yMg 165 23 18 true ?_
   refine yV (kg 166 (.binOp .eql 52 (.tmp 165) (.const (.int .i64 50)) 52) 18 true) (fun _ => val_is (val_eql rfl rfl) (show _ = Value.bool true from congrArg Value.bool (decide_eq_true (by rfl)))) ?_
   refine yAt 167 164 166 ?_
   refine yM 168 167 ?_
   refine yMg 169 25 22 true ?_
   refine yV (kg 170 (.binOp .eql 52 (.tmp 169) (.const (.int .i64 0)) 52) 22 true) (fun _ => val_is (val_eql rfl rfl) (show _ = Value.bool true from congrArg Value.bool (decide_eq_true (by rfl)))) ?_
   refine yAt 171 168 170 ?_
   refine yM 172 171 ?_
   refine yMg 173 26 26 true ?_
   refine yV (kg 174 (.binOp .eql 52 (.tmp 173) (.const (.int .i64 0)) 52) 26 true) (fun _ => val_is (val_eql rfl rfl) (show _ = Value.bool true from congrArg Value.bool (decide_eq_true (by rfl)))) ?_
   refine yAt 175 172 174 ?_
   refine yM 176 175 ?_
   refine yFg 177 26 13 2 2 30 true ?_
   refine nS (kg 178 (.load 24 (.tmp 177)) 30 true) rfl rfl trivial (val_loadOwn bx.at_ (by kernel_rfl) rfl rfl) ?_
   refine yS (kg 179 (.call { callee := .builtin .len, args := #[(.tmp 178)], argTypes := #[24] }) 30 true) rfl rfl (fun w' hS => hds7.lenV rfl Tryz.underlying24 w' ) ?_
   refine yV (kg 180 (.binOp .eql 3 (.tmp 179) (.const (.int .i64 2)) 3) 30 true) (fun _ => val_is (val_eql rfl rfl) (show _ = Value.bool true from congrArg Value.bool (decide_eq_true (by omega)))) ?_
   refine yAt 181 176 180 ?_
   refine yM 182 181 ?_
   refine yFg 183 26 13 2 2 36 true ?_
   refine nS (kg 184 (.load 24 (.tmp 183)) 36 true) rfl rfl trivial (val_loadOwn bx.at_ (by kernel_rfl) rfl rfl) ?_
   refine iS (e := 75) (kg 185 (.indexAddr 24 (.tmp 184) (.const (.int .i64 0))) 36 true) rfl rfl hds7 rfl (by kernel_rfl) rfl (by omega) (by omega) ?_
   intro b185 o185 h185
   try simp only [Int.toNat_natCast] at h185
   have h186 := RA.dsame h185
   refine yFg 186 75 185 4 6 36 true ?_
   obtain ⟨q1, hq1⟩ : ∃ d : Bool, d = true := ⟨_, rfl⟩
   replace h186 := h186.cast (y := q1) (hq1.trans rfl)
   refine lN (kg 187 (.load 4 (.tmp 186)) 36 true) rfl rfl trivial h186 (by kernel_rfl) rfl rfl ?_
   intro v187 g187
   obtain rfl := rv_bool.1 g187
   rw [hq1]
   refine yAt 188 182 187 ?_
   refine yM 189 188 ?_
   refine yFg 190 26 13 2 2 43 true ?_
   refine nS (kg 191 (.load 24 (.tmp 190)) 43 true) rfl rfl trivial (val_loadOwn bx.at_ (by kernel_rfl) rfl rfl) ?_
   refine iS (e := 75) (kg 192 (.indexAddr 24 (.tmp 191) (.const (.int .i64 1))) 43 true) rfl rfl hds7 rfl (by kernel_rfl) rfl (by omega) (by omega) ?_
   intro b192 o192 h192
   try simp only [Int.toNat_natCast] at h192
   have h193 := RA.dsame h192
   refine yFg 193 75 192 4 6 43 true ?_
   obtain ⟨q2, hq2⟩ : ∃ d : Bool, d = false := ⟨_, rfl⟩
   replace h193 := h193.cast (y := q2) (hq2.trans rfl)
   refine lN (kg 194 (.load 4 (.tmp 193)) 43 true) rfl rfl trivial h193 (by kernel_rfl) rfl rfl ?_
   intro v194 g194
   obtain rfl := rv_bool.1 g194
   rw [hq2]
   refine yV (kg 195 (.unOp .not 4 (.tmp 194)) 43 true) (fun _ => val_not rfl) ?_
   refine yAt 196 189 195 ?_
   refine yA 2 196 ?_
   refine Sch.nil ?_
   refine run_ret1 (by kernel_rfl) Tryz.func6 Tryz.results6 rfl ?_
   exact ⟨rfl, hT.out1 (by decide)⟩
namespace F6B
noncomputable def c0 := bodyOf Tryz.f6
noncomputable def c7 := (cl (cl (cr (cl (cr c0)))))
noncomputable def c15 := (cl (cr (cr (cr (cr c0)))))
noncomputable def c16 := (cr (cr (cr (cr (cr c0)))))
noncomputable def c23 := (cl (cl (cr (cr (cl c16)))))
noncomputable def c33 := (cl (cr (cr (cr (cr c16)))))
noncomputable def c34 := (cr (cr (cr (cr (cr c16)))))
noncomputable def c43 := (cl (cr (cr (cr (cr c34)))))
noncomputable def c44 := (cr (cr (cr (cr (cr c34)))))
end F6B
/-- .. where more is handed than it looks at. -/
theorem reviewOnce_big {w₀ : World} {C : Nat → Nat} {p : Option Addr} {n c : Nat} (hF : Lim w₀ C) (hn : 400 < n) : Calls Tryz.prog 6 #[.slice p n c] w₀ (Ret fun v w' => v = .bool true ∧ Stp [] w₀ C w' C) := by
 have hF0 := hF
 have hT := Stp.refl [2, 3, 4, 5, 6, 7, 8, 9] w₀ (col1 C)
 replace hF := hF.col1
 refine calls_start (c := F6B.c0) (N := 197) [.slice p n c] Tryz.func6 (by kernel_rfl) (by kernel_rfl) (by kernel_rfl) ?_
 show Run _ _ _ _ [(0, .slice p n c)] _ _
 refine run_sq ?_
 refine run_pl [yy 0] ?_
 refine yAc 2 (.bool false) ?_
 refine Sch.nil ?_
 refine run_sq ?_
 refine run_sq ?_
 refine run_pl [nn 0, yy 1, yy 2, yy 3, nn 4, yy 5, yy 6] ?_
 refine cS (kq 27 (.call { callee := .value (.func 8), args := #[], argTypes := #[] })) rfl rfl (ent Tryz.call8 rfl) (awake_ok hF) ?_
 rintro vw1 w1 ⟨rfl, hs⟩
 refine ⟨trivial, ?_⟩
 replace hF := hF.st hs
 replace hT := hT.t hs
 refine yV (kq 28 (.unOp .not 4 (.tmp 27))) (fun _ => val_not rfl) ?_
 refine yM 29 28 ?_
 refine yMg 30 0 2 false ?_
 refine cS (kg 31 (.call { callee := .value (.func 9), args := #[(.tmp 30)], argTypes := #[22] }) 2 false) rfl rfl (ent Tryz.call9 rfl) (few_ok _ _ _ _) ?_
 rintro vw2 w2 ⟨rfl, rfl⟩
 refine ⟨trivial, ?_⟩
 rw [decide_eq_false (show ¬ (n : Int) ≤ 400 by omega)]
 refine yV (kg 32 (.unOp .not 4 (.tmp 31)) 2 false) (fun _ => val_not rfl) ?_
 refine yOf 33 29 32 ?_
 refine Sch.nil ?_
 refine run_cT 33 ?_
 refine run_sq ?_
 refine run_pl [nn 0, yy 1] ?_
 refine cS (kq 34 (.call { callee := .value (.func 8), args := #[], argTypes := #[] })) rfl rfl (ent Tryz.call8 rfl) (awake_ok hF) ?_
 rintro vw3 w3 ⟨rfl, hs⟩
 refine ⟨trivial, ?_⟩
 replace hF := hF.st hs
 replace hT := hT.t hs
 refine yA 2 34 ?_
 refine Sch.nil ?_
 refine run_ret1 (by kernel_rfl) Tryz.func6 Tryz.results6 rfl ?_
 exact ⟨rfl, hT.out1 (by decide)⟩
end Go.Proofs.YtionghonhnedgaaGreat
