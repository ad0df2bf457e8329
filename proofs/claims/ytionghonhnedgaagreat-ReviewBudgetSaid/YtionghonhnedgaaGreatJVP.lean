/- Steps through functions of the program. -/
import Derived.Test.YtionghonhnedgaaGreatJVO
import Derived.Test.YtionghonhnedgaaGreatL2
set_option linter.unusedVariables false
set_option linter.unusedSimpArgs false
set_option maxRecDepth 100000
set_option maxHeartbeats 4000000
namespace Go.Proofs.YtionghonhnedgaaGreat
open Go.K Go.K.Rep

namespace F8
noncomputable def c0 := bodyOf Tryz.f8
noncomputable def c9 := (cl (cr (cr (cr (cr c0)))))
noncomputable def c10 := (cr (cr (cr (cr (cr c0)))))
noncomputable def c19 := (cl (cr (cr (cr (cr c10)))))
noncomputable def c20 := (cr (cr (cr (cr (cr c10)))))
end F8
/-- The sanity check. -/
theorem awake_ok {w₀ : World} {C : Nat → Nat} (hF : Lim w₀ C) : Calls Tryz.prog 8 #[] w₀ (Ret fun v w' => v = .bool true ∧ Stp [] w₀ C w' C) := by
 have hF0 := hF
 have hT := Stp.refl [2, 3, 4, 5, 6, 7, 8, 9] w₀ (col1 C)
 replace hF := hF.col1
 refine calls_start (c := F8.c0) (N := 124) [] Tryz.func8 (by kernel_rfl) (by kernel_rfl) (by kernel_rfl) ?_
 show Run _ _ _ _ [] _ _
 refine run_sq ?_
 refine run_pl [yy 0] ?_
 refine yAc 0 (.bool false) ?_
 refine Sch.nil ?_
 refine run_sq ?_
 refine run_pl [nn 0, nn 1, yy 2, nn 3, nn 4] ?_
 refine aS (kq 15 (.buildSlice 22 2 #[(0, (.const (.int .i64 20))), (1, (.const (.int .i64 30)))])) rfl rfl (a_buildSlice (ys := ([20, 30] : List Int)) (e := 3) (bytes := 8) hF (by kernel_rfl) rfl (by decide) (by decide) ⟨rfl, ⟨_, rfl, rv_int.2 rfl⟩, rfl, ⟨_, rfl, rv_int.2 rfl⟩, trivial⟩) ?_
 rintro v15 w1 ⟨hs, ha, hF⟩
 refine ⟨trivial, ?_⟩
 replace hT := hT.t hs
 refine aS (kq 16 (.buildSlice 22 2 #[(0, (.const (.int .i64 0))), (1, (.const (.int .i64 0)))])) rfl rfl (a_buildSlice (ys := ([0, 0] : List Int)) (e := 3) (bytes := 8) hF (by kernel_rfl) rfl (by decide) (by decide) ⟨rfl, ⟨_, rfl, rv_int.2 rfl⟩, rfl, ⟨_, rfl, rv_int.2 rfl⟩, trivial⟩) ?_
 rintro v16 w2 ⟨hs, hq, hF⟩
 refine ⟨trivial, ?_⟩
 replace hT := hT.t hs; replace ha := ha.t hs
 refine yV (kq 17 (.build 28 #[(1, (.tmp 15)), (2, (.tmp 16))])) (fun _ => val_build (zs := [.int .i64 0, .slice none 0 0, .slice none 0 0]) (ps := [(0, 1), (1, 1), (2, 1)]) (qs := [(1, [v15]), (2, [v16])]) (cs := [.int .i64 0, v15, v16]) (by kernel_rfl) (by kernel_rfl) (by exact ⟨rfl, ⟨_, rfl, (ha.one rfl).1⟩, rfl, ⟨_, rfl, (hq.one rfl).1⟩, trivial⟩) rfl) ?_
 refine aS (kq 1 (.alloc 28)) rfl rfl (a_alloc (cs := [.int .i64 0, .slice none 0 0, .slice none 0 0]) hF 3 (by kernel_rfl)) ?_
 rintro _ w3 ⟨Cw3, bw3, rfl, hs, bw, hF⟩
 refine ⟨trivial, ?_⟩
 replace hT := hT.t hs; replace ha := ha.t hs; replace hq := hq.t hs
 refine aN (k0 (.store 28 (.tmp 1) (.tmp 17))) rfl (a_storeAll (vs := [.int .i64 0, v15, v16]) (n := 3) rfl rfl (by kernel_rfl) rfl rfl (by intro u hu; simp only [List.mem_cons, List.not_mem_nil, or_false] at hu; rcases hu with rfl | rfl | rfl <;> first | rfl | exact (ha.one rfl).2 | exact (hq.one rfl).2) bw rfl) ?_
 rintro _ w4 ⟨rfl, hs, bw⟩
 refine ⟨trivial, ?_⟩
 replace hF := hF.st hs
 replace hT := hT.t hs; replace ha := ha.t hs; replace hq := hq.t hs
 refine Sch.nil ?_
 refine run_sq ?_
 refine run_pl [yy 0, nn 1, nn 2] ?_
 refine yV (kq 18 (.build 30 #[(0, (.const (.int .i64 0))), (1, (.const (.int .i64 25)))])) (fun _ => val_build (zs := [.int .i64 0, .int .i64 0]) (ps := [(0, 1), (1, 1)]) (qs := [(0, [.int .i64 0]), (1, [.int .i64 25])]) (cs := [.int .i64 0, .int .i64 25]) (by kernel_rfl) (by kernel_rfl) (by exact ⟨rfl, ⟨_, rfl, rfl⟩, rfl, ⟨_, rfl, rfl⟩, trivial⟩) rfl) ?_
 refine aS (kq 2 (.alloc 30)) rfl rfl (a_alloc (cs := [.int .i64 0, .int .i64 0]) hF 4 (by kernel_rfl)) ?_
 rintro _ w5 ⟨Cw5, bw5, rfl, hs, bt, hF⟩
 refine ⟨trivial, ?_⟩
 replace hT := hT.t hs; replace ha := ha.t hs; replace hq := hq.t hs; replace bw := bw.t hs
 refine aN (k0 (.store 30 (.tmp 2) (.tmp 18))) rfl (a_storeAll (vs := [.int .i64 0, .int .i64 25]) (n := 2) rfl rfl (by kernel_rfl) rfl rfl (by intro u hu; simp only [List.mem_cons, List.not_mem_nil, or_false] at hu; rcases hu with rfl | rfl <;> first | rfl) bt rfl) ?_
 rintro _ w6 ⟨rfl, hs, bt⟩
 refine ⟨trivial, ?_⟩
 replace hF := hF.st hs
 replace hT := hT.t hs; replace ha := ha.t hs; replace hq := hq.t hs; replace bw := bw.t hs
 refine Sch.nil ?_
 refine run_sq ?_
 refine run_pl [yy 0, yy 1, yy 2, nn 3, nn 4] ?_
 refine yV (kq 19 (.build 32 #[(1, (.const (.int .i64 1)))])) (fun _ => val_build (zs := [.int .i64 0, .int .i64 0]) (ps := [(0, 1), (1, 1)]) (qs := [(1, [.int .i64 1])]) (cs := [.int .i64 0, .int .i64 1]) (by kernel_rfl) (by kernel_rfl) (by exact ⟨rfl, ⟨_, rfl, rfl⟩, trivial⟩) rfl) ?_
 refine yV (kq 20 (.build 32 #[(0, (.const (.int .i64 1))), (1, (.const (.int .i64 2)))])) (fun _ => val_build (zs := [.int .i64 0, .int .i64 0]) (ps := [(0, 1), (1, 1)]) (qs := [(0, [.int .i64 1]), (1, [.int .i64 2])]) (cs := [.int .i64 1, .int .i64 2]) (by kernel_rfl) (by kernel_rfl) (by exact ⟨rfl, ⟨_, rfl, rfl⟩, rfl, ⟨_, rfl, rfl⟩, trivial⟩) rfl) ?_
 refine yV (kq 21 (.build 34 #[(0, (.tmp 19)), (1, (.tmp 20)), (2, (.const (.int .i64 4)))])) (fun _ => val_build (zs := [.int .i64 0, .int .i64 0, .int .i64 0, .int .i64 0, .int .i64 0, .int .i64 0]) (ps := [(0, 2), (2, 2), (4, 1), (5, 1)]) (qs := [(0, [.int .i64 0, .int .i64 1]), (1, [.int .i64 1, .int .i64 2]), (2, [.int .i64 4])]) (cs := [.int .i64 0, .int .i64 1, .int .i64 1, .int .i64 2, .int .i64 4, .int .i64 0]) (by kernel_rfl) (by kernel_rfl) (by exact ⟨rfl, ⟨_, rfl, rfl⟩, rfl, ⟨_, rfl, rfl⟩, rfl, ⟨_, rfl, rfl⟩, trivial⟩) rfl) ?_
 refine aS (kq 3 (.alloc 34)) rfl rfl (a_alloc (cs := [.int .i64 0, .int .i64 0, .int .i64 0, .int .i64 0, .int .i64 0, .int .i64 0]) hF 9 (by kernel_rfl)) ?_
 rintro _ w7 ⟨Cw7, bw7, rfl, hs, bc, hF⟩
 refine ⟨trivial, ?_⟩
 replace hT := hT.t hs; replace ha := ha.t hs; replace hq := hq.t hs; replace bw := bw.t hs; replace bt := bt.t hs
 refine aN (k0 (.store 34 (.tmp 3) (.tmp 21))) rfl (a_storeAll (vs := [.int .i64 0, .int .i64 1, .int .i64 1, .int .i64 2, .int .i64 4, .int .i64 0]) (n := 6) rfl rfl (by kernel_rfl) rfl rfl (by intro u hu; simp only [List.mem_cons, List.not_mem_nil, or_false] at hu; rcases hu with rfl | rfl | rfl | rfl | rfl | rfl <;> first | rfl) bc rfl) ?_
 rintro _ w8 ⟨rfl, hs, bc⟩
 refine ⟨trivial, ?_⟩
 replace hF := hF.st hs
 replace hT := hT.t hs; replace ha := ha.t hs; replace hq := hq.t hs; replace bw := bw.t hs; replace bt := bt.t hs
 refine Sch.nil ?_
 refine run_sq ?_
 refine run_pl [nn 0, yy 1, nn 2, yy 3, nn 4, nn 5, nn 6, nn 7] ?_
 refine aS (kq 22 (.buildSlice 35 2 #[(0, (.const (.string ⟨#[120]⟩))), (1, (.const (.string ⟨#[97, 98, 99]⟩)))])) rfl rfl (a_buildSlice (ys := (awV1 : List ByteArray)) (e := 9) (bytes := 16) hF (by kernel_rfl) rfl (by decide) (by decide) ⟨rfl, ⟨_, rfl, rv_str.2 ⟨rfl, by decide⟩⟩, rfl, ⟨_, rfl, rv_str.2 ⟨rfl, by decide⟩⟩, trivial⟩) ?_
 rintro v22 w9 ⟨hs, hv1, hF⟩
 refine ⟨trivial, ?_⟩
 replace hT := hT.t hs; replace ha := ha.t hs; replace hq := hq.t hs; replace bw := bw.t hs; replace bt := bt.t hs; replace bc := bc.t hs
 refine yV (kq 23 (.build 37 #[(0, (.const (.int .i64 1))), (1, (.const (.int .i64 1))), (2, (.tmp 22))])) (fun _ => val_build (zs := [.int .i64 0, .int .i64 0, .slice none 0 0]) (ps := [(0, 1), (1, 1), (2, 1)]) (qs := [(0, [.int .i64 1]), (1, [.int .i64 1]), (2, [v22])]) (cs := [.int .i64 1, .int .i64 1, v22]) (by kernel_rfl) (by kernel_rfl) (by exact ⟨rfl, ⟨_, rfl, rfl⟩, rfl, ⟨_, rfl, rfl⟩, rfl, ⟨_, rfl, (hv1.one rfl).1⟩, trivial⟩) rfl) ?_
 refine aS (kq 24 (.buildSlice 35 2 #[(0, (.const (.string ⟨#[121]⟩))), (1, (.const (.string ⟨#[97, 98]⟩)))])) rfl rfl (a_buildSlice (ys := (awV2 : List ByteArray)) (e := 9) (bytes := 16) hF (by kernel_rfl) rfl (by decide) (by decide) ⟨rfl, ⟨_, rfl, rv_str.2 ⟨rfl, by decide⟩⟩, rfl, ⟨_, rfl, rv_str.2 ⟨rfl, by decide⟩⟩, trivial⟩) ?_
 rintro v24 w10 ⟨hs, hv2, hF⟩
 refine ⟨trivial, ?_⟩
 replace hT := hT.t hs; replace ha := ha.t hs; replace hq := hq.t hs; replace bw := bw.t hs; replace bt := bt.t hs; replace bc := bc.t hs; replace hv1 := hv1.t hs
 refine yV (kq 25 (.build 37 #[(0, (.const (.int .i64 2))), (1, (.const (.int .i64 3))), (2, (.tmp 24))])) (fun _ => val_build (zs := [.int .i64 0, .int .i64 0, .slice none 0 0]) (ps := [(0, 1), (1, 1), (2, 1)]) (qs := [(0, [.int .i64 2]), (1, [.int .i64 3]), (2, [v24])]) (cs := [.int .i64 2, .int .i64 3, v24]) (by kernel_rfl) (by kernel_rfl) (by exact ⟨rfl, ⟨_, rfl, rfl⟩, rfl, ⟨_, rfl, rfl⟩, rfl, ⟨_, rfl, (hv2.one rfl).1⟩, trivial⟩) rfl) ?_
 refine aS (kq 4 (.alloc 37)) rfl rfl (a_alloc (cs := [.int .i64 0, .int .i64 0, .slice none 0 0]) hF 5 (by kernel_rfl)) ?_
 rintro _ w11 ⟨Cw11, bw11, rfl, hs, b1, hF⟩
 refine ⟨trivial, ?_⟩
 replace hT := hT.t hs; replace ha := ha.t hs; replace hq := hq.t hs; replace bw := bw.t hs; replace bt := bt.t hs; replace bc := bc.t hs; replace hv1 := hv1.t hs; replace hv2 := hv2.t hs
 refine aS (kq 5 (.alloc 37)) rfl rfl (a_alloc (cs := [.int .i64 0, .int .i64 0, .slice none 0 0]) hF 6 (by kernel_rfl)) ?_
 rintro _ w12 ⟨Cw12, bw12, rfl, hs, b2, hF⟩
 refine ⟨trivial, ?_⟩
 replace hT := hT.t hs; replace ha := ha.t hs; replace hq := hq.t hs; replace bw := bw.t hs; replace bt := bt.t hs; replace bc := bc.t hs; replace hv1 := hv1.t hs; replace hv2 := hv2.t hs; replace b1 := b1.t hs
 refine aN (k0 (.store 37 (.tmp 4) (.tmp 23))) rfl (a_storeAll (vs := [.int .i64 1, .int .i64 1, v22]) (n := 3) rfl rfl (by kernel_rfl) rfl rfl (by intro u hu; simp only [List.mem_cons, List.not_mem_nil, or_false] at hu; rcases hu with rfl | rfl | rfl <;> first | rfl | exact (hv1.one rfl).2) b1 rfl) ?_
 rintro _ w13 ⟨rfl, hs, b1⟩
 refine ⟨trivial, ?_⟩
 replace hF := hF.st hs
 replace hT := hT.t hs; replace ha := ha.t hs; replace hq := hq.t hs; replace bw := bw.t hs; replace bt := bt.t hs; replace bc := bc.t hs; replace hv1 := hv1.t hs; replace hv2 := hv2.t hs; replace b2 := b2.t hs
 refine aN (k0 (.store 37 (.tmp 5) (.tmp 25))) rfl (a_storeAll (vs := [.int .i64 2, .int .i64 3, v24]) (n := 3) rfl rfl (by kernel_rfl) rfl rfl (by intro u hu; simp only [List.mem_cons, List.not_mem_nil, or_false] at hu; rcases hu with rfl | rfl | rfl <;> first | rfl | exact (hv2.one rfl).2) b2 rfl) ?_
 rintro _ w14 ⟨rfl, hs, b2⟩
 refine ⟨trivial, ?_⟩
 replace hF := hF.st hs
 replace hT := hT.t hs; replace ha := ha.t hs; replace hq := hq.t hs; replace bw := bw.t hs; replace bt := bt.t hs; replace bc := bc.t hs; replace hv1 := hv1.t hs; replace hv2 := hv2.t hs; replace b1 := b1.t hs
 refine Sch.nil ?_
 refine run_sq ?_
 refine run_pl [nn 0, nn 1, nn 2, yy 3, yy 4, yy 5, yy 6, yy 7] ?_
 refine nS (kq 27 (.load 28 (.tmp 1))) rfl rfl trivial (val_loadOwnAgg (n := 3) (vs := [.int .i64 0, v15, v16]) bw.at_ (by kernel_rfl) (by kernel_rfl) rfl rfl rfl) ?_
 refine nS (kq 28 (.load 30 (.tmp 2))) rfl rfl trivial (val_loadOwnAgg (n := 2) (vs := [.int .i64 0, .int .i64 25]) bt.at_ (by kernel_rfl) (by kernel_rfl) rfl rfl rfl) ?_
 refine cS (kq 29 (.call { callee := .value (.func 23), args := #[(.tmp 27), (.tmp 28), (.const (.int .i64 4))], argTypes := #[28, 30, 3] })) rfl rfl (ent Tryz.call23 rfl) (fields_ok (p := 4) hF aw_W ha hq aw_K (by decide)) ?_
 rintro vw15 w15 ⟨uf, flx, okx, rfl, hs, hf, hFl⟩
 obtain ⟨rfl, rfl⟩ := aw_F.uniq hFl
 refine ⟨trivial, ?_⟩
 replace hF := hF.st hs
 replace hT := hT.t hs; replace ha := ha.t hs; replace hq := hq.t hs; replace bw := bw.t hs; replace bt := bt.t hs; replace bc := bc.t hs; replace hv1 := hv1.t hs; replace hv2 := hv2.t hs; replace b1 := b1.t hs; replace b2 := b2.t hs
 refine yM 26 29 ?_
 refine yV (kq 30 (.extract (.tmp 26) 0)) (fun _ => val_extract rfl rfl) ?_
 refine yV (kq 31 (.extract (.tmp 26) 1)) (fun _ => val_extract rfl rfl) ?_
 refine yA 6 30 ?_
 refine yA 7 31 ?_
 refine Sch.nil ?_
 refine run_sq ?_
 refine run_pl [nn 0, yy 1, yy 2, yy 3, nn 4, nn 5, yy 6] ?_
 refine cS (kq 33 (.call { callee := .value (.func 18), args := #[(.const (.int .i64 9))], argTypes := #[3] })) rfl rfl (ent Tryz.call18 rfl) (start_ok (bud := 9) hF (by decide) (by decide)) ?_
 rintro vw16 w16 ⟨rfl, hs⟩
 refine ⟨trivial, ?_⟩
 replace hF := hF.st hs
 replace hT := hT.t hs; replace ha := ha.t hs; replace hq := hq.t hs; replace bw := bw.t hs; replace bt := bt.t hs; replace bc := bc.t hs; replace hv1 := hv1.t hs; replace hv2 := hv2.t hs; replace b1 := b1.t hs; replace b2 := b2.t hs; replace hf := hf.t hs
 refine yM 32 33 ?_
 refine yV (kq 34 (.extract (.tmp 32) 0)) (fun _ => val_extract rfl rfl) ?_
 refine yV (kq 35 (.extract (.tmp 32) 1)) (fun _ => val_extract rfl rfl) ?_
 refine aS (kq 8 (.alloc 26)) rfl rfl (a_alloc (cs := [.int .i64 0, .slice none 0 0, .slice none 0 0]) hF 7 (by kernel_rfl)) ?_
 rintro _ w17 ⟨Cw17, bw17, rfl, hs, bx, hF⟩
 refine ⟨trivial, ?_⟩
 replace hT := hT.t hs; replace ha := ha.t hs; replace hq := hq.t hs; replace bw := bw.t hs; replace bt := bt.t hs; replace bc := bc.t hs; replace hv1 := hv1.t hs; replace hv2 := hv2.t hs; replace b1 := b1.t hs; replace b2 := b2.t hs; replace hf := hf.t hs
 refine aN (k0 (.store 26 (.tmp 8) (.tmp 34))) rfl (a_storeAll (vs := [.int .i64 9, .slice none 0 0, .slice none 0 0]) (n := 3) rfl rfl (by kernel_rfl) rfl rfl (by intro u hu; simp only [List.mem_cons, List.not_mem_nil, or_false] at hu; rcases hu with rfl | rfl | rfl <;> first | rfl) bx rfl) ?_
 rintro _ w18 ⟨rfl, hs, bx⟩
 refine ⟨trivial, ?_⟩
 replace hF := hF.st hs
 replace hT := hT.t hs; replace ha := ha.t hs; replace hq := hq.t hs; replace bw := bw.t hs; replace bt := bt.t hs; replace bc := bc.t hs; replace hv1 := hv1.t hs; replace hv2 := hv2.t hs; replace b1 := b1.t hs; replace b2 := b2.t hs; replace hf := hf.t hs
 refine yA 9 35 ?_
 refine Sch.nil ?_
 refine run_sq ?_
 refine run_pl [nn 0, nn 1, nn 2, nn 3, nn 4, nn 5, nn 6, yy 7, yy 8, yy 9, nn 10, nn 11, yy 12] ?_
 refine nS (kq 37 (.load 26 (.tmp 8))) rfl rfl trivial (val_loadOwnAgg (n := 3) (vs := [.int .i64 9, .slice none 0 0, .slice none 0 0]) bx.at_ (by kernel_rfl) (by kernel_rfl) rfl rfl rfl) ?_
 refine nS (kq 38 (.load 28 (.tmp 1))) rfl rfl trivial (val_loadOwnAgg (n := 3) (vs := [.int .i64 0, v15, v16]) bw.at_ (by kernel_rfl) (by kernel_rfl) rfl rfl rfl) ?_
 refine nS (kq 39 (.load 30 (.tmp 2))) rfl rfl trivial (val_loadOwnAgg (n := 2) (vs := [.int .i64 0, .int .i64 25]) bt.at_ (by kernel_rfl) (by kernel_rfl) rfl rfl rfl) ?_
 refine nS (kq 40 (.load 34 (.tmp 3))) rfl rfl trivial (val_loadOwnAgg (n := 6) (vs := [.int .i64 0, .int .i64 1, .int .i64 1, .int .i64 2, .int .i64 4, .int .i64 0]) bc.at_ (by kernel_rfl) (by kernel_rfl) rfl rfl rfl) ?_
 refine nS (kq 41 (.load 37 (.tmp 4))) rfl rfl trivial (val_loadOwnAgg (n := 3) (vs := [.int .i64 1, .int .i64 1, v22]) b1.at_ (by kernel_rfl) (by kernel_rfl) rfl rfl rfl) ?_
 refine nS (kq 42 (.load 37 (.tmp 5))) rfl rfl trivial (val_loadOwnAgg (n := 3) (vs := [.int .i64 2, .int .i64 3, v24]) b2.at_ (by kernel_rfl) (by kernel_rfl) rfl rfl rfl) ?_
 refine cS (kq 43 (.call { callee := .value (.func 31), args := #[(.tmp 37), (.tmp 38), (.tmp 39), (.tmp 40), (.tmp 41), (.tmp 42), (.const (.bool true))], argTypes := #[26, 28, 30, 34, 37, 37, 4] })) rfl rfl (ent Tryz.call31 rfl) (decide_ok (A := ⟨0, 1⟩) (B := ⟨1, 2⟩) (p := 4) (id1 := 1) (id2 := 2) (vals1 := awV1) (vals2 := awV2) (sh := []) (ds := []) hF aw_R0 rv_nil rv_nil aw_W ha hq aw_K (by decide) (by decide) rfl rfl aw_Q1 hv1 aw_Q2 hv2 (fun k h => by simp at h)) ?_
 rintro vw19 w19 ⟨bd1, vs1, vz1, sh1, ds1, e1, rfl, hs, hsh1, hds1, hD1⟩
 obtain rfl := hD1.unshown aw_F aw_no
 refine ⟨trivial, ?_⟩
 replace hF := hF.st hs
 replace hT := hT.t hs; replace ha := ha.t hs; replace hq := hq.t hs; replace bw := bw.t hs; replace bt := bt.t hs; replace bc := bc.t hs; replace hv1 := hv1.t hs; replace hv2 := hv2.t hs; replace b1 := b1.t hs; replace b2 := b2.t hs; replace hf := hf.t hs; replace bx := bx.t hs
 refine yM 36 43 ?_
 refine yV (kq 44 (.extract (.tmp 36) 0)) (fun _ => val_extract rfl rfl) ?_
 refine yV (kq 45 (.extract (.tmp 36) 1)) (fun _ => val_extract rfl rfl) ?_
 refine aS (kq 10 (.alloc 26)) rfl rfl (a_alloc (cs := [.int .i64 0, .slice none 0 0, .slice none 0 0]) hF 8 (by kernel_rfl)) ?_
 rintro _ w20 ⟨Cw20, bw20, rfl, hs, bq, hF⟩
 refine ⟨trivial, ?_⟩
 replace hT := hT.t hs; replace ha := ha.t hs; replace hq := hq.t hs; replace bw := bw.t hs; replace bt := bt.t hs; replace bc := bc.t hs; replace hv1 := hv1.t hs; replace hv2 := hv2.t hs; replace b1 := b1.t hs; replace b2 := b2.t hs; replace hf := hf.t hs; replace bx := bx.t hs; replace hsh1 := hsh1.t hs; replace hds1 := hds1.t hs
 refine aN (k0 (.store 26 (.tmp 10) (.tmp 44))) rfl (a_storeAll (vs := [.int .i64 bd1, vs1, vz1]) (n := 3) rfl rfl (by kernel_rfl) rfl rfl (by intro u hu; simp only [List.mem_cons, List.not_mem_nil, or_false] at hu; rcases hu with rfl | rfl | rfl <;> first | rfl | exact (hsh1.one rfl).2 | exact (hds1.one rfl).2) bq rfl) ?_
 rintro _ w21 ⟨rfl, hs, bq⟩
 refine ⟨trivial, ?_⟩
 replace hF := hF.st hs
 replace hT := hT.t hs; replace ha := ha.t hs; replace hq := hq.t hs; replace bw := bw.t hs; replace bt := bt.t hs; replace bc := bc.t hs; replace hv1 := hv1.t hs; replace hv2 := hv2.t hs; replace b1 := b1.t hs; replace b2 := b2.t hs; replace hf := hf.t hs; replace bx := bx.t hs; replace hsh1 := hsh1.t hs; replace hds1 := hds1.t hs
 refine yA 11 45 ?_
 refine Sch.nil ?_
 refine run_sq ?_
 refine run_pl [nn 0, nn 1, nn 2, nn 3, nn 4, nn 5, nn 6, yy 7, yy 8, yy 9, yy 10, nn 11, yy 12, yy 13] ?_
 refine nS (kq 47 (.load 26 (.tmp 8))) rfl rfl trivial (val_loadOwnAgg (n := 3) (vs := [.int .i64 9, .slice none 0 0, .slice none 0 0]) bx.at_ (by kernel_rfl) (by kernel_rfl) rfl rfl rfl) ?_
 refine nS (kq 48 (.load 28 (.tmp 1))) rfl rfl trivial (val_loadOwnAgg (n := 3) (vs := [.int .i64 0, v15, v16]) bw.at_ (by kernel_rfl) (by kernel_rfl) rfl rfl rfl) ?_
 refine nS (kq 49 (.load 30 (.tmp 2))) rfl rfl trivial (val_loadOwnAgg (n := 2) (vs := [.int .i64 0, .int .i64 25]) bt.at_ (by kernel_rfl) (by kernel_rfl) rfl rfl rfl) ?_
 refine nS (kq 50 (.load 34 (.tmp 3))) rfl rfl trivial (val_loadOwnAgg (n := 6) (vs := [.int .i64 0, .int .i64 1, .int .i64 1, .int .i64 2, .int .i64 4, .int .i64 0]) bc.at_ (by kernel_rfl) (by kernel_rfl) rfl rfl rfl) ?_
 refine nS (kq 51 (.load 37 (.tmp 4))) rfl rfl trivial (val_loadOwnAgg (n := 3) (vs := [.int .i64 1, .int .i64 1, v22]) b1.at_ (by kernel_rfl) (by kernel_rfl) rfl rfl rfl) ?_
 refine nS (kq 52 (.load 37 (.tmp 5))) rfl rfl trivial (val_loadOwnAgg (n := 3) (vs := [.int .i64 2, .int .i64 3, v24]) b2.at_ (by kernel_rfl) (by kernel_rfl) rfl rfl rfl) ?_
 refine cS (kq 53 (.call { callee := .value (.func 29), args := #[(.tmp 47), (.tmp 48), (.tmp 49), (.tmp 50), (.tmp 51), (.tmp 52)], argTypes := #[26, 28, 30, 34, 37, 37] })) rfl rfl (ent Tryz.call29 rfl) (ask_ok (A := ⟨0, 1⟩) (B := ⟨1, 2⟩) (p := 4) (id1 := 1) (id2 := 2) (vals1 := awV1) (vals2 := awV2) (sh := []) (ds := []) hF aw_R0 rv_nil rv_nil aw_W ha hq aw_K (by decide) (by decide) rfl rfl aw_Q1 hv1 aw_Q2 hv2 (by decide)) ?_
 rintro vw22 w22 ⟨bd2, vs2, vz2, vn, sh2, ds2, now, e2, rfl, hs, hsh2, hds2, hnow, hA, hde⟩
 obtain ⟨rfl, rfl, hnl⟩ := aw_ask hA
 obtain rfl := hde rfl
 obtain ⟨hR2, _, _, _, ⟨flx, hFx, hAll⟩, _, _⟩ := hA.law aw_R0 (by decide) aw_W aw_Q1 aw_Q2 (by decide)
 obtain ⟨rfl, _⟩ := aw_F.uniq hFx
 refine ⟨trivial, ?_⟩
 replace hF := hF.st hs
 replace hT := hT.t hs; replace ha := ha.t hs; replace hq := hq.t hs; replace bw := bw.t hs; replace bt := bt.t hs; replace bc := bc.t hs; replace hv1 := hv1.t hs; replace hv2 := hv2.t hs; replace b1 := b1.t hs; replace b2 := b2.t hs; replace hf := hf.t hs; replace bx := bx.t hs; replace hsh1 := hsh1.t hs; replace hds1 := hds1.t hs; replace bq := bq.t hs
 refine yM 46 53 ?_
 refine yV (kq 54 (.extract (.tmp 46) 0)) (fun _ => val_extract rfl rfl) ?_
 refine yV (kq 55 (.extract (.tmp 46) 1)) (fun _ => val_extract rfl rfl) ?_
 refine yV (kq 56 (.extract (.tmp 46) 2)) (fun _ => val_extract rfl rfl) ?_
 refine aN (k0 (.store 26 (.tmp 8) (.tmp 54))) rfl (a_storeAll (vs := [.int .i64 4, vs2, vz2]) (n := 3) rfl rfl (by kernel_rfl) rfl rfl (by intro u hu; simp only [List.mem_cons, List.not_mem_nil, or_false] at hu; rcases hu with rfl | rfl | rfl <;> first | rfl | exact (hsh2.one rfl).2 | exact (hds2.one rfl).2) bx rfl) ?_
 rintro _ w23 ⟨rfl, hs, bx⟩
 refine ⟨trivial, ?_⟩
 replace hF := hF.st hs
 replace hT := hT.t hs; replace ha := ha.t hs; replace hq := hq.t hs; replace bw := bw.t hs; replace bt := bt.t hs; replace bc := bc.t hs; replace hv1 := hv1.t hs; replace hv2 := hv2.t hs; replace b1 := b1.t hs; replace b2 := b2.t hs; replace hf := hf.t hs; replace hsh1 := hsh1.t hs; replace hds1 := hds1.t hs; replace bq := bq.t hs; replace hsh2 := hsh2.t hs; replace hds2 := hds2.t hs; replace hnow := hnow.t hs
 refine yA 12 55 ?_
 refine yA 13 56 ?_
 refine Sch.nil ?_
 refine run_sq ?_
 refine run_pl [nn 0, nn 1, nn 2, nn 3, nn 4, nn 5, nn 6, yy 7, yy 8, yy 9, nn 10, yy 11] ?_
 refine nS (kq 58 (.load 26 (.tmp 8))) rfl rfl trivial (val_loadOwnAgg (n := 3) (vs := [.int .i64 4, vs2, vz2]) bx.at_ (by kernel_rfl) (by kernel_rfl) rfl rfl rfl) ?_
 refine nS (kq 59 (.load 28 (.tmp 1))) rfl rfl trivial (val_loadOwnAgg (n := 3) (vs := [.int .i64 0, v15, v16]) bw.at_ (by kernel_rfl) (by kernel_rfl) rfl rfl rfl) ?_
 refine nS (kq 60 (.load 30 (.tmp 2))) rfl rfl trivial (val_loadOwnAgg (n := 2) (vs := [.int .i64 0, .int .i64 25]) bt.at_ (by kernel_rfl) (by kernel_rfl) rfl rfl rfl) ?_
 refine nS (kq 61 (.load 34 (.tmp 3))) rfl rfl trivial (val_loadOwnAgg (n := 6) (vs := [.int .i64 0, .int .i64 1, .int .i64 1, .int .i64 2, .int .i64 4, .int .i64 0]) bc.at_ (by kernel_rfl) (by kernel_rfl) rfl rfl rfl) ?_
 refine nS (kq 62 (.load 37 (.tmp 4))) rfl rfl trivial (val_loadOwnAgg (n := 3) (vs := [.int .i64 1, .int .i64 1, v22]) b1.at_ (by kernel_rfl) (by kernel_rfl) rfl rfl rfl) ?_
 refine nS (kq 63 (.load 37 (.tmp 5))) rfl rfl trivial (val_loadOwnAgg (n := 3) (vs := [.int .i64 2, .int .i64 3, v24]) b2.at_ (by kernel_rfl) (by kernel_rfl) rfl rfl rfl) ?_
 refine cS (kq 64 (.call { callee := .value (.func 31), args := #[(.tmp 58), (.tmp 59), (.tmp 60), (.tmp 61), (.tmp 62), (.tmp 63), (.const (.bool true))], argTypes := #[26, 28, 30, 34, 37, 37, 4] })) rfl rfl (ent Tryz.call31 rfl) (decide_ok (A := ⟨0, 1⟩) (B := ⟨1, 2⟩) (p := 4) (id1 := 1) (id2 := 2) (vals1 := awV1) (vals2 := awV2) (sh := sh2) (ds := []) hF hR2 hsh2 hds2 aw_W ha hq aw_K (by decide) (by decide) rfl rfl aw_Q1 hv1 aw_Q2 hv2 (fun k h => by simp at h)) ?_
 rintro vw24 w24 ⟨bd3, vs3, vz3, sh3, ds3, e3, rfl, hs, hsh3, hds3, hD3⟩
 obtain ⟨rfl, rfl, rfl, rfl⟩ := hD3.added aw_F hAll (fun k h => by simp at h) (by decide)
 obtain ⟨hR3, _⟩ := hD3.law hR2 (by decide) (by decide) (by decide)
 replace hds3 : RV _ _ ([⟨⟨0, 1⟩, ⟨1, 2⟩, 1, 3, true⟩] : List Dcs) vz3 := hds3
 refine ⟨trivial, ?_⟩
 replace hF := hF.st hs
 replace hT := hT.t hs; replace ha := ha.t hs; replace hq := hq.t hs; replace bw := bw.t hs; replace bt := bt.t hs; replace bc := bc.t hs; replace hv1 := hv1.t hs; replace hv2 := hv2.t hs; replace b1 := b1.t hs; replace b2 := b2.t hs; replace hf := hf.t hs; replace bx := bx.t hs; replace hsh1 := hsh1.t hs; replace hds1 := hds1.t hs; replace bq := bq.t hs; replace hsh2 := hsh2.t hs; replace hds2 := hds2.t hs; replace hnow := hnow.t hs
 refine yM 57 64 ?_
 refine yV (kq 65 (.extract (.tmp 57) 0)) (fun _ => val_extract rfl rfl) ?_
 refine yV (kq 66 (.extract (.tmp 57) 1)) (fun _ => val_extract rfl rfl) ?_
 refine aN (k0 (.store 26 (.tmp 8) (.tmp 65))) rfl (a_storeAll (vs := [.int .i64 4, vs3, vz3]) (n := 3) rfl rfl (by kernel_rfl) rfl rfl (by intro u hu; simp only [List.mem_cons, List.not_mem_nil, or_false] at hu; rcases hu with rfl | rfl | rfl <;> first | rfl | exact (hsh3.one rfl).2 | exact (hds3.one rfl).2) bx rfl) ?_
 rintro _ w25 ⟨rfl, hs, bx⟩
 refine ⟨trivial, ?_⟩
 replace hF := hF.st hs
 replace hT := hT.t hs; replace ha := ha.t hs; replace hq := hq.t hs; replace bw := bw.t hs; replace bt := bt.t hs; replace bc := bc.t hs; replace hv1 := hv1.t hs; replace hv2 := hv2.t hs; replace b1 := b1.t hs; replace b2 := b2.t hs; replace hf := hf.t hs; replace hsh1 := hsh1.t hs; replace hds1 := hds1.t hs; replace bq := bq.t hs; replace hsh2 := hsh2.t hs; replace hds2 := hds2.t hs; replace hnow := hnow.t hs; replace hsh3 := hsh3.t hs; replace hds3 := hds3.t hs
 refine yA 14 66 ?_
 refine Sch.nil ?_
 refine run_sq ?_
 refine run_pl [yy 0, yy 1, yy 2, yy 3, yy 4, yy 5, yy 6, yy 7, yy 8, nn 9, yy 10, yy 11, yy 12, yy 13, yy 14, yy 15, yy 16, yy 17, yy 18, yy 19, yy 20, yy 21, yy 22, yy 23, yy 24, yy 25, yy 26, yy 27, yy 28, yy 29, nn 30, yy 31, yy 32, yy 33, yy 34, yy 35, yy 36, yy 37, yy 38, yy 39, nn 40, yy 41, yy 42, yy 43, yy 44, yy 45, nn 46, yy 47, yy 48, nn 49, yy 50, yy 51, yy 52, nn 53, nn 54, yy 55, yy 56, yy 57] ?_
 have el1 : ([1] : List Int).length = 1 := rfl
 have el3 : ([] ++ [⟨⟨0, 1⟩, ⟨1, 2⟩, 1, 3, true⟩] : List Dcs).length = 1 := rfl
 have el4 : ([⟨⟨0, 1⟩, ⟨1, 2⟩, 1, 3, true⟩] : List Dcs).length = 1 := rfl
 refine yM 67 7 ?_
 refine yM 68 67 ?_
 refine yMg 69 6 1 true ?_
 refine yS (kg 70 (.call { callee := .builtin .len, args := #[(.tmp 69)], argTypes := #[22] }) 1 true) rfl rfl (fun w' hS => hf.lenV rfl Tryz.underlying22 w' ) ?_
 refine yV (kg 71 (.binOp .eql 3 (.tmp 70) (.const (.int .i64 1)) 3) 1 true) (fun _ => val_is (val_eql rfl rfl) (show _ = Value.bool true from congrArg Value.bool (decide_eq_true (by rfl)))) ?_
 refine yAt 72 68 71 ?_
 refine yM 73 72 ?_
 refine yMg 74 6 6 true ?_
 refine iS (e := 3) (kg 75 (.indexAddr 22 (.tmp 74) (.const (.int .i64 0))) 6 true) rfl rfl hf rfl (by kernel_rfl) rfl (by omega) (by omega) ?_
 intro b75 o75 h75
 try simp only [Int.toNat_natCast] at h75
 obtain ⟨d4, hd4⟩ : ∃ d : Int, d = 1 := ⟨_, rfl⟩
 replace h75 := h75.cast (y := d4) (hd4.trans rfl)
 refine lN (kg 76 (.load 3 (.tmp 75)) 6 true) rfl rfl trivial h75 (by kernel_rfl) rfl rfl ?_
 intro v76 g76
 first | (obtain rfl := rv_nat.1 g76) | (obtain rfl := rv_int.1 g76)
 refine yV (kg 77 (.binOp .eql 3 (.tmp 76) (.const (.int .i64 1)) 3) 6 true) (fun _ => val_is (val_eql rfl rfl) (show _ = Value.bool true from congrArg Value.bool (decide_eq_true (by omega)))) ?_
 refine yAt 78 73 77 ?_
 refine yM 79 78 ?_
 refine yMg 80 9 12 true ?_
 refine yV (kg 81 (.binOp .eql 52 (.tmp 80) (.const (.int .i64 0)) 52) 12 true) (fun _ => val_is (val_eql rfl rfl) (show _ = Value.bool true from congrArg Value.bool (decide_eq_true (by rfl)))) ?_
 refine yAt 82 79 81 ?_
 refine yM 83 82 ?_
 refine yMg 84 11 16 true ?_
 refine yV (kg 85 (.binOp .eql 52 (.tmp 84) (.const (.int .i64 50)) 52) 16 true) (fun _ => val_is (val_eql rfl rfl) (show _ = Value.bool true from congrArg Value.bool (decide_eq_true (by rfl)))) ?_
 refine yAt 86 83 85 ?_
 refine yM 87 86 ?_
 refine yMg 88 13 20 true ?_
 refine yV (kg 89 (.binOp .eql 52 (.tmp 88) (.const (.int .i64 0)) 52) 20 true) (fun _ => val_is (val_eql rfl rfl) (show _ = Value.bool true from congrArg Value.bool (decide_eq_true (by rfl)))) ?_
 refine yAt 90 87 89 ?_
 refine yM 91 90 ?_
 refine yMg 92 14 24 true ?_
 refine yV (kg 93 (.binOp .eql 52 (.tmp 92) (.const (.int .i64 0)) 52) 24 true) (fun _ => val_is (val_eql rfl rfl) (show _ = Value.bool true from congrArg Value.bool (decide_eq_true (by rfl)))) ?_
 refine yAt 94 91 93 ?_
 refine yM 95 94 ?_
 refine yFg 96 26 8 0 0 28 true ?_
 refine nS (kg 97 (.load 3 (.tmp 96)) 28 true) rfl rfl trivial (val_loadOwn bx.at_ (by kernel_rfl) rfl rfl) ?_
 refine yV (kg 98 (.binOp .eql 3 (.tmp 97) (.const (.int .i64 4)) 3) 28 true) (fun _ => val_is (val_eql rfl rfl) (show _ = Value.bool true from congrArg Value.bool (decide_eq_true (by rfl)))) ?_
 refine yAt 99 95 98 ?_
 refine yM 100 99 ?_
 refine yMg 101 12 33 true ?_
 refine yS (kg 102 (.call { callee := .builtin .len, args := #[(.tmp 101)], argTypes := #[23] }) 33 true) rfl rfl (fun w' hS => hnow.lenV rfl Tryz.underlying23 w' ) ?_
 refine yV (kg 103 (.binOp .eql 3 (.tmp 102) (.const (.int .i64 2)) 3) 33 true) (fun _ => val_is (val_eql rfl rfl) (show _ = Value.bool true from congrArg Value.bool (decide_eq_true (by omega)))) ?_
 refine yAt 104 100 103 ?_
 refine yM 105 104 ?_
 refine yFg 106 26 8 2 2 38 true ?_
 refine nS (kg 107 (.load 24 (.tmp 106)) 38 true) rfl rfl trivial (val_loadOwn bx.at_ (by kernel_rfl) rfl rfl) ?_
 refine yS (kg 108 (.call { callee := .builtin .len, args := #[(.tmp 107)], argTypes := #[24] }) 38 true) rfl rfl (fun w' hS => hds3.lenV rfl Tryz.underlying24 w' ) ?_
 refine yV (kg 109 (.binOp .eql 3 (.tmp 108) (.const (.int .i64 1)) 3) 38 true) (fun _ => val_is (val_eql rfl rfl) (show _ = Value.bool true from congrArg Value.bool (decide_eq_true (by rfl)))) ?_
 refine yAt 110 105 109 ?_
 refine yM 111 110 ?_
 refine yFg 112 26 8 2 2 44 true ?_
 refine nS (kg 113 (.load 24 (.tmp 112)) 44 true) rfl rfl trivial (val_loadOwn bx.at_ (by kernel_rfl) rfl rfl) ?_
 refine iS (e := 75) (kg 114 (.indexAddr 24 (.tmp 113) (.const (.int .i64 0))) 44 true) rfl rfl hds3 rfl (by kernel_rfl) rfl (by omega) (by omega) ?_
 intro b114 o114 h114
 try simp only [Int.toNat_natCast] at h114
 have h115 := RA.dvb h114
 refine yFg 115 75 114 3 5 44 true ?_
 obtain ⟨d3, hd3⟩ : ∃ d : Int, d = 3 := ⟨_, rfl⟩
 replace h115 := h115.cast (y := d3) (hd3.trans rfl)
 refine lN (kg 116 (.load 3 (.tmp 115)) 44 true) rfl rfl trivial h115 (by kernel_rfl) rfl rfl ?_
 intro v116 g116
 first | (obtain rfl := rv_nat.1 g116) | (obtain rfl := rv_int.1 g116)
 refine yV (kg 117 (.binOp .eql 3 (.tmp 116) (.const (.int .i64 3)) 3) 44 true) (fun _ => val_is (val_eql rfl rfl) (show _ = Value.bool true from congrArg Value.bool (decide_eq_true (by omega)))) ?_
 refine yAt 118 111 117 ?_
 refine yM 119 118 ?_
 refine nS (kg 120 (.load 26 (.tmp 8)) 52 true) rfl rfl trivial (val_loadOwnAgg (n := 3) (vs := [.int .i64 4, vs3, vz3]) bx.at_ (by kernel_rfl) (by kernel_rfl) rfl rfl rfl) ?_
 refine cS (kg 121 (.call { callee := .value (.func 21), args := #[(.tmp 120)], argTypes := #[26] }) 52 true) rfl rfl (ent Tryz.call21 rfl) (rcheck_ok hF hR3 hsh3 hds3) ?_
 rintro vw26 w26 ⟨rfl, hs⟩
 refine ⟨trivial, ?_⟩
 replace hF := hF.st hs
 replace hT := hT.t hs; replace ha := ha.t hs; replace hq := hq.t hs; replace bw := bw.t hs; replace bt := bt.t hs; replace bc := bc.t hs; replace hv1 := hv1.t hs; replace hv2 := hv2.t hs; replace b1 := b1.t hs; replace b2 := b2.t hs; replace hf := hf.t hs; replace bx := bx.t hs; replace hsh1 := hsh1.t hs; replace hds1 := hds1.t hs; replace bq := bq.t hs; replace hsh2 := hsh2.t hs; replace hds2 := hds2.t hs; replace hnow := hnow.t hs; replace hsh3 := hsh3.t hs; replace hds3 := hds3.t hs; replace h75 := h75.t hs; replace h114 := h114.t hs; replace h115 := h115.t hs
 refine yV (kg 122 (.binOp .eql 52 (.tmp 121) (.const (.int .i64 0)) 52) 52 true) (fun _ => val_is (val_eql rfl rfl) (show _ = Value.bool true from congrArg Value.bool (decide_eq_true (by rfl)))) ?_
 refine yAt 123 119 122 ?_
 refine yA 0 123 ?_
 refine Sch.nil ?_
 refine run_ret1 (by kernel_rfl) Tryz.func8 Tryz.results8 rfl ?_
 exact ⟨rfl, hT.out1 (by decide)⟩
end Go.Proofs.YtionghonhnedgaaGreat
