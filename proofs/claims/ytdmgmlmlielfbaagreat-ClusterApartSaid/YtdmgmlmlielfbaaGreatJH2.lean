/- Steps through functions of the program. -/
import Derived.Test.YtdmgmlmlielfbaaGreatJH8
import Derived.Test.YtdmgmlmlielfbaaGreatL3
set_option linter.unusedVariables false
set_option linter.unusedSimpArgs false
set_option maxRecDepth 100000
set_option maxHeartbeats 4000000
namespace Go.Proofs.YtdmgmlmlielfbaaGreat
open Go.K Go.K.Rep

namespace F6
noncomputable def c0 := bodyOf Tryz.f6
noncomputable def c7 := (cl (cl (cr (cl (cr c0)))))
noncomputable def c15 := (cl (cr (cr (cr (cr c0)))))
noncomputable def c22 := (cr (cr (cr (cr (cr c0)))))
noncomputable def c31 := (cl (cr (cr (cr (cr c22)))))
noncomputable def c38 := (cl (cr (cl (cl (cr c31)))))
noncomputable def c41 := (cr (cr (cl (cl (cr c31)))))
noncomputable def c48 := (cl (cr (cr (cl (cl c41)))))
noncomputable def c53 := (cr (cr (cr (cr (cr c22)))))
end F6
/-- Refs that are set apart are never in one person, and setting apart, or a bond less, does not raise the value. -/
theorem clusterApart_ok {w₀ : World} {C : Nat → Nat} {l : List Int} {vl : Value} (hF : Lim w₀ C) (hl : RV w₀ (Mc C) l vl) : Calls Tryz.prog 6 #[vl] w₀ (Ret fun v w' => v = .bool true ∧ Stp [] w₀ C w' C) := by
 have hF0 := hF
 have hT := Stp.refl [2, 3, 4, 5, 6, 7, 8, 9] w₀ (col1 C)
 replace hF := hF.col1
 replace hl : RV w₀ (Mc (col1 C)) l vl := by rw [Mc_col1]; exact hl
 refine calls_start (c := F6.c0) (N := 133) [vl] Tryz.func6 (by kernel_rfl) (by kernel_rfl) (by kernel_rfl) ?_
 show Run _ _ _ _ [(0, vl)] _ _
 refine run_sq ?_
 refine run_pl [yy 0] ?_
 refine yAc 2 (.bool false) ?_
 refine Sch.nil ?_
 refine run_sq ?_
 refine run_sq ?_
 refine run_pl [nn 0, yy 1, yy 2, yy 3, nn 4, yy 5, yy 6] ?_
 refine cS (kq 21 (.call { callee := .value (.func 11), args := #[], argTypes := #[] })) rfl rfl (ent Tryz.call11 rfl) (awake_ok hF) ?_
 rintro vw1 w1 ⟨rfl, hs⟩
 refine ⟨trivial, ?_⟩
 replace hF := hF.st hs
 replace hT := hT.t hs; replace hl := hl.t hs
 refine yV (kq 22 (.unOp .not 4 (.tmp 21))) (fun _ => val_not rfl) ?_
 refine yM 23 22 ?_
 refine yMg 24 0 2 false ?_
 refine cS (kg 25 (.call { callee := .value (.func 12), args := #[(.tmp 24)], argTypes := #[22] }) 2 false) rfl rfl (ent Tryz.call12 rfl) (few_any hl) ?_
 rintro vw2 w2 ⟨rfl, rfl⟩
 refine ⟨trivial, ?_⟩
 refine yV (kg 26 (.unOp .not 4 (.tmp 25)) 2 false) (fun _ => val_notd rfl) ?_
 refine yOf 27 23 26 ?_
 refine Sch.nil ?_
 refine run_i 27 rfl (fun h27 => ?_) (fun h27 => ?_)
 ·
  refine run_sq ?_
  refine run_pl [nn 0, yy 1] ?_
  refine cS (kq 28 (.call { callee := .value (.func 11), args := #[], argTypes := #[] })) rfl rfl (ent Tryz.call11 rfl) (awake_ok hF) ?_
  rintro vw3 w3 ⟨rfl, hs⟩
  refine ⟨trivial, ?_⟩
  replace hF := hF.st hs
  replace hT := hT.t hs; replace hl := hl.t hs
  refine yA 2 28 ?_
  refine Sch.nil ?_
  refine run_ret1 (by kernel_rfl) Tryz.func6 Tryz.results6 rfl ?_
  exact ⟨rfl, hT.out1 (by decide)⟩
 ·
  refine run_sk ?_
  refine run_sq ?_
  refine run_pl [yy 0, nn 1, yy 2] ?_
  refine yM 29 0 ?_
  refine cS (kq 30 (.call { callee := .value (.func 13), args := #[(.tmp 29)], argTypes := #[22] })) rfl rfl (ent Tryz.call13 rfl) (new_any hF hl) ?_
  rintro vw4 w4 ⟨Cd, bd, rfl, hs, hF, hd⟩
  refine ⟨trivial, ?_⟩
  replace hT := hT.t hs; replace hl := hl.t hs
  refine yA 3 30 ?_
  refine Sch.nil ?_
  refine run_sq ?_
  refine run_pl [yy 0, nn 1, yy 2] ?_
  refine yM 31 3 ?_
  refine cS (kq 32 (.call { callee := .value (.func 14), args := #[(.tmp 31), (.const (.int .i64 3)), (.const (.int .i64 2)), (.const (.int .i64 2))], argTypes := #[28, 3, 3, 3] })) rfl rfl (ent Tryz.call14 rfl) (bonds_any (R := 3) (I := 2) (one := 2) hF (by decide) hd (by decide) (by decide) (by omega) (by omega)) ?_
  rintro vb w5 ⟨bl, hbl, ⟨hs, hb, hd⟩, _⟩
  refine ⟨trivial, ?_⟩
  replace hF := hF.st hs
  replace hT := hT.t hs; replace hl := hl.t hs
  have hv := hbl.vld (by decide) (by decide)
  have hrl := hbl.few
  have hbL := hv.1
  refine yA 4 32 ?_
  refine Sch.nil ?_
  refine run_sq ?_
  refine run_sq ?_
  refine run_pl [yy 0, yy 1, yy 2] ?_
  refine yM 33 4 ?_
  refine yS (kq 34 (.call { callee := .builtin .len, args := #[(.tmp 33)], argTypes := #[23] })) rfl rfl (fun w' hS => hb.lenV rfl Tryz.underlying23 w' ) ?_
  refine yV (kq 35 (.binOp .eql 3 (.tmp 34) (.const (.int .i64 0)) 3)) (fun _ => val_eql rfl rfl) ?_
  refine Sch.nil ?_
  refine run_i 35 rfl (fun h35 => ?_) (fun h35 => ?_)
  ·
   refine run_sq ?_
   refine run_pl [yy 0] ?_
   refine yAc 2 (.bool true) ?_
   refine Sch.nil ?_
   refine run_ret1 (by kernel_rfl) Tryz.func6 Tryz.results6 rfl ?_
   exact ⟨rfl, hT.out1 (by decide)⟩
  ·
   have hbp : 0 < bl.length := by omega
   refine run_sk ?_
   refine run_sq ?_
   refine run_pl [yy 0, nn 1, yy 2, yy 3, yy 4, yy 5, yy 6, yy 7, yy 8] ?_
   refine yM 37 4 ?_
   refine cS (kq 38 (.call { callee := .value (.func 23), args := #[(.tmp 37), (.const (.slice none 0 0))], argTypes := #[23, 24] })) rfl rfl (ent Tryz.call23 rfl) (solveY_ok (ds := []) hF hb rv_nil hv (by omega) (by decide) (fun i h => by cases h) (fun i h => by cases h)) ?_
   rintro _ w6 ⟨hs, zs1, vp1, hSt1, rfl, hp1⟩
   refine ⟨trivial, ?_⟩
   replace hF := hF.st hs
   replace hT := hT.t hs; replace hl := hl.t hs
   replace hd := hd.st hs (by first | decide | (simp <;> omega)) (by first | decide | (simp <;> omega))
   replace hb := hb.t hs
   refine yM 36 38 ?_
   refine yV (kq 39 (.extract (.tmp 36) 0)) (fun _ => val_extract rfl rfl) ?_
   refine yV (kq 40 (.extract (.tmp 36) 1)) (fun _ => val_extract rfl rfl) ?_
   refine yV (kq 41 (.extract (.tmp 36) 2)) (fun _ => val_extract rfl rfl) ?_
   refine yA 5 39 ?_
   refine yA 6 40 ?_
   refine yA 7 41 ?_
   refine Sch.nil ?_
   refine run_sq ?_
   refine run_pl [yy 0, yy 1, yy 2, yy 3, nn 4, yy 5, nn 6, nn 7, nn 8] ?_
   refine yM 42 4 ?_
   refine yM 43 3 ?_
   refine yM 44 4 ?_
   refine yS (kq 45 (.call { callee := .builtin .len, args := #[(.tmp 44)], argTypes := #[23] })) rfl rfl (fun w' hS => hb.lenV rfl Tryz.underlying23 w' ) ?_
   refine cS (kq 46 (.call { callee := .value (.func 15), args := #[(.tmp 43), (.tmp 45)], argTypes := #[28, 3] })) rfl rfl (ent Tryz.call15 rfl) (next_any (n := (bl.length : Int)) hF (by decide) hd (by omega) (by omega)) ?_
   rintro vw7 w7 ⟨z, rfl, hz, hs, hd⟩
   refine ⟨trivial, ?_⟩
   replace hF := hF.st hs
   replace hT := hT.t hs; replace hl := hl.t hs; replace hb := hb.t hs; replace hp1 := hp1.t hs
   have hzl : z < bl.length := by omega
   refine iS (e := 49) (kq 47 (.indexAddr 23 (.tmp 42) (.tmp 46))) rfl rfl hb rfl (by kernel_rfl) rfl (by omega) (by omega) ?_
   intro b47 o47 h47
   try simp only [Int.toNat_natCast] at h47
   refine lNA (kq 48 (.load 49 (.tmp 47))) rfl rfl trivial h47 (by kernel_rfl) (by kernel_rfl) rfl rfl ?_
   intro v48 g48
   obtain rfl := rv_bond.1 g48
   obtain ⟨xb, hx⟩ : ∃ xb, xb = (bl[z]'hzl) := ⟨_, rfl⟩
   rw [← hx]
   have hxm : xb ∈ bl := by rw [hx]; exact List.getElem_mem hzl
   have hxo := hv.2.1 xb hxm
   have hne := okB_ne hxo
   have hO : ∀ s i (h : i < (apD xb s).length), dcsOK (apD xb s)[i] := fun s i h => apD_ok hxo h
   have hA1 : ∀ s i (h : i + 1 < (apD xb s).length), cmpD (apD xb s)[i] (apD xb s)[i + 1] < 0 := fun s i h => by simp [apD] at h
   refine aS (kq 8 (.alloc 49)) rfl rfl (a_alloc (cs := [.int .i64 0, .int .i64 0, .int .i64 0, .int .i64 0, .int .i64 0]) hF 4 (by kernel_rfl)) ?_
   rintro _ w8 ⟨Cw8, bw8, rfl, hs, bx, hF⟩
   refine ⟨trivial, ?_⟩
   replace hT := hT.t hs; replace hl := hl.t hs
   replace hd := hd.st hs (by first | decide | (simp <;> omega)) (by first | decide | (simp <;> omega))
   replace hb := hb.t hs; replace hp1 := hp1.t hs; replace h47 := h47.t hs
   refine aN (k0 (.store 49 (.tmp 8) (.tmp 48))) rfl (a_storeAll (vs := encB xb) (n := 5) rfl rfl (by kernel_rfl) rfl rfl (by intro u hu; simp only [encB, List.mem_cons, List.not_mem_nil, or_false] at hu; rcases hu with rfl | rfl | rfl | rfl | rfl <;> rfl) bx rfl) ?_
   rintro _ w9 ⟨rfl, hs, bx⟩
   refine ⟨trivial, ?_⟩
   replace hF := hF.st hs
   replace hT := hT.t hs; replace hl := hl.t hs
   replace hd := hd.st hs (by first | decide | (simp <;> omega)) (by first | decide | (simp <;> omega))
   replace hb := hb.t hs; replace hp1 := hp1.t hs; replace h47 := h47.t hs
   refine Sch.nil ?_
   refine run_sq ?_
   refine run_pl [yy 0, nn 1, yy 2, nn 3, yy 4, nn 5, yy 6] ?_
   refine yF 49 49 8 0 0 ?_
   refine nS (kq 50 (.load 47 (.tmp 49))) rfl rfl trivial (val_loadOwnAgg (n := 2) (vs := encR xb.A) bx.at_ (by kernel_rfl) (by kernel_rfl) rfl rfl rfl) ?_
   refine yF 51 49 8 1 2 ?_
   refine nS (kq 52 (.load 47 (.tmp 51))) rfl rfl trivial (val_loadOwnAgg (n := 2) (vs := encR xb.B) bx.at_ (by kernel_rfl) (by kernel_rfl) rfl rfl rfl) ?_
   refine yV (kq 53 (.build 52 #[(0, (.tmp 50)), (1, (.tmp 52)), (2, (.const (.int .i64 1))), (3, (.const (.int .i64 1)))])) (fun _ => val_build (zs := [.int .i64 0, .int .i64 0, .int .i64 0, .int .i64 0, .int .i64 0, .int .i64 0, .bool false]) (ps := [(0, 2), (2, 2), (4, 1), (5, 1), (6, 1)]) (qs := [(0, encR xb.A), (1, encR xb.B), (2, [.int .i64 1]), (3, [.int .i64 1])]) (cs := encD (⟨xb.A, xb.B, 1, 1, false⟩ : Dcs)) (by kernel_rfl) (by kernel_rfl) (by exact ⟨rfl, ⟨_, rfl, rfl⟩, rfl, ⟨_, rfl, rfl⟩, rfl, ⟨_, rfl, rfl⟩, rfl, ⟨_, rfl, rfl⟩, trivial⟩) rfl) ?_
   refine aS (kq 54 (.buildSlice 24 1 #[(0, (.tmp 53))])) rfl rfl (a_buildSlice (ys := (apD xb false : List Dcs)) (e := 52) (bytes := 56) hF (by kernel_rfl) rfl (by decide) (by decide) ⟨rfl, ⟨_, rfl, rv_dcs.2 rfl⟩, trivial⟩) ?_
   rintro v54 w10 ⟨hs, hz, hF⟩
   refine ⟨trivial, ?_⟩
   replace hT := hT.t hs; replace hl := hl.t hs
   replace hd := hd.st hs (by first | decide | (simp <;> omega)) (by first | decide | (simp <;> omega))
   replace hb := hb.t hs; replace hp1 := hp1.t hs; replace h47 := h47.t hs; replace bx := bx.t hs
   refine yA 9 54 ?_
   refine Sch.nil ?_
   refine run_sq ?_
   refine run_pl [yy 0, yy 1, nn 2, yy 3, yy 4, yy 5, yy 6, yy 7, yy 8, yy 9] ?_
   refine yM 56 4 ?_
   refine yM 57 9 ?_
   refine cS (kq 58 (.call { callee := .value (.func 23), args := #[(.tmp 56), (.tmp 57)], argTypes := #[23, 24] })) rfl rfl (ent Tryz.call23 rfl) (solveY_ok (ds := (apD xb false)) hF hb hz hv (by omega) (by show 1 ≤ 4096; decide) (hO false) (hA1 false)) ?_
   rintro _ w11 ⟨hs, zs2, vp2, hSt2, rfl, hp2⟩
   obtain ⟨hP1, hmax1⟩ := exact_max hv (by omega) hSt1
   obtain ⟨hP2, _⟩ := exact_max hv (by omega) hSt2
   have hle2 := hmax1 zs2 (hP2.free (ds := []) (fun a b h => by cases h))
   have hno := fun p (hp : p ∈ zs2) => apart_no hP2 hne hp
   refine ⟨trivial, ?_⟩
   replace hF := hF.st hs
   replace hT := hT.t hs; replace hl := hl.t hs
   replace hd := hd.st hs (by first | decide | (simp <;> omega)) (by first | decide | (simp <;> omega))
   replace hb := hb.t hs; replace hp1 := hp1.t hs; replace h47 := h47.t hs; replace bx := bx.t hs; replace hz := hz.t hs
   refine yM 55 58 ?_
   refine yV (kq 59 (.extract (.tmp 55) 0)) (fun _ => val_extract rfl rfl) ?_
   refine yV (kq 60 (.extract (.tmp 55) 1)) (fun _ => val_extract rfl rfl) ?_
   refine yV (kq 61 (.extract (.tmp 55) 2)) (fun _ => val_extract rfl rfl) ?_
   refine yA 10 59 ?_
   refine yA 11 60 ?_
   refine yA 12 61 ?_
   refine Sch.nil ?_
   refine run_sq ?_
   refine run_sq ?_
   refine run_pl [yy 0, yy 1, yy 2] ?_
   refine yM 62 10 ?_
   refine yS (kq 63 (.call { callee := .builtin .len, args := #[(.tmp 62)], argTypes := #[25] })) rfl rfl (fun w' hS => hp2.lenV rfl Tryz.underlying25 w' ) ?_
   refine yV (kq 64 (.move (.const (.int .i64 0)))) (fun _ => val_move rfl) ?_
   refine Sch.nil ?_
   refine run_bk 0 ?_
   
   refine run_lp (ι := Nat × (Nat → Nat)) (I := fun x w => x.1 ≤ zs2.length ∧ Lim w x.2 ∧ Stp [2, 3, 4, 5, 6, 7, 8, 9] w₀ (col1 C) w x.2 ∧ RV w (Mc x.2) bl vb ∧ OwnB w x.2 4 bw8 (.cells (encB xb).toArray 49) ∧ RV w (Mc x.2) zs1 vp1 ∧ RV w (Mc x.2) zs2 vp2) (e := fun x => [(4, vb), (6, .int .i64 (valueB bl zs1)), (7, .int .i64 0), (8, .pointer (some ⟨bw8, 0, none⟩)), (11, .int .i64 (valueB bl zs2)), (12, .int .i64 0), (62, vp2), (63, .int .i64 zs2.length), (64, .int .i64 x.1)]) (m := fun x => zs2.length - x.1) (x₀ := (0, Cw8)) (sr 4 (sr 6 (sr 7 (sr 8 (sr 11 (sr 12 (sr 62 (sr 63 (sr 64 (sub_nil _)))))))))) ?_ ?_
   · exact ⟨Nat.zero_le _, hF, hT, hb, bx, hp1, hp2⟩
   intro ⟨k, C1⟩ w12 hI next
   obtain ⟨hk, hF, hT, hb, bx, hp1, hp2⟩ := hI
   try simp only at hk hF hT hb bx hp1 hp2
   have next1 := next
   clear next
   show Run _ _ _ _ [(4, vb), (6, .int .i64 (valueB bl zs1)), (7, .int .i64 0), (8, .pointer (some ⟨bw8, 0, none⟩)), (11, .int .i64 (valueB bl zs2)), (12, .int .i64 0), (62, vp2), (63, .int .i64 zs2.length), (64, .int .i64 k)] _ _
   have hle := hp2.le
   refine run_sq ?_
   refine run_pl [yy 0] ?_
   refine yV (kq 65 (.binOp .lss 3 (.tmp 64) (.tmp 63) 3)) (fun _ => val_lss rfl rfl) ?_
   refine Sch.nil ?_
   refine run_sq ?_
   refine run_i 65 rfl (fun h65 => ?_) (fun h65 => ?_)
   ·
    have hkl : k < zs2.length := by omega
    have hnk := hno _ (List.getElem_mem hkl)
    refine run_sk ?_
    refine run_sq ?_
    refine run_bk 1 ?_
    refine run_sq ?_
    refine run_pl [yy 0, nn 1, yy 2] ?_
    refine iS (e := 53) (kq 66 (.indexAddr 25 (.tmp 62) (.tmp 64))) rfl rfl hp2 rfl (by kernel_rfl) rfl (by omega) (by omega) ?_
    intro b66 o66 h66
    try simp only [Int.toNat_natCast] at h66
    refine lN (kq 67 (.load 53 (.tmp 66))) rfl rfl trivial h66 (by kernel_rfl) rfl rfl ?_
    intro v67 g67
    refine yA 14 67 ?_
    refine Sch.nil ?_
    refine run_sq ?_
    by_cases hA : xb.A ∈ (zs2[k]'hkl)
    ·
     refine run_pl [yy 0, yy 1, nn 2, nn 3, yy 4, yy 5, yy 6, yy 7, nn 8, nn 9, yy 10, yy 11] ?_
     refine yM 68 14 ?_
     refine yF 69 49 8 0 0 ?_
     refine nS (kq 70 (.load 47 (.tmp 69))) rfl rfl trivial (val_loadOwnAgg (n := 2) (vs := encR xb.A) bx.at_ (by kernel_rfl) (by kernel_rfl) rfl rfl rfl) ?_
     refine cS (kq 71 (.call { callee := .value (.func 32), args := #[(.tmp 68), (.tmp 70)], argTypes := #[53, 47] })) rfl rfl (ent Tryz.call32 rfl) (refIndex_ok (c := xb.A) hF g67) ?_
     rintro vw13 w13 ⟨rfl, hs⟩
     refine ⟨trivial, ?_⟩
     replace hF := hF.st hs
     replace hT := hT.t hs; replace hb := hb.t hs; replace bx := bx.t hs; replace hp1 := hp1.t hs; replace hp2 := hp2.t hs; replace h66 := h66.t hs; replace g67 := g67.t hs
     refine yV (kq 72 (.binOp .geq 3 (.tmp 71) (.const (.int .i64 0)) 3)) (fun _ => val_T (val_geq rfl rfl) (idx_mem.2 hA)) ?_
     refine yM 73 72 ?_
     refine yMg 74 14 5 true ?_
     refine yFg 75 49 8 1 2 5 true ?_
     refine nS (kg 76 (.load 47 (.tmp 75)) 5 true) rfl rfl trivial (val_loadOwnAgg (n := 2) (vs := encR xb.B) bx.at_ (by kernel_rfl) (by kernel_rfl) rfl rfl rfl) ?_
     refine cS (kg 77 (.call { callee := .value (.func 32), args := #[(.tmp 74), (.tmp 76)], argTypes := #[53, 47] }) 5 true) rfl rfl (ent Tryz.call32 rfl) (refIndex_ok (c := xb.B) hF g67) ?_
     rintro vw14 w14 ⟨rfl, hs⟩
     refine ⟨trivial, ?_⟩
     replace hF := hF.st hs
     replace hT := hT.t hs; replace hb := hb.t hs; replace bx := bx.t hs; replace hp1 := hp1.t hs; replace hp2 := hp2.t hs; replace h66 := h66.t hs; replace g67 := g67.t hs
     refine yV (kg 78 (.binOp .geq 3 (.tmp 77) (.const (.int .i64 0)) 3) 5 true) (fun _ => val_F (val_geq rfl rfl) (fun e => hnk ⟨hA, idx_mem.1 e⟩)) ?_
     refine yAt 79 73 78 ?_
     refine Sch.nil ?_
     refine run_cF 79 ?_
     refine run_sk ?_
     refine run_inBlock ?_
     refine run_pl [yy 0, yy 1] ?_
     refine yV (kq 80 (.binOp .add 3 (.tmp 64) (.const (.int .i64 1)) 3)) (fun _ => val_addi rfl rfl (by omega) (by omega)) ?_
     refine yM 64 80 ?_
     refine Sch.nil ?_
     refine kp (sub_cons 4 rfl rfl (sub_cons 6 rfl rfl (sub_cons 7 rfl rfl (sub_cons 8 rfl rfl (sub_cons 11 rfl rfl (sub_cons 12 rfl rfl (sub_cons 62 rfl rfl (sub_cons 63 rfl rfl (sub_cons 64 rfl (eq_int (by simp)) (sub_nil _)))))))))) (next1 (k + 1, C1) _ ⟨(by first | omega | (simp only; omega)), hF, hT, hb, bx, hp1, hp2⟩ (by first | omega | (simp only; omega)))
    ·
     refine run_pl [yy 0, yy 1, nn 2, nn 3, yy 4, yy 5, yy 6, yy 7, nn 8, nn 9, yy 10, yy 11] ?_
     refine yM 68 14 ?_
     refine yF 69 49 8 0 0 ?_
     refine nS (kq 70 (.load 47 (.tmp 69))) rfl rfl trivial (val_loadOwnAgg (n := 2) (vs := encR xb.A) bx.at_ (by kernel_rfl) (by kernel_rfl) rfl rfl rfl) ?_
     refine cS (kq 71 (.call { callee := .value (.func 32), args := #[(.tmp 68), (.tmp 70)], argTypes := #[53, 47] })) rfl rfl (ent Tryz.call32 rfl) (refIndex_ok (c := xb.A) hF g67) ?_
     rintro vw15 w15 ⟨rfl, hs⟩
     refine ⟨trivial, ?_⟩
     replace hF := hF.st hs
     replace hT := hT.t hs; replace hb := hb.t hs; replace bx := bx.t hs; replace hp1 := hp1.t hs; replace hp2 := hp2.t hs; replace h66 := h66.t hs; replace g67 := g67.t hs
     refine yV (kq 72 (.binOp .geq 3 (.tmp 71) (.const (.int .i64 0)) 3)) (fun _ => val_F (val_geq rfl rfl) (fun e => hA (idx_mem.1 e))) ?_
     refine yM 73 72 ?_
     refine pX 74 5 true ?_
     refine pX 75 5 true ?_
     refine pW (kg 76 (.load 47 (.tmp 75)) 5 true) rfl rfl trivial ?_
     refine pW (kg 77 (.call { callee := .value (.func 32), args := #[(.tmp 74), (.tmp 76)], argTypes := #[53, 47] }) 5 true) rfl rfl trivial ?_
     refine pX 78 5 true ?_
     refine yAf 79 73 78 ?_
     refine Sch.nil ?_
     refine run_cF 79 ?_
     refine run_sk ?_
     refine run_inBlock ?_
     refine run_pl [yy 0, yy 1] ?_
     refine yV (kq 80 (.binOp .add 3 (.tmp 64) (.const (.int .i64 1)) 3)) (fun _ => val_addi rfl rfl (by omega) (by omega)) ?_
     refine yM 64 80 ?_
     refine Sch.nil ?_
     refine kp (sub_cons 4 rfl rfl (sub_cons 6 rfl rfl (sub_cons 7 rfl rfl (sub_cons 8 rfl rfl (sub_cons 11 rfl rfl (sub_cons 12 rfl rfl (sub_cons 62 rfl rfl (sub_cons 63 rfl rfl (sub_cons 64 rfl (eq_int (by simp)) (sub_nil _)))))))))) (next1 (k + 1, C1) _ ⟨(by first | omega | (simp only; omega)), hF, hT, hb, bx, hp1, hp2⟩ (by first | omega | (simp only; omega)))
   ·
    have hkl : k = zs2.length := by omega
    refine run_ex 0 ?_
    refine run_sq ?_
    refine run_pl [yy 0, yy 1, nn 2, yy 3, nn 4, yy 5, nn 6, nn 7, yy 8, yy 9, yy 10, yy 11, yy 12, yy 13, yy 14] ?_
    refine yM 82 4 ?_
    refine yF 83 49 8 0 0 ?_
    refine nS (kq 84 (.load 47 (.tmp 83))) rfl rfl trivial (val_loadOwnAgg (n := 2) (vs := encR xb.A) bx.at_ (by kernel_rfl) (by kernel_rfl) rfl rfl rfl) ?_
    refine yF 85 49 8 1 2 ?_
    refine nS (kq 86 (.load 47 (.tmp 85))) rfl rfl trivial (val_loadOwnAgg (n := 2) (vs := encR xb.B) bx.at_ (by kernel_rfl) (by kernel_rfl) rfl rfl rfl) ?_
    refine yV (kq 87 (.build 52 #[(0, (.tmp 84)), (1, (.tmp 86)), (2, (.const (.int .i64 1))), (3, (.const (.int .i64 1))), (4, (.const (.bool true)))])) (fun _ => val_build (zs := [.int .i64 0, .int .i64 0, .int .i64 0, .int .i64 0, .int .i64 0, .int .i64 0, .bool false]) (ps := [(0, 2), (2, 2), (4, 1), (5, 1), (6, 1)]) (qs := [(0, encR xb.A), (1, encR xb.B), (2, [.int .i64 1]), (3, [.int .i64 1]), (4, [.bool true])]) (cs := encD (⟨xb.A, xb.B, 1, 1, true⟩ : Dcs)) (by kernel_rfl) (by kernel_rfl) (by exact ⟨rfl, ⟨_, rfl, rfl⟩, rfl, ⟨_, rfl, rfl⟩, rfl, ⟨_, rfl, rfl⟩, rfl, ⟨_, rfl, rfl⟩, rfl, ⟨_, rfl, rfl⟩, trivial⟩) rfl) ?_
    refine aS (kq 88 (.buildSlice 24 1 #[(0, (.tmp 87))])) rfl rfl (a_buildSlice (ys := (apD xb true : List Dcs)) (e := 52) (bytes := 56) hF (by kernel_rfl) rfl (by decide) (by decide) ⟨rfl, ⟨_, rfl, rv_dcs.2 rfl⟩, trivial⟩) ?_
    rintro v88 w16 ⟨hs, hz3, hF⟩
    refine ⟨trivial, ?_⟩
    replace hT := hT.t hs; replace hb := hb.t hs; replace bx := bx.t hs; replace hp1 := hp1.t hs; replace hp2 := hp2.t hs
    refine cS (kq 89 (.call { callee := .value (.func 23), args := #[(.tmp 82), (.tmp 88)], argTypes := #[23, 24] })) rfl rfl (ent Tryz.call23 rfl) (solveY_ok (ds := (apD xb true)) hF hb hz3 hv (by omega) (by show 1 ≤ 4096; decide) (hO true) (hA1 true)) ?_
    rintro _ w17 ⟨hs, zs3, vp3, hSt3, rfl, hp3⟩
    rw [wayX_congr (ds := apD xb true) (ds' := []) (apD_same xb)] at hSt3
    have hz31 : zs1 = zs3 := wayX_eq hSt1 hSt3
    subst hz31
    refine ⟨trivial, ?_⟩
    replace hF := hF.st hs
    replace hT := hT.t hs; replace hb := hb.t hs; replace bx := bx.t hs; replace hp1 := hp1.t hs; replace hp2 := hp2.t hs; replace hz3 := hz3.t hs
    refine yM 81 89 ?_
    refine yV (kq 90 (.extract (.tmp 81) 0)) (fun _ => val_extract rfl rfl) ?_
    refine yV (kq 91 (.extract (.tmp 81) 1)) (fun _ => val_extract rfl rfl) ?_
    refine yV (kq 92 (.extract (.tmp 81) 2)) (fun _ => val_extract rfl rfl) ?_
    refine yA 15 90 ?_
    refine yA 16 91 ?_
    refine yA 17 92 ?_
    refine Sch.nil ?_
    refine run_sq ?_
    refine run_pl [yy 0, nn 1, yy 2, yy 3, yy 4, yy 5, yy 6, yy 7, yy 8] ?_
    refine yM 94 4 ?_
    refine cS (kq 95 (.call { callee := .value (.func 23), args := #[(.tmp 94), (.const (.slice none 0 0))], argTypes := #[23, 24] })) rfl rfl (ent Tryz.call23 rfl) (solveY_ok (ds := []) hF hb rv_nil hv (by omega) (by decide) (fun i h => by cases h) (fun i h => by cases h)) ?_
    rintro _ w18 ⟨hs, zs4, vp4, hSt4, rfl, hp4⟩
    have hz41 : zs1 = zs4 := wayX_eq hSt1 hSt4
    subst hz41
    refine ⟨trivial, ?_⟩
    replace hF := hF.st hs
    replace hT := hT.t hs; replace hb := hb.t hs; replace bx := bx.t hs; replace hp1 := hp1.t hs; replace hp2 := hp2.t hs; replace hz3 := hz3.t hs; replace hp3 := hp3.t hs
    refine yM 93 95 ?_
    refine yV (kq 96 (.extract (.tmp 93) 0)) (fun _ => val_extract rfl rfl) ?_
    refine yV (kq 97 (.extract (.tmp 93) 1)) (fun _ => val_extract rfl rfl) ?_
    refine yV (kq 98 (.extract (.tmp 93) 2)) (fun _ => val_extract rfl rfl) ?_
    refine yA 18 96 ?_
    refine yA 19 97 ?_
    refine yA 20 98 ?_
    refine Sch.nil ?_
    refine run_sq ?_
    refine run_pl [yy 0, yy 1, yy 2, yy 3, yy 4, yy 5, yy 6, yy 7, yy 8, yy 9, yy 10, yy 11, yy 12, yy 13, yy 14, yy 15, yy 16, yy 17, yy 18, yy 19, yy 20, yy 21, yy 22, yy 23, yy 24, yy 25, yy 26, yy 27, yy 28, yy 29, yy 30, yy 31, nn 32, yy 33, yy 34] ?_
    refine yM 99 7 ?_
    refine yV (kq 100 (.binOp .eql 36 (.tmp 99) (.const (.int .i64 0)) 36)) (fun _ => val_T (val_eql rfl rfl) rfl) ?_
    refine yM 101 100 ?_
    refine yMg 102 12 2 true ?_
    refine yV (kg 103 (.binOp .eql 36 (.tmp 102) (.const (.int .i64 0)) 36) 2 true) (fun _ => val_T (val_eql rfl rfl) rfl) ?_
    refine yAt 104 101 103 ?_
    refine yM 105 104 ?_
    refine yMg 106 17 6 true ?_
    refine yV (kg 107 (.binOp .eql 36 (.tmp 106) (.const (.int .i64 0)) 36) 6 true) (fun _ => val_T (val_eql rfl rfl) rfl) ?_
    refine yAt 108 105 107 ?_
    refine yM 109 108 ?_
    refine yMg 110 20 10 true ?_
    refine yV (kg 111 (.binOp .eql 36 (.tmp 110) (.const (.int .i64 0)) 36) 10 true) (fun _ => val_T (val_eql rfl rfl) rfl) ?_
    refine yAt 112 109 111 ?_
    refine yM 113 112 ?_
    refine yMg 114 11 14 true ?_
    refine yMg 115 6 14 true ?_
    refine yV (kg 116 (.binOp .leq 3 (.tmp 114) (.tmp 115) 3) 14 true) (fun _ => val_T (val_leq rfl rfl) hle2) ?_
    refine yAt 117 113 116 ?_
    refine yM 118 117 ?_
    refine yMg 119 16 19 true ?_
    refine yMg 120 6 19 true ?_
    refine yV (kg 121 (.binOp .eql 3 (.tmp 119) (.tmp 120) 3) 19 true) (fun _ => val_T (val_eql rfl rfl) rfl) ?_
    refine yAt 122 118 121 ?_
    refine yM 123 122 ?_
    refine yMg 124 19 24 true ?_
    refine yMg 125 6 24 true ?_
    refine yV (kg 126 (.binOp .eql 3 (.tmp 124) (.tmp 125) 3) 24 true) (fun _ => val_T (val_eql rfl rfl) rfl) ?_
    refine yAt 127 123 126 ?_
    refine yM 128 127 ?_
    refine yMg 129 15 29 true ?_
    refine yMg 130 18 29 true ?_
    refine cS (kg 131 (.call { callee := .value (.func 20), args := #[(.tmp 129), (.tmp 130)], argTypes := #[25, 25] }) 29 true) rfl rfl (ent Tryz.call20 rfl) (sameParts_ok hF hp3 hp4) ?_
    rintro vw19 w19 ⟨rfl, hs⟩
    refine ⟨trivial, ?_⟩
    replace hF := hF.st hs
    replace hT := hT.t hs; replace hb := hb.t hs; replace bx := bx.t hs; replace hp1 := hp1.t hs; replace hp2 := hp2.t hs; replace hz3 := hz3.t hs; replace hp3 := hp3.t hs; replace hp4 := hp4.t hs
    refine yAt 132 128 131 ?_
    refine yA 2 132 ?_
    refine Sch.nil ?_
    refine run_ret1 (by kernel_rfl) Tryz.func6 Tryz.results6 rfl ?_
    exact ⟨rfl, hT.out1 (by decide)⟩
namespace F6B
noncomputable def c0 := bodyOf Tryz.f6
noncomputable def c7 := (cl (cl (cr (cl (cr c0)))))
noncomputable def c15 := (cl (cr (cr (cr (cr c0)))))
noncomputable def c22 := (cr (cr (cr (cr (cr c0)))))
noncomputable def c31 := (cl (cr (cr (cr (cr c22)))))
noncomputable def c38 := (cl (cr (cl (cl (cr c31)))))
noncomputable def c41 := (cr (cr (cl (cl (cr c31)))))
noncomputable def c48 := (cl (cr (cr (cl (cl c41)))))
noncomputable def c53 := (cr (cr (cr (cr (cr c22)))))
end F6B
/-- .. where more is handed than it looks at. -/
theorem clusterApart_big {w₀ : World} {C : Nat → Nat} {p : Option Addr} {n c : Nat} (hF : Lim w₀ C) (hn : 400 < n) : Calls Tryz.prog 6 #[.slice p n c] w₀ (Ret fun v w' => v = .bool true ∧ Stp [] w₀ C w' C) := by
 have hF0 := hF
 have hT := Stp.refl [2, 3, 4, 5, 6, 7, 8, 9] w₀ (col1 C)
 replace hF := hF.col1
 refine calls_start (c := F6B.c0) (N := 133) [.slice p n c] Tryz.func6 (by kernel_rfl) (by kernel_rfl) (by kernel_rfl) ?_
 show Run _ _ _ _ [(0, .slice p n c)] _ _
 refine run_sq ?_
 refine run_pl [yy 0] ?_
 refine yAc 2 (.bool false) ?_
 refine Sch.nil ?_
 refine run_sq ?_
 refine run_sq ?_
 refine run_pl [nn 0, yy 1, yy 2, yy 3, nn 4, yy 5, yy 6] ?_
 refine cS (kq 21 (.call { callee := .value (.func 11), args := #[], argTypes := #[] })) rfl rfl (ent Tryz.call11 rfl) (awake_ok hF) ?_
 rintro vw1 w1 ⟨rfl, hs⟩
 refine ⟨trivial, ?_⟩
 replace hF := hF.st hs
 replace hT := hT.t hs
 refine yV (kq 22 (.unOp .not 4 (.tmp 21))) (fun _ => val_not rfl) ?_
 refine yM 23 22 ?_
 refine yMg 24 0 2 false ?_
 refine cS (kg 25 (.call { callee := .value (.func 12), args := #[(.tmp 24)], argTypes := #[22] }) 2 false) rfl rfl (ent Tryz.call12 rfl) (few_ok _ _ _ _) ?_
 rintro vw2 w2 ⟨rfl, rfl⟩
 refine ⟨trivial, ?_⟩
 rw [decide_eq_false (show ¬ (n : Int) ≤ 400 by omega)]
 refine yV (kg 26 (.unOp .not 4 (.tmp 25)) 2 false) (fun _ => val_not rfl) ?_
 refine yOf 27 23 26 ?_
 refine Sch.nil ?_
 refine run_cT 27 ?_
 refine run_sq ?_
 refine run_pl [nn 0, yy 1] ?_
 refine cS (kq 28 (.call { callee := .value (.func 11), args := #[], argTypes := #[] })) rfl rfl (ent Tryz.call11 rfl) (awake_ok hF) ?_
 rintro vw3 w3 ⟨rfl, hs⟩
 refine ⟨trivial, ?_⟩
 replace hF := hF.st hs
 replace hT := hT.t hs
 refine yA 2 28 ?_
 refine Sch.nil ?_
 refine run_ret1 (by kernel_rfl) Tryz.func6 Tryz.results6 rfl ?_
 exact ⟨rfl, hT.out1 (by decide)⟩
end Go.Proofs.YtdmgmlmlielfbaaGreat
