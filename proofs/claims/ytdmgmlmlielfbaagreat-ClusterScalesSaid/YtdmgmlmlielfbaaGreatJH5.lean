/- Steps through functions of the program. -/
import Derived.Test.YtdmgmlmlielfbaaGreatJH3
set_option linter.unusedVariables false
set_option linter.unusedSimpArgs false
set_option maxRecDepth 100000
set_option maxHeartbeats 4000000
namespace Go.Proofs.YtdmgmlmlielfbaaGreat
open Go.K Go.K.Rep

namespace F7
noncomputable def c0 := bodyOf Tryz.f7
noncomputable def c7 := (cl (cl (cr (cl (cr c0)))))
noncomputable def c15 := (cl (cr (cr (cr (cr c0)))))
noncomputable def c16 := (cr (cr (cr (cr (cr c0)))))
noncomputable def c23 := (cl (cl (cr (cl (cr c16)))))
noncomputable def c32 := (cl (cl (cl (cr (cr c23)))))
noncomputable def c33 := (cr (cl (cl (cr (cr c23)))))
noncomputable def c40 := (cl (cr (cr (cr (cr c16)))))
noncomputable def c41 := (cr (cr (cr (cr (cr c16)))))
end F7
/-- Persons do not change when all weights are multiplied by one number, and the value is multiplied, too. -/
theorem clusterScales_ok {w₀ : World} {C : Nat → Nat} {l : List Int} {vl : Value} {mm : Nat} (hm8 : mm < 256) (hF : Lim w₀ C) (hl : RV w₀ (Mc C) l vl) : Calls Tryz.prog 7 #[vl, .int .u8 (mm : Int)] w₀ (Ret fun v w' => v = .bool true ∧ Stp [] w₀ C w' C) := by
 have hF0 := hF
 have hT := Stp.refl [2, 3, 4, 5, 6, 7, 8, 9] w₀ (col1 C)
 replace hF := hF.col1
 replace hl : RV w₀ (Mc (col1 C)) l vl := by rw [Mc_col1]; exact hl
 refine calls_start (c := F7.c0) (N := 123) [vl, .int .u8 (mm : Int)] Tryz.func7 (by kernel_rfl) (by kernel_rfl) (by kernel_rfl) ?_
 show Run _ _ _ _ [(0, vl), (1, .int .u8 (mm : Int))] _ _
 refine run_sq ?_
 refine run_pl [yy 0] ?_
 refine yAc 4 (.bool false) ?_
 refine Sch.nil ?_
 refine run_sq ?_
 refine run_sq ?_
 refine run_pl [nn 0, yy 1, yy 2, yy 3, nn 4, yy 5, yy 6] ?_
 refine cS (kq 23 (.call { callee := .value (.func 11), args := #[], argTypes := #[] })) rfl rfl (ent Tryz.call11 rfl) (awake_ok hF) ?_
 rintro vw1 w1 ⟨rfl, hs⟩
 refine ⟨trivial, ?_⟩
 replace hF := hF.st hs
 replace hT := hT.t hs; replace hl := hl.t hs
 refine yV (kq 24 (.unOp .not 4 (.tmp 23))) (fun _ => val_not rfl) ?_
 refine yM 25 24 ?_
 refine yMg 26 0 2 false ?_
 refine cS (kg 27 (.call { callee := .value (.func 12), args := #[(.tmp 26)], argTypes := #[22] }) 2 false) rfl rfl (ent Tryz.call12 rfl) (few_any hl) ?_
 rintro vw2 w2 ⟨rfl, rfl⟩
 refine ⟨trivial, ?_⟩
 refine yV (kg 28 (.unOp .not 4 (.tmp 27)) 2 false) (fun _ => val_notd rfl) ?_
 refine yOf 29 25 28 ?_
 refine Sch.nil ?_
 refine run_i 29 rfl (fun h29 => ?_) (fun h29 => ?_)
 ·
  refine run_sq ?_
  refine run_pl [nn 0, yy 1] ?_
  refine cS (kq 30 (.call { callee := .value (.func 11), args := #[], argTypes := #[] })) rfl rfl (ent Tryz.call11 rfl) (awake_ok hF) ?_
  rintro vw3 w3 ⟨rfl, hs⟩
  refine ⟨trivial, ?_⟩
  replace hF := hF.st hs
  replace hT := hT.t hs; replace hl := hl.t hs
  refine yA 4 30 ?_
  refine Sch.nil ?_
  refine run_ret1 (by kernel_rfl) Tryz.func7 Tryz.results7 rfl ?_
  exact ⟨rfl, hT.out1 (by decide)⟩
 ·
  refine run_sk ?_
  refine run_sq ?_
  refine run_pl [yy 0, nn 1, yy 2] ?_
  refine yM 31 0 ?_
  refine cS (kq 32 (.call { callee := .value (.func 13), args := #[(.tmp 31)], argTypes := #[22] })) rfl rfl (ent Tryz.call13 rfl) (new_any hF hl) ?_
  rintro vw4 w4 ⟨Cd, bd, rfl, hs, hF, hd⟩
  refine ⟨trivial, ?_⟩
  replace hT := hT.t hs; replace hl := hl.t hs
  refine yA 5 32 ?_
  refine Sch.nil ?_
  refine run_sq ?_
  refine run_pl [yy 0, nn 1, yy 2, nn 3, yy 4, yy 5] ?_
  refine yM 33 5 ?_
  refine cS (kq 34 (.call { callee := .value (.func 14), args := #[(.tmp 33), (.const (.int .i64 3)), (.const (.int .i64 2)), (.const (.int .i64 2))], argTypes := #[28, 3, 3, 3] })) rfl rfl (ent Tryz.call14 rfl) (bonds_any (R := 3) (I := 2) (one := 2) hF (by decide) hd (by decide) (by decide) (by omega) (by omega)) ?_
  rintro vb w5 ⟨bl, hbl, ⟨hs, hb, hd⟩, _⟩
  refine ⟨trivial, ?_⟩
  replace hF := hF.st hs
  replace hT := hT.t hs; replace hl := hl.t hs
  have hv := hbl.vld (by decide) (by decide)
  have hrl := hbl.few
  have hbL := hv.1
  refine yM 35 5 ?_
  refine cS (kq 36 (.call { callee := .value (.func 30), args := #[(.tmp 35), (.const (.int .i64 3)), (.const (.int .i64 2)), (.const (.int .i64 9))], argTypes := #[28, 3, 3, 3] })) rfl rfl (ent Tryz.call30 rfl) (decs_any (R := 3) (I := 2) (one := 9) hF (by decide) hd (by decide) (by decide) (by omega) (by omega)) ?_
  rintro vz w6 ⟨dl, hdl, hs, hz, hd⟩
  refine ⟨trivial, ?_⟩
  replace hF := hF.st hs
  replace hT := hT.t hs; replace hl := hl.t hs; replace hb := hb.t hs
  refine yA 6 34 ?_
  refine yA 7 36 ?_
  refine Sch.nil ?_
  obtain ⟨kk, hkk⟩ : ∃ k : Int, k = 1 + (mm : Int) := ⟨_, rfl⟩
  have hk1 : 1 ≤ kk := by omega
  have hk256 : kk ≤ 256 := by omega
  have hbw : ∀ x ∈ bl, 1 ≤ x.w ∧ x.w ≤ 9 := fun x hx => by have := hbl.1 x hx; unfold okR at this; omega
  refine run_sq ?_
  refine run_pl [yy 0, yy 1, yy 2, yy 3] ?_
  refine yM 37 1 ?_
  refine yV (kq 38 (.convert 5 3 (.tmp 37))) (fun _ => val_convE (r := (mm : Int)) rfl ⟨_, Tryz.underlying5⟩ Tryz.underlying3 (wrap_i64 (by omega) (by omega))) ?_
  refine yV (kq 39 (.binOp .add 3 (.const (.int .i64 1)) (.tmp 38) 3)) (fun _ => val_addi rfl rfl (by omega) (by omega)) ?_
  refine yA 8 39 ?_
  refine Sch.nil ?_
  rw [← hkk]
  refine run_sq ?_
  refine run_pl [yy 0, nn 1, yy 2] ?_
  refine yM 40 6 ?_
  refine aS (kq 41 (.call { callee := .builtin .append, args := #[(.const (.slice none 0 0)), (.tmp 40)], argTypes := #[23, 23] })) rfl rfl (a_append (e := 49) (bytes := 40) hF (by decide) rfl rfl (by kernel_rfl) (by decide) (OwnL.nil (α := Bond) (j := 5)) hb (by simp only [List.length_append, List.length_cons, List.length_nil, List.length_take, List.length_drop, List.length_map]; omega) (by simp only [List.length_append, List.length_cons, List.length_nil, List.length_take, List.length_drop, List.length_map]; omega)) ?_
  rintro v41 w7 ⟨Cw7, hs, hn, hF⟩
  refine ⟨trivial, ?_⟩
  replace hT := hT.t hs; replace hl := hl.t hs
  replace hd := hd.st hs (by first | decide | (simp <;> omega)) (by first | decide | (simp <;> omega))
  replace hb := hb.t hs; replace hz := hz.t hs
  refine yA 9 41 ?_
  refine Sch.nil ?_
  simp only [List.nil_append] at hn
  clear hd
  rw [← scI_zero kk bl] at hn
  refine run_sq ?_
  refine run_sq ?_
  refine run_pl [yy 0, yy 1, yy 2] ?_
  refine yM 42 9 ?_
  refine yS (kq 43 (.call { callee := .builtin .len, args := #[(.tmp 42)], argTypes := #[23] })) rfl rfl (fun w' hS => hn.lenV rfl Tryz.underlying23 w' ) ?_
  refine yV (kq 44 (.move (.const (.int .i64 0)))) (fun _ => val_move rfl) ?_
  refine Sch.nil ?_
  refine run_bk 0 ?_
  
  refine run_lp (ι := Nat × (Nat → Nat)) (I := fun x w => x.1 ≤ bl.length ∧ Lim w x.2 ∧ Stp [2, 3, 4, 5, 6, 7, 8, 9] w₀ (col1 C) w x.2 ∧ RV w (Mc x.2) bl vb ∧ RV w (Mc x.2) dl vz ∧ OwnL w x.2 5 49 v41 (scI kk bl x.1)) (e := fun x => [(6, vb), (7, vz), (8, .int .i64 kk), (9, v41), (42, v41), (43, .int .i64 bl.length), (44, .int .i64 x.1)]) (m := fun x => bl.length - x.1) (x₀ := (0, Cw7)) (sr 6 (sr 7 (sr 8 (sr 9 (sr 42 (sub_cons 43 rfl (eq_int (by rw [scI_len])) (sr 44 (sub_nil _)))))))) ?_ ?_
  · exact ⟨Nat.zero_le _, hF, hT, hb, hz, hn⟩
  intro ⟨i, C1⟩ w8 hI next
  obtain ⟨hi, hF, hT, hb, hz, hn⟩ := hI
  try simp only at hi hF hT hb hz hn
  have next1 := next
  clear next
  show Run _ _ _ _ [(6, vb), (7, vz), (8, .int .i64 kk), (9, v41), (42, v41), (43, .int .i64 bl.length), (44, .int .i64 i)] _ _
  have hnl := scI_len kk bl i
  refine run_sq ?_
  refine run_pl [yy 0] ?_
  refine yV (kq 45 (.binOp .lss 3 (.tmp 44) (.tmp 43) 3)) (fun _ => val_lss rfl rfl) ?_
  refine Sch.nil ?_
  refine run_sq ?_
  refine run_i 45 rfl (fun h45 => ?_) (fun h45 => ?_)
  ·
   have hil : i < bl.length := by omega
   have hat : (scI kk bl i)[i]'(by omega) = bl[i] := scI_at hil _
   have hxw := sc_w hbw hk1 hk256 (List.getElem_mem hil)
   refine run_sk ?_
   refine run_sq ?_
   refine run_bk 1 ?_
   refine run_sq ?_
   refine run_pl [yy 0, yy 1] ?_
   refine yM 46 44 ?_
   refine yA 10 46 ?_
   refine Sch.nil ?_
   refine run_pl [yy 0, yy 1, yy 2, yy 3, nn 4, yy 5, yy 6, yy 7, yy 8, nn 9] ?_
   refine yM 47 9 ?_
   refine yM 48 10 ?_
   refine oI (e' := 49) (kq 49 (.indexAddr 23 (.tmp 47) (.tmp 48))) rfl rfl hn rfl (by kernel_rfl) rfl (by omega) (by omega) ?_
   intro g49 hg49
   try simp only [Int.toNat_natCast]
   refine yF 50 49 49 2 4 ?_
   refine nS (kq 51 (.load 3 (.tmp 50))) rfl rfl trivial (OwnL.cell (off := 4) (u := .int .i64 (bl[i]'hil).w) hn hg49 (by omega) (by decide) (by kernel_rfl) (fun vs hv => by rw [hat] at hv; rw [rep_bond.1 hv]; rfl) rfl _ rfl) ?_
   refine yM 52 8 ?_
   refine yV (kq 53 (.binOp .mul 3 (.tmp 51) (.tmp 52) 3)) (fun _ => val_muli rfl rfl (by omega) (by omega)) ?_
   refine oI (e' := 49) (kq 54 (.indexAddr 23 (.tmp 47) (.tmp 48))) rfl rfl hn rfl (by kernel_rfl) rfl (by omega) (by omega) ?_
   intro g54 hg54
   try simp only [Int.toNat_natCast]
   refine yF 55 49 54 2 4 ?_
   refine aN (k0 (.store 3 (.tmp 55) (.tmp 53))) rfl (a_storeF (off := 4) (k := 1) (us := [.int .i64 ((bl[i]'hil).w * kk)]) (x0 := (scB kk (bl[i]'hil))) hn hg54 (by omega) rfl rfl (by kernel_rfl) rfl rfl (by intro u hu; rw [List.mem_singleton.1 hu]; rfl) (by decide) (fun vs hv => by rw [hat] at hv; rw [rep_bond.1 hv]; exact rep_bond.2 rfl)) ?_
   rintro _ w9 ⟨rfl, hs, hn⟩
   refine ⟨trivial, ?_⟩
   replace hF := hF.st hs
   replace hT := hT.t hs; replace hb := hb.t hs; replace hz := hz.t hs
   rw [scI_set hil] at hn
   refine Sch.nil ?_
   refine run_inBlock ?_
   refine run_pl [yy 0, yy 1] ?_
   refine yV (kq 56 (.binOp .add 3 (.tmp 44) (.const (.int .i64 1)) 3)) (fun _ => val_addi rfl rfl (by omega) (by omega)) ?_
   refine yM 44 56 ?_
   refine Sch.nil ?_
   refine kp (sub_cons 6 rfl rfl (sub_cons 7 rfl rfl (sub_cons 8 rfl rfl (sub_cons 9 rfl rfl (sub_cons 42 rfl rfl (sub_cons 43 rfl rfl (sub_cons 44 rfl (eq_int (by simp)) (sub_nil _)))))))) (next1 (i + 1, C1) _ ⟨(by first | omega | (simp only; omega)), hF, hT, hb, hz, hn⟩ (by first | omega | (simp only; omega)))
  ·
   have hil : i = bl.length := by omega
   rw [hil, scI_all] at hn hnl
   have hvm := vld_sc hv (k := kk) (by omega) (fun x hx => by have := sc_w hbw hk1 hk256 hx; omega)
   have hrm : (refsS (scL kk bl)).length ≤ 6 := by rw [refs_sc]; exact hrl
   replace hF := hF.frz 5
   replace hT := hT.frz (n := 5) (fun b => Nat.lt_of_lt_of_le (col1_lt2 C b) (by decide))
   replace hb := hb.frz 5
   replace hz := hz.frz 5
   have hn_ := hn.frz (n := 5) (by decide) (by omega)
   replace hn := hn_
   clear hn_
   refine run_ex 0 ?_
   refine run_sq ?_
   refine run_pl [yy 0, yy 1, nn 2, yy 3, yy 4, yy 5, yy 6, yy 7, yy 8, yy 9] ?_
   refine yM 58 6 ?_
   refine yM 59 7 ?_
   refine cS (kq 60 (.call { callee := .value (.func 23), args := #[(.tmp 58), (.tmp 59)], argTypes := #[23, 24] })) rfl rfl (ent Tryz.call23 rfl) (solveY_ok (ds := dl) hF hb hz hv (by omega) hdl.len hdl.ok hdl.asc) ?_
   rintro _ w10 ⟨hs, zs1, vp1, hSt1, rfl, hp1⟩
   refine ⟨trivial, ?_⟩
   replace hF := hF.st hs
   replace hT := hT.t hs; replace hb := hb.t hs; replace hz := hz.t hs; replace hn := hn.t hs
   refine yM 57 60 ?_
   refine yV (kq 61 (.extract (.tmp 57) 0)) (fun _ => val_extract rfl rfl) ?_
   refine yV (kq 62 (.extract (.tmp 57) 1)) (fun _ => val_extract rfl rfl) ?_
   refine yV (kq 63 (.extract (.tmp 57) 2)) (fun _ => val_extract rfl rfl) ?_
   refine yA 11 61 ?_
   refine yA 12 62 ?_
   refine yA 13 63 ?_
   refine Sch.nil ?_
   refine run_sq ?_
   refine run_pl [yy 0, yy 1, nn 2, yy 3, yy 4, yy 5, yy 6, yy 7, yy 8, yy 9] ?_
   refine yM 65 9 ?_
   refine yM 66 7 ?_
   refine cS (kq 67 (.call { callee := .value (.func 23), args := #[(.tmp 65), (.tmp 66)], argTypes := #[23, 24] })) rfl rfl (ent Tryz.call23 rfl) (solveY_ok (ds := dl) hF hn hz hvm (by omega) hdl.len hdl.ok hdl.asc) ?_
   rintro _ w11 ⟨hs, zs2, vp2, hSt2, rfl, hp2⟩
   rw [allW_sc (fun l => wayX_sc (by omega) l dl)] at hSt2
   have hz12 : zs1 = zs2 := wayX_eq hSt1 hSt2
   subst hz12
   refine ⟨trivial, ?_⟩
   replace hF := hF.st hs
   replace hT := hT.t hs; replace hb := hb.t hs; replace hz := hz.t hs; replace hn := hn.t hs; replace hp1 := hp1.t hs
   refine yM 64 67 ?_
   refine yV (kq 68 (.extract (.tmp 64) 0)) (fun _ => val_extract rfl rfl) ?_
   refine yV (kq 69 (.extract (.tmp 64) 1)) (fun _ => val_extract rfl rfl) ?_
   refine yV (kq 70 (.extract (.tmp 64) 2)) (fun _ => val_extract rfl rfl) ?_
   refine yA 14 68 ?_
   refine yA 15 69 ?_
   refine yA 16 70 ?_
   refine Sch.nil ?_
   refine run_sq ?_
   refine run_pl [yy 0, yy 1, nn 2, yy 3, yy 4, yy 5, yy 6, yy 7, yy 8, yy 9] ?_
   refine yM 72 6 ?_
   refine yM 73 7 ?_
   refine cS (kq 74 (.call { callee := .value (.func 18), args := #[(.tmp 72), (.tmp 73)], argTypes := #[23, 24] })) rfl rfl (ent Tryz.call18 rfl) (solveG_ok (ds := dl) hF hb hz hv (by omega) hdl.len hdl.ok hdl.asc) ?_
   rintro _ w12 ⟨hs, zs3, vp3, hSt3, rfl, hp3⟩
   refine ⟨trivial, ?_⟩
   replace hF := hF.st hs
   replace hT := hT.t hs; replace hb := hb.t hs; replace hz := hz.t hs; replace hn := hn.t hs; replace hp1 := hp1.t hs; replace hp2 := hp2.t hs
   refine yM 71 74 ?_
   refine yV (kq 75 (.extract (.tmp 71) 0)) (fun _ => val_extract rfl rfl) ?_
   refine yV (kq 76 (.extract (.tmp 71) 1)) (fun _ => val_extract rfl rfl) ?_
   refine yV (kq 77 (.extract (.tmp 71) 2)) (fun _ => val_extract rfl rfl) ?_
   refine yA 17 75 ?_
   refine yA 18 76 ?_
   refine yA 19 77 ?_
   refine Sch.nil ?_
   refine run_sq ?_
   refine run_pl [yy 0, yy 1, nn 2, yy 3, yy 4, yy 5, yy 6, yy 7, yy 8, yy 9] ?_
   refine yM 79 9 ?_
   refine yM 80 7 ?_
   refine cS (kq 81 (.call { callee := .value (.func 18), args := #[(.tmp 79), (.tmp 80)], argTypes := #[23, 24] })) rfl rfl (ent Tryz.call18 rfl) (solveG_ok (ds := dl) hF hn hz hvm (by omega) hdl.len hdl.ok hdl.asc) ?_
   rintro _ w13 ⟨hs, zs4, vp4, hSt4, rfl, hp4⟩
   rw [allW_sc (fun l => wayG_sc (by omega) l dl)] at hSt4
   have hz34 : zs3 = zs4 := hSt3.uniq cmpH_3 (fun _ _ => trivial) hSt4
   subst hz34
   refine ⟨trivial, ?_⟩
   replace hF := hF.st hs
   replace hT := hT.t hs; replace hb := hb.t hs; replace hz := hz.t hs; replace hn := hn.t hs; replace hp1 := hp1.t hs; replace hp2 := hp2.t hs; replace hp3 := hp3.t hs
   refine yM 78 81 ?_
   refine yV (kq 82 (.extract (.tmp 78) 0)) (fun _ => val_extract rfl rfl) ?_
   refine yV (kq 83 (.extract (.tmp 78) 1)) (fun _ => val_extract rfl rfl) ?_
   refine yV (kq 84 (.extract (.tmp 78) 2)) (fun _ => val_extract rfl rfl) ?_
   refine yA 20 82 ?_
   refine yA 21 83 ?_
   refine yA 22 84 ?_
   refine Sch.nil ?_
   refine run_sq ?_
   refine run_pl [yy 0, yy 1, yy 2, yy 3, yy 4, yy 5, yy 6, yy 7, yy 8, yy 9, yy 10, yy 11, yy 12, yy 13, yy 14, yy 15, yy 16, yy 17, yy 18, yy 19, yy 20, yy 21, yy 22, yy 23, yy 24, yy 25, yy 26, yy 27, yy 28, yy 29, yy 30, nn 31, yy 32, yy 33, yy 34, yy 35, nn 36, yy 37, yy 38] ?_
   have hb1 := valueB_b (okB_w hvm) zs1 _ (Nat.le_refl _)
   have hb3 := valueB_b (okB_w hvm) zs3 _ (Nat.le_refl _)
   rw [valueB_all, value_sc] at hb1 hb3
   have hvl := hvm.1
   refine yM 85 13 ?_
   refine yV (kq 86 (.binOp .eql 36 (.tmp 85) (.const (.int .i64 0)) 36)) (fun _ => val_T (val_eql rfl rfl) rfl) ?_
   refine yM 87 86 ?_
   refine yMg 88 16 2 true ?_
   refine yV (kg 89 (.binOp .eql 36 (.tmp 88) (.const (.int .i64 0)) 36) 2 true) (fun _ => val_T (val_eql rfl rfl) rfl) ?_
   refine yAt 90 87 89 ?_
   refine yM 91 90 ?_
   refine yMg 92 19 6 true ?_
   refine yV (kg 93 (.binOp .eql 36 (.tmp 92) (.const (.int .i64 0)) 36) 6 true) (fun _ => val_T (val_eql rfl rfl) rfl) ?_
   refine yAt 94 91 93 ?_
   refine yM 95 94 ?_
   refine yMg 96 22 10 true ?_
   refine yV (kg 97 (.binOp .eql 36 (.tmp 96) (.const (.int .i64 0)) 36) 10 true) (fun _ => val_T (val_eql rfl rfl) rfl) ?_
   refine yAt 98 95 97 ?_
   refine yM 99 98 ?_
   refine yMg 100 15 14 true ?_
   refine yMg 101 12 14 true ?_
   refine yMg 102 8 14 true ?_
   refine yV (kg 103 (.binOp .mul 3 (.tmp 101) (.tmp 102) 3) 14 true) (fun _ => val_muli rfl rfl (by omega) (by omega)) ?_
   refine yV (kg 104 (.binOp .eql 3 (.tmp 100) (.tmp 103) 3) 14 true) (fun _ => val_T (val_eql rfl rfl) (value_sc _ _ _)) ?_
   refine yAt 105 99 104 ?_
   refine yM 106 105 ?_
   refine yMg 107 21 21 true ?_
   refine yMg 108 18 21 true ?_
   refine yMg 109 8 21 true ?_
   refine yV (kg 110 (.binOp .mul 3 (.tmp 108) (.tmp 109) 3) 21 true) (fun _ => val_muli rfl rfl (by omega) (by omega)) ?_
   refine yV (kg 111 (.binOp .eql 3 (.tmp 107) (.tmp 110) 3) 21 true) (fun _ => val_T (val_eql rfl rfl) (value_sc _ _ _)) ?_
   refine yAt 112 106 111 ?_
   refine yM 113 112 ?_
   refine yMg 114 11 28 true ?_
   refine yMg 115 14 28 true ?_
   refine cS (kg 116 (.call { callee := .value (.func 20), args := #[(.tmp 114), (.tmp 115)], argTypes := #[25, 25] }) 28 true) rfl rfl (ent Tryz.call20 rfl) (sameParts_ok hF hp1 hp2) ?_
   rintro vw14 w14 ⟨rfl, hs⟩
   refine ⟨trivial, ?_⟩
   replace hF := hF.st hs
   replace hT := hT.t hs; replace hb := hb.t hs; replace hz := hz.t hs; replace hn := hn.t hs; replace hp1 := hp1.t hs; replace hp2 := hp2.t hs; replace hp3 := hp3.t hs; replace hp4 := hp4.t hs
   refine yAt 117 113 116 ?_
   refine yM 118 117 ?_
   refine yMg 119 17 33 true ?_
   refine yMg 120 20 33 true ?_
   refine cS (kg 121 (.call { callee := .value (.func 20), args := #[(.tmp 119), (.tmp 120)], argTypes := #[25, 25] }) 33 true) rfl rfl (ent Tryz.call20 rfl) (sameParts_ok hF hp3 hp4) ?_
   rintro vw15 w15 ⟨rfl, hs⟩
   refine ⟨trivial, ?_⟩
   replace hF := hF.st hs
   replace hT := hT.t hs; replace hb := hb.t hs; replace hz := hz.t hs; replace hn := hn.t hs; replace hp1 := hp1.t hs; replace hp2 := hp2.t hs; replace hp3 := hp3.t hs; replace hp4 := hp4.t hs
   refine yAt 122 118 121 ?_
   refine yA 4 122 ?_
   refine Sch.nil ?_
   refine run_ret1 (by kernel_rfl) Tryz.func7 Tryz.results7 rfl ?_
   exact ⟨rfl, hT.out1 (by decide)⟩
end Go.Proofs.YtdmgmlmlielfbaaGreat
