/- Steps through functions of the program. -/
import Derived.Test.YtdmgmlmlielfbaaGreatJH3
set_option linter.unusedVariables false
set_option linter.unusedSimpArgs false
set_option maxRecDepth 100000
set_option maxHeartbeats 4000000
namespace Go.Proofs.YtdmgmlmlielfbaaGreat
open Go.K Go.K.Rep

namespace F5
noncomputable def c0 := bodyOf Tryz.f5
noncomputable def c7 := (cl (cl (cr (cl (cr c0)))))
noncomputable def c15 := (cl (cr (cr (cr (cr c0)))))
noncomputable def c16 := (cr (cr (cr (cr (cr c0)))))
noncomputable def c29 := (cl (cl (cr (cl (cr c16)))))
noncomputable def c40 := (cl (cr (cl (cl (cr c29)))))
noncomputable def c47 := (cl (cr (cl (cl (cr c40)))))
noncomputable def c50 := (cr (cr (cl (cl (cr c40)))))
noncomputable def c57 := (cl (cr (cr (cl (cl c50)))))
noncomputable def c60 := (cr (cr (cl (cl (cr c29)))))
end F5
/-- No other valid partition has a greater value: persons are taken apart, or other ones are made of some bonds. -/
theorem clusterBest_ok {w₀ : World} {C : Nat → Nat} {l : List Int} {vl : Value} (hF : Lim w₀ C) (hl : RV w₀ (Mc C) l vl) : Calls Tryz.prog 5 #[vl] w₀ (Ret fun v w' => v = .bool true ∧ Stp [] w₀ C w' C) := by
 have hF0 := hF
 have hT := Stp.refl [2, 3, 4, 5, 6, 7, 8, 9] w₀ (col1 C)
 replace hF := hF.col1
 replace hl : RV w₀ (Mc (col1 C)) l vl := by rw [Mc_col1]; exact hl
 refine calls_start (c := F5.c0) (N := 80) [vl] Tryz.func5 (by kernel_rfl) (by kernel_rfl) (by kernel_rfl) ?_
 show Run _ _ _ _ [(0, vl)] _ _
 refine run_sq ?_
 refine run_pl [yy 0] ?_
 refine yAc 2 (.bool false) ?_
 refine Sch.nil ?_
 refine run_sq ?_
 refine run_sq ?_
 refine run_pl [nn 0, yy 1, yy 2, yy 3, nn 4, yy 5, yy 6] ?_
 refine cS (kq 16 (.call { callee := .value (.func 11), args := #[], argTypes := #[] })) rfl rfl (ent Tryz.call11 rfl) (awake_ok hF) ?_
 rintro vw1 w1 ⟨rfl, hs⟩
 refine ⟨trivial, ?_⟩
 replace hF := hF.st hs
 replace hT := hT.t hs; replace hl := hl.t hs
 refine yV (kq 17 (.unOp .not 4 (.tmp 16))) (fun _ => val_not rfl) ?_
 refine yM 18 17 ?_
 refine yMg 19 0 2 false ?_
 refine cS (kg 20 (.call { callee := .value (.func 12), args := #[(.tmp 19)], argTypes := #[22] }) 2 false) rfl rfl (ent Tryz.call12 rfl) (few_any hl) ?_
 rintro vw2 w2 ⟨rfl, rfl⟩
 refine ⟨trivial, ?_⟩
 refine yV (kg 21 (.unOp .not 4 (.tmp 20)) 2 false) (fun _ => val_notd rfl) ?_
 refine yOf 22 18 21 ?_
 refine Sch.nil ?_
 refine run_i 22 rfl (fun h22 => ?_) (fun h22 => ?_)
 ·
  refine run_sq ?_
  refine run_pl [nn 0, yy 1] ?_
  refine cS (kq 23 (.call { callee := .value (.func 11), args := #[], argTypes := #[] })) rfl rfl (ent Tryz.call11 rfl) (awake_ok hF) ?_
  rintro vw3 w3 ⟨rfl, hs⟩
  refine ⟨trivial, ?_⟩
  replace hF := hF.st hs
  replace hT := hT.t hs; replace hl := hl.t hs
  refine yA 2 23 ?_
  refine Sch.nil ?_
  refine run_ret1 (by kernel_rfl) Tryz.func5 Tryz.results5 rfl ?_
  exact ⟨rfl, hT.out1 (by decide)⟩
 ·
  refine run_sk ?_
  refine run_sq ?_
  refine run_pl [yy 0, nn 1, yy 2] ?_
  refine yM 24 0 ?_
  refine cS (kq 25 (.call { callee := .value (.func 13), args := #[(.tmp 24)], argTypes := #[22] })) rfl rfl (ent Tryz.call13 rfl) (new_any hF hl) ?_
  rintro vw4 w4 ⟨Cd, bd, rfl, hs, hF, hd⟩
  refine ⟨trivial, ?_⟩
  replace hT := hT.t hs; replace hl := hl.t hs
  refine yA 3 25 ?_
  refine Sch.nil ?_
  refine run_sq ?_
  refine run_pl [yy 0, nn 1, yy 2, nn 3, yy 4, yy 5] ?_
  refine yM 26 3 ?_
  refine cS (kq 27 (.call { callee := .value (.func 14), args := #[(.tmp 26), (.const (.int .i64 3)), (.const (.int .i64 2)), (.const (.int .i64 2))], argTypes := #[28, 3, 3, 3] })) rfl rfl (ent Tryz.call14 rfl) (bonds_any (R := 3) (I := 2) (one := 2) hF (by decide) hd (by decide) (by decide) (by omega) (by omega)) ?_
  rintro vb w5 ⟨bl, hbl, ⟨hs, hb, hd⟩, _⟩
  refine ⟨trivial, ?_⟩
  replace hF := hF.st hs
  replace hT := hT.t hs; replace hl := hl.t hs
  have hv := hbl.vld (by decide) (by decide)
  have hrl := hbl.few
  have hbL := hv.1
  refine yM 28 3 ?_
  refine cS (kq 29 (.call { callee := .value (.func 30), args := #[(.tmp 28), (.const (.int .i64 3)), (.const (.int .i64 2)), (.const (.int .i64 9))], argTypes := #[28, 3, 3, 3] })) rfl rfl (ent Tryz.call30 rfl) (decs_any (R := 3) (I := 2) (one := 9) hF (by decide) hd (by decide) (by decide) (by omega) (by omega)) ?_
  rintro vz w6 ⟨dl, hdl, hs, hz, hd⟩
  refine ⟨trivial, ?_⟩
  replace hF := hF.st hs
  replace hT := hT.t hs; replace hl := hl.t hs; replace hb := hb.t hs
  refine yA 4 27 ?_
  refine yA 5 29 ?_
  refine Sch.nil ?_
  refine run_sq ?_
  refine run_pl [yy 0, yy 1, nn 2, yy 3, yy 4, yy 5, yy 6, yy 7, yy 8, yy 9] ?_
  refine yM 31 4 ?_
  refine yM 32 5 ?_
  refine cS (kq 33 (.call { callee := .value (.func 23), args := #[(.tmp 31), (.tmp 32)], argTypes := #[23, 24] })) rfl rfl (ent Tryz.call23 rfl) (solveY_ok (ds := dl) hF hb hz hv (by omega) hdl.len hdl.ok hdl.asc) ?_
  rintro _ w7 ⟨hs, zs1, vp1, hSt1, rfl, hp1⟩
  obtain ⟨hP1, hmax1⟩ := exact_max hv (by omega) hSt1
  refine ⟨trivial, ?_⟩
  replace hF := hF.st hs
  replace hT := hT.t hs; replace hl := hl.t hs
  replace hd := hd.st hs (by first | decide | (simp <;> omega)) (by first | decide | (simp <;> omega))
  replace hb := hb.t hs; replace hz := hz.t hs
  refine yM 30 33 ?_
  refine yV (kq 34 (.extract (.tmp 30) 0)) (fun _ => val_extract rfl rfl) ?_
  refine yV (kq 35 (.extract (.tmp 30) 1)) (fun _ => val_extract rfl rfl) ?_
  refine yV (kq 36 (.extract (.tmp 30) 2)) (fun _ => val_extract rfl rfl) ?_
  refine yA 6 34 ?_
  refine yA 7 35 ?_
  refine yA 8 36 ?_
  refine Sch.nil ?_
  refine run_sq ?_
  refine run_sq ?_
  refine run_pl [yy 0, yy 1] ?_
  refine yM 37 8 ?_
  refine yV (kq 38 (.binOp .neq 36 (.tmp 37) (.const (.int .i64 0)) 36)) (fun _ => val_is (val_neq rfl rfl) (show _ = Value.bool false from congrArg Value.bool (decide_eq_false (by decide)))) ?_
  refine Sch.nil ?_
  refine run_cF 38 ?_
  refine run_sk ?_
  refine run_sq ?_
  refine run_sq ?_
  refine run_pl [yy 0] ?_
  refine yAc 9 (.int .i64 0) ?_
  refine Sch.nil ?_
  refine run_bk 0 ?_
  
  refine run_lp (ι := Nat × (Nat → Nat)) (I := fun x w => x.1 ≤ 12 ∧ Lim w x.2 ∧ Stp [2, 3, 4, 5, 6, 7, 8, 9] w₀ (col1 C) w x.2 ∧ DeckIs w x.2 3 bd ∧ RV w (Mc x.2) bl vb ∧ RV w (Mc x.2) dl vz) (e := fun x => [(3, .pointer (some ⟨bd, 0, none⟩)), (4, vb), (5, vz), (7, .int .i64 (valueB bl zs1)), (9, .int .i64 x.1)]) (m := fun x => 12 - x.1) (x₀ := (0, Cd)) (sr 3 (sr 4 (sr 5 (sr 7 (sr 9 (sub_nil _)))))) ?_ ?_
  · exact ⟨Nat.zero_le _, hF, hT, hd, hb, hz⟩
  intro ⟨k, C1⟩ w8 hI next
  obtain ⟨hk, hF, hT, hd, hb, hz⟩ := hI
  try simp only at hk hF hT hd hb hz
  have next1 := next
  clear next
  show Run _ _ _ _ [(3, .pointer (some ⟨bd, 0, none⟩)), (4, vb), (5, vz), (7, .int .i64 (valueB bl zs1)), (9, .int .i64 k)] _ _
  refine run_sq ?_
  refine run_sq ?_
  refine run_pl [yy 0, yy 1] ?_
  refine yM 39 9 ?_
  refine yV (kq 40 (.binOp .lss 3 (.tmp 39) (.const (.int .i64 12)) 3)) (fun _ => val_lss rfl rfl) ?_
  refine Sch.nil ?_
  refine run_i 40 rfl (fun h40 => ?_) (fun h40 => ?_)
  ·
   have hk12 : k < 12 := by omega
   refine run_sk ?_
   refine run_sq ?_
   refine run_bk 1 ?_
   refine run_sq ?_
   refine run_pl [yy 0] ?_
   refine yV (kq 10 (.assign (.const (.slice none 0 0)))) (fun _ => val_assign rfl) ?_
   refine Sch.nil ?_
   refine run_sq ?_
   refine run_sq ?_
   refine run_pl [yy 0, yy 1, yy 2] ?_
   refine yM 43 4 ?_
   refine yS (kq 44 (.call { callee := .builtin .len, args := #[(.tmp 43)], argTypes := #[23] })) rfl rfl (fun w' hS => hb.lenV rfl Tryz.underlying23 w' ) ?_
   refine yV (kq 45 (.move (.const (.int .i64 0)))) (fun _ => val_move rfl) ?_
   refine Sch.nil ?_
   refine run_bk 2 ?_
   
   refine run_lp (ι := Nat × (List Bond) × Value × (Nat → Nat)) (I := fun x w => x.1 ≤ bl.length ∧ List.Sublist x.2.1 (bl.take x.1) ∧ Lim w x.2.2.2 ∧ Stp [2, 3, 4, 5, 6, 7, 8, 9] w₀ (col1 C) w x.2.2.2 ∧ DeckIs w x.2.2.2 3 bd ∧ RV w (Mc x.2.2.2) bl vb ∧ RV w (Mc x.2.2.2) dl vz ∧ OwnL w x.2.2.2 4 49 x.2.2.1 x.2.1) (e := fun x => [(3, .pointer (some ⟨bd, 0, none⟩)), (4, vb), (5, vz), (7, .int .i64 (valueB bl zs1)), (9, .int .i64 k), (10, x.2.2.1), (43, vb), (44, .int .i64 bl.length), (45, .int .i64 x.1)]) (m := fun x => bl.length - x.1) (x₀ := (0, [], .slice none 0 0, C1)) (sr 3 (sr 4 (sr 5 (sr 7 (sr 9 (sr 10 (sr 43 (sr 44 (sr 45 (sub_nil _)))))))))) ?_ ?_
   · exact ⟨Nat.zero_le _, List.nil_sublist _, hF, hT, hd, hb, hz, OwnL.nil⟩
   intro ⟨i, sl, vo, C1⟩ w9 hI next
   obtain ⟨hi, hsb, hF, hT, hd, hb, hz, ho⟩ := hI
   try simp only at hi hsb hF hT hd hb hz ho
   have next2 := next
   clear next
   show Run _ _ _ _ [(3, .pointer (some ⟨bd, 0, none⟩)), (4, vb), (5, vz), (7, .int .i64 (valueB bl zs1)), (9, .int .i64 k), (10, vo), (43, vb), (44, .int .i64 bl.length), (45, .int .i64 i)] _ _
   have hsl := hsb.length_le
   rw [List.length_take] at hsl
   refine run_sq ?_
   refine run_pl [yy 0] ?_
   refine yV (kq 46 (.binOp .lss 3 (.tmp 45) (.tmp 44) 3)) (fun _ => val_lss rfl rfl) ?_
   refine Sch.nil ?_
   refine run_sq ?_
   refine run_i 46 rfl (fun h46 => ?_) (fun h46 => ?_)
   ·
    have hil : i < bl.length := by omega
    refine run_sk ?_
    refine run_sq ?_
    refine run_bk 3 ?_
    refine run_sq ?_
    refine run_pl [yy 0, nn 1, nn 2, nn 3] ?_
    refine iS (e := 49) (kq 47 (.indexAddr 23 (.tmp 43) (.tmp 45))) rfl rfl hb rfl (by kernel_rfl) rfl (by omega) (by omega) ?_
    intro b47 o47 h47
    try simp only [Int.toNat_natCast] at h47
    refine lNA (kq 48 (.load 49 (.tmp 47))) rfl rfl trivial h47 (by kernel_rfl) (by kernel_rfl) rfl rfl ?_
    intro v48 g48
    obtain rfl := rv_bond.1 g48
    obtain ⟨x, hx⟩ : ∃ x, x = (bl[i]'hil) := ⟨_, rfl⟩
    rw [← hx]
    have hxm : x ∈ bl := by rw [hx]; exact List.getElem_mem hil
    refine aS (kq 12 (.alloc 49)) rfl rfl (a_alloc (cs := [.int .i64 0, .int .i64 0, .int .i64 0, .int .i64 0, .int .i64 0]) hF 5 (by kernel_rfl)) ?_
    rintro _ w10 ⟨Cw10, bw10, rfl, hs, bx, hF⟩
    refine ⟨trivial, ?_⟩
    replace hT := hT.t hs
    replace hd := hd.st hs (by first | decide | (simp <;> omega)) (by first | decide | (simp <;> omega))
    replace hb := hb.t hs; replace hz := hz.t hs; replace ho := ho.t hs; replace h47 := h47.t hs
    refine aN (k0 (.store 49 (.tmp 12) (.tmp 48))) rfl (a_storeAll (vs := encB x) (n := 5) rfl rfl (by kernel_rfl) rfl rfl (by intro u hu; simp only [encB, List.mem_cons, List.not_mem_nil, or_false] at hu; rcases hu with rfl | rfl | rfl | rfl | rfl <;> rfl) bx rfl) ?_
    rintro _ w11 ⟨rfl, hs, bx⟩
    refine ⟨trivial, ?_⟩
    replace hF := hF.st hs
    replace hT := hT.t hs
    replace hd := hd.st hs (by first | decide | (simp <;> omega)) (by first | decide | (simp <;> omega))
    replace hb := hb.t hs; replace hz := hz.t hs; replace ho := ho.t hs; replace h47 := h47.t hs
    refine Sch.nil ?_
    refine run_sq ?_
    refine run_pl [yy 0, nn 1, yy 2] ?_
    refine yM 49 3 ?_
    refine cS (kq 50 (.call { callee := .value (.func 31), args := #[(.tmp 49), (.const (.int .i64 3))], argTypes := #[28, 3] })) rfl rfl (ent Tryz.call31 rfl) (one_any (n := 3) hF (by decide) hd (by omega) (by omega)) ?_
    rintro vw12 w12 ⟨t, rfl, hs, hd⟩
    refine ⟨trivial, ?_⟩
    replace hF := hF.st hs
    replace hT := hT.t hs; replace hb := hb.t hs; replace hz := hz.t hs; replace ho := ho.t hs; replace h47 := h47.t hs; replace bx := bx.t hs
    refine yV (kq 51 (.unOp .not 4 (.tmp 50))) (fun _ => val_not rfl) ?_
    refine Sch.nil ?_
    refine run_c 51 rfl (fun h51 => ?_) (fun h51 => ?_)
    ·
     refine run_pl [yy 0, nn 1, nn 2, nn 3, yy 4] ?_
     refine yM 52 10 ?_
     refine nS (kq 53 (.load 49 (.tmp 12))) rfl rfl trivial (val_loadOwnAgg (n := 5) (vs := encB x) bx.at_ (by kernel_rfl) (by kernel_rfl) rfl rfl rfl) ?_
     refine aS (kq 54 (.buildSlice 23 1 #[(0, (.tmp 53))])) rfl rfl (a_buildSlice (ys := ([x] : List Bond)) (e := 49) (bytes := 40) hF (by kernel_rfl) rfl (by decide) (by decide) ⟨rfl, ⟨_, rfl, rv_bond.2 rfl⟩, trivial⟩) ?_
     rintro v54 w13 ⟨hs, g54, hF⟩
     refine ⟨trivial, ?_⟩
     replace hT := hT.t hs
     replace hd := hd.st hs (by first | decide | (simp <;> omega)) (by first | decide | (simp <;> omega))
     replace hb := hb.t hs; replace hz := hz.t hs; replace ho := ho.t hs; replace h47 := h47.t hs; replace bx := bx.t hs
     refine aS (kq 55 (.call { callee := .builtin .append, args := #[(.tmp 52), (.tmp 54)], argTypes := #[23, 23] })) rfl rfl (a_append (e := 49) (bytes := 40) hF (by decide) rfl rfl (by kernel_rfl) (by decide) ho g54 (by simp only [List.length_cons, List.length_nil]; omega) (by simp only [List.length_cons, List.length_nil]; omega)) ?_
     rintro v55 w14 ⟨Cw14, hs, ho, hF⟩
     refine ⟨trivial, ?_⟩
     replace hT := hT.t hs
     replace hd := hd.st hs (by first | decide | (simp <;> omega)) (by first | decide | (simp <;> omega))
     replace hb := hb.t hs; replace hz := hz.t hs; replace h47 := h47.t hs; replace bx := bx.t hs; replace g54 := g54.t hs
     refine yA 10 55 ?_
     refine Sch.nil ?_
     refine run_inBlock ?_
     refine run_pl [yy 0, yy 1] ?_
     refine yV (kq 56 (.binOp .add 3 (.tmp 45) (.const (.int .i64 1)) 3)) (fun _ => val_addi rfl rfl (by omega) (by omega)) ?_
     refine yM 45 56 ?_
     refine Sch.nil ?_
     refine kp (sub_cons 3 rfl rfl (sub_cons 4 rfl rfl (sub_cons 5 rfl rfl (sub_cons 7 rfl rfl (sub_cons 9 rfl rfl (sub_cons 10 rfl rfl (sub_cons 43 rfl rfl (sub_cons 44 rfl rfl (sub_cons 45 rfl (eq_int (by simp)) (sub_nil _)))))))))) (next2 (i + 1, sl ++ [x], v55, Cw14) _ ⟨(by first | omega | (simp only; omega)), (sbl_push hsb hil hx), hF, hT, hd, hb, hz, ho⟩ (by first | omega | (simp only; omega)))
    ·
     refine run_sk ?_
     refine run_inBlock ?_
     refine run_pl [yy 0, yy 1] ?_
     refine yV (kq 56 (.binOp .add 3 (.tmp 45) (.const (.int .i64 1)) 3)) (fun _ => val_addi rfl rfl (by omega) (by omega)) ?_
     refine yM 45 56 ?_
     refine Sch.nil ?_
     refine kp (sub_cons 3 rfl rfl (sub_cons 4 rfl rfl (sub_cons 5 rfl rfl (sub_cons 7 rfl rfl (sub_cons 9 rfl rfl (sub_cons 10 rfl rfl (sub_cons 43 rfl rfl (sub_cons 44 rfl rfl (sub_cons 45 rfl (eq_int (by simp)) (sub_nil _)))))))))) (next2 (i + 1, sl, vo, Cw10) _ ⟨(by first | omega | (simp only; omega)), (sbl_skip hsb hil), hF, hT, hd, hb, hz, ho⟩ (by first | omega | (simp only; omega)))
   ·
    have hil : i = bl.length := by omega
    rw [hil, List.take_length] at hsb
    have hvs := hv.sub hsb
    have hrs := refs_le (l' := sl) (l := bl) (fun x hx => hsb.subset hx)
    have hsm : ∀ x ∈ sl, x ∈ bl := fun x hx => hsb.subset hx
    replace hF := hF.frz 4
    replace hT := hT.frz (n := 4) (fun b => Nat.lt_of_lt_of_le (col1_lt2 C b) (by decide))
    replace hd := hd.frz (n := 4) (by decide)
    replace hb := hb.frz 4
    replace hz := hz.frz 4
    have hq_ := ho.frz (n := 4) (by decide) (by omega)
    clear ho
    have hq := hq_
    clear hq_
    refine run_ex 2 ?_
    refine run_sq ?_
    refine run_pl [yy 0, yy 1, nn 2, yy 3, yy 4, yy 5, yy 6, yy 7, yy 8, yy 9] ?_
    refine yM 58 10 ?_
    refine yM 59 5 ?_
    refine cS (kq 60 (.call { callee := .value (.func 18), args := #[(.tmp 58), (.tmp 59)], argTypes := #[23, 24] })) rfl rfl (ent Tryz.call18 rfl) (solveG_ok (ds := dl) hF hq hz hvs (by omega) hdl.len hdl.ok hdl.asc) ?_
    rintro _ w15 ⟨hs, zs2, vp2, hSt2, rfl, hp2⟩
    have hP2 := (greedy_PVs hSt2).more hsm
    have hle2 := hmax1 zs2 hP2
    refine ⟨trivial, ?_⟩
    replace hF := hF.st hs
    replace hT := hT.t hs
    replace hd := hd.st hs (by first | decide | (simp <;> omega)) (by first | decide | (simp <;> omega))
    replace hb := hb.t hs; replace hz := hz.t hs; replace hq := hq.t hs
    refine yM 57 60 ?_
    refine yV (kq 61 (.extract (.tmp 57) 0)) (fun _ => val_extract rfl rfl) ?_
    refine yV (kq 62 (.extract (.tmp 57) 1)) (fun _ => val_extract rfl rfl) ?_
    refine yV (kq 63 (.extract (.tmp 57) 2)) (fun _ => val_extract rfl rfl) ?_
    refine yA 13 61 ?_
    refine yA 14 62 ?_
    refine yA 15 63 ?_
    refine Sch.nil ?_
    refine run_sq ?_
    refine run_pl [yy 0, yy 1, yy 2, yy 3, yy 4, yy 5, nn 6, yy 7, yy 8, yy 9, yy 10, yy 11, nn 12, yy 13, yy 14, yy 15] ?_
    refine yM 64 15 ?_
    refine yV (kq 65 (.binOp .neq 36 (.tmp 64) (.const (.int .i64 0)) 36)) (fun _ => val_F (val_neq rfl rfl) (by decide)) ?_
    refine yM 66 65 ?_
    refine yMg 67 4 2 false ?_
    refine yMg 68 5 2 false ?_
    refine yMg 69 13 2 false ?_
    refine cS (kg 70 (.call { callee := .value (.func 26), args := #[(.tmp 67), (.tmp 68), (.tmp 69)], argTypes := #[23, 24, 25] }) 2 false) rfl rfl (ent Tryz.call26 rfl) (valid_ok (ds := dl) hF hb hz hp2 hv.check hv.1 hdl.len hdl.ok hdl.asc hP2) ?_
    rintro vw16 w16 ⟨rfl, hs⟩
    refine ⟨trivial, ?_⟩
    replace hF := hF.st hs
    replace hT := hT.t hs
    replace hd := hd.st hs (by first | decide | (simp <;> omega)) (by first | decide | (simp <;> omega))
    replace hb := hb.t hs; replace hz := hz.t hs; replace hq := hq.t hs; replace hp2 := hp2.t hs
    refine yV (kg 71 (.binOp .neq 36 (.tmp 70) (.const (.int .i64 0)) 36) 2 false) (fun _ => val_F (val_neq rfl rfl) (by decide)) ?_
    refine yOf 72 66 71 ?_
    refine yM 73 72 ?_
    refine yMg 74 4 9 false ?_
    refine yMg 75 13 9 false ?_
    refine cS (kg 76 (.call { callee := .value (.func 28), args := #[(.tmp 74), (.tmp 75)], argTypes := #[23, 25] }) 9 false) rfl rfl (ent Tryz.call28 rfl) (value_ok hF hb hp2 (okB_w hv) hv.1) ?_
    rintro vw17 w17 ⟨rfl, hs⟩
    refine ⟨trivial, ?_⟩
    replace hF := hF.st hs
    replace hT := hT.t hs
    replace hd := hd.st hs (by first | decide | (simp <;> omega)) (by first | decide | (simp <;> omega))
    replace hb := hb.t hs; replace hz := hz.t hs; replace hq := hq.t hs; replace hp2 := hp2.t hs
    refine yMg 77 7 9 false ?_
    refine yV (kg 78 (.binOp .gtr 3 (.tmp 76) (.tmp 77) 3) 9 false) (fun _ => val_F (val_gtr rfl rfl) (by omega)) ?_
    refine yOf 79 73 78 ?_
    refine Sch.nil ?_
    refine run_cF 79 ?_
    refine run_sk ?_
    refine run_inBlock ?_
    refine run_pl [yy 0, yy 1, yy 2] ?_
    refine yM 41 9 ?_
    refine yV (kq 42 (.binOp .add 3 (.tmp 41) (.const (.int .i64 1)) 3)) (fun _ => val_addi rfl rfl (by omega) (by omega)) ?_
    refine yA 9 42 ?_
    refine Sch.nil ?_
    refine kp (sub_cons 3 rfl rfl (sub_cons 4 rfl rfl (sub_cons 5 rfl rfl (sub_cons 7 rfl rfl (sub_cons 9 rfl (eq_int (by simp)) (sub_nil _)))))) (next1 (k + 1, K.frz 4 C1) _ ⟨(by first | omega | (simp only; omega)), hF, hT, hd, hb, hz⟩ (by first | omega | (simp only; omega)))
  ·
   refine run_ex 0 ?_
   refine run_sq ?_
   refine run_pl [yy 0] ?_
   refine yAc 2 (.bool true) ?_
   refine Sch.nil ?_
   refine run_ret1 (by kernel_rfl) Tryz.func5 Tryz.results5 rfl ?_
   exact ⟨rfl, hT.out1 (by decide)⟩
namespace F5B
noncomputable def c0 := bodyOf Tryz.f5
noncomputable def c7 := (cl (cl (cr (cl (cr c0)))))
noncomputable def c15 := (cl (cr (cr (cr (cr c0)))))
noncomputable def c16 := (cr (cr (cr (cr (cr c0)))))
noncomputable def c29 := (cl (cl (cr (cl (cr c16)))))
noncomputable def c40 := (cl (cr (cl (cl (cr c29)))))
noncomputable def c47 := (cl (cr (cl (cl (cr c40)))))
noncomputable def c50 := (cr (cr (cl (cl (cr c40)))))
noncomputable def c57 := (cl (cr (cr (cl (cl c50)))))
noncomputable def c60 := (cr (cr (cl (cl (cr c29)))))
end F5B
/-- .. where more is handed than it looks at. -/
theorem clusterBest_big {w₀ : World} {C : Nat → Nat} {p : Option Addr} {n c : Nat} (hF : Lim w₀ C) (hn : 400 < n) : Calls Tryz.prog 5 #[.slice p n c] w₀ (Ret fun v w' => v = .bool true ∧ Stp [] w₀ C w' C) := by
 have hF0 := hF
 have hT := Stp.refl [2, 3, 4, 5, 6, 7, 8, 9] w₀ (col1 C)
 replace hF := hF.col1
 refine calls_start (c := F5B.c0) (N := 80) [.slice p n c] Tryz.func5 (by kernel_rfl) (by kernel_rfl) (by kernel_rfl) ?_
 show Run _ _ _ _ [(0, .slice p n c)] _ _
 refine run_sq ?_
 refine run_pl [yy 0] ?_
 refine yAc 2 (.bool false) ?_
 refine Sch.nil ?_
 refine run_sq ?_
 refine run_sq ?_
 refine run_pl [nn 0, yy 1, yy 2, yy 3, nn 4, yy 5, yy 6] ?_
 refine cS (kq 16 (.call { callee := .value (.func 11), args := #[], argTypes := #[] })) rfl rfl (ent Tryz.call11 rfl) (awake_ok hF) ?_
 rintro vw1 w1 ⟨rfl, hs⟩
 refine ⟨trivial, ?_⟩
 replace hF := hF.st hs
 replace hT := hT.t hs
 refine yV (kq 17 (.unOp .not 4 (.tmp 16))) (fun _ => val_not rfl) ?_
 refine yM 18 17 ?_
 refine yMg 19 0 2 false ?_
 refine cS (kg 20 (.call { callee := .value (.func 12), args := #[(.tmp 19)], argTypes := #[22] }) 2 false) rfl rfl (ent Tryz.call12 rfl) (few_ok _ _ _ _) ?_
 rintro vw2 w2 ⟨rfl, rfl⟩
 refine ⟨trivial, ?_⟩
 rw [decide_eq_false (show ¬ (n : Int) ≤ 400 by omega)]
 refine yV (kg 21 (.unOp .not 4 (.tmp 20)) 2 false) (fun _ => val_not rfl) ?_
 refine yOf 22 18 21 ?_
 refine Sch.nil ?_
 refine run_cT 22 ?_
 refine run_sq ?_
 refine run_pl [nn 0, yy 1] ?_
 refine cS (kq 23 (.call { callee := .value (.func 11), args := #[], argTypes := #[] })) rfl rfl (ent Tryz.call11 rfl) (awake_ok hF) ?_
 rintro vw3 w3 ⟨rfl, hs⟩
 refine ⟨trivial, ?_⟩
 replace hF := hF.st hs
 replace hT := hT.t hs
 refine yA 2 23 ?_
 refine Sch.nil ?_
 refine run_ret1 (by kernel_rfl) Tryz.func5 Tryz.results5 rfl ?_
 exact ⟨rfl, hT.out1 (by decide)⟩
end Go.Proofs.YtdmgmlmlielfbaaGreat
