/- Steps through functions of the program. -/
import Derived.Test.YtognfmeffnjijaaJHA
import Derived.Test.YtognfmeffnjijaaJU3
set_option linter.unusedVariables false
set_option linter.unusedSimpArgs false
set_option maxRecDepth 100000
set_option maxHeartbeats 4000000
namespace Go.Proofs.Ytognfmeffnjijaa
open Go.K Go.K.Rep

namespace F6
noncomputable def c0 := bodyOf Try.f6
noncomputable def c7 := (cl (cl (cr (cl (cr c0)))))
noncomputable def c15 := (cl (cr (cr (cr (cr c0)))))
noncomputable def c16 := (cr (cr (cr (cr (cr c0)))))
noncomputable def c25 := (cl (cr (cr (cr (cr c16)))))
noncomputable def c32 := (cr (cr (cr (cr (cr c16)))))
noncomputable def c38 := (cl (cl (cl (cr (cl c32)))))
noncomputable def c39 := (cr (cl (cl (cr (cl c32)))))
noncomputable def c48 := (cl (cr (cl (cl (cr c39)))))
noncomputable def c49 := (cr (cr (cl (cl (cr c39)))))
noncomputable def c55 := (cl (cl (cl (cr (cl c49)))))
noncomputable def c56 := (cr (cl (cl (cr (cl c49)))))
noncomputable def c65 := (cl (cr (cl (cl (cr c56)))))
noncomputable def o19 := rops c65
noncomputable def c66 := (cr (cr (cl (cl (cr c56)))))
noncomputable def c76 := (cl (cl (cr (cr (cr c49)))))
end F6
/-- The greatest total is that of an assignment of households by their gains. -/
theorem householdGains_ok {w₀ : World} {C : Nat → Nat} {l : List Int} {vl : Value} (hF : Lim w₀ C) (hl : RV w₀ (Mc C) l vl) : Calls Try.prog 6 #[vl] w₀ (Ret fun v w' => v = .bool true ∧ Stp [] w₀ C w' C) := by
 have hF0 := hF
 have hT := Stp.refl [2, 3, 4, 5, 6, 7, 8, 9] w₀ (col1 C)
 replace hF := hF.col1
 replace hl : RV w₀ (Mc (col1 C)) l vl := by rw [Mc_col1]; exact hl
 refine calls_start (c := F6.c0) (N := 143) [vl] Try.func6 (by kernel_rfl) (by kernel_rfl) (by kernel_rfl) ?_
 show Run _ _ _ _ [(0, vl)] _ _
 refine run_sq ?_
 refine run_pl [yy 0] ?_
 refine yAc 2 (.bool false) ?_
 refine Sch.nil ?_
 refine run_sq ?_
 refine run_sq ?_
 refine run_pl [nn 0, yy 1, yy 2, yy 3, nn 4, yy 5, yy 6] ?_
 refine cS (kq 25 (.call { callee := .value (.func 7), args := #[], argTypes := #[] })) rfl rfl (ent Try.call7 rfl) (awake_ok hF) ?_
 rintro vw1 w1 ⟨rfl, hs⟩
 refine ⟨trivial, ?_⟩
 replace hF := hF.st hs
 replace hT := hT.t hs; replace hl := hl.t hs
 refine yV (kq 26 (.unOp .not 4 (.tmp 25))) (fun _ => val_not rfl) ?_
 refine yM 27 26 ?_
 refine yMg 28 0 2 false ?_
 refine cS (kg 29 (.call { callee := .value (.func 8), args := #[(.tmp 28)], argTypes := #[22] }) 2 false) rfl rfl (ent Try.call8 rfl) (few_any hl) ?_
 rintro vw2 w2 ⟨rfl, rfl⟩
 refine ⟨trivial, ?_⟩
 refine yV (kg 30 (.unOp .not 4 (.tmp 29)) 2 false) (fun _ => val_notd rfl) ?_
 refine yOf 31 27 30 ?_
 refine Sch.nil ?_
 refine run_i 31 rfl (fun h31 => ?_) (fun h31 => ?_)
 ·
  refine run_sq ?_
  refine run_pl [nn 0, yy 1] ?_
  refine cS (kq 32 (.call { callee := .value (.func 7), args := #[], argTypes := #[] })) rfl rfl (ent Try.call7 rfl) (awake_ok hF) ?_
  rintro vw3 w3 ⟨rfl, hs⟩
  refine ⟨trivial, ?_⟩
  replace hF := hF.st hs
  replace hT := hT.t hs; replace hl := hl.t hs
  refine yA 2 32 ?_
  refine Sch.nil ?_
  refine run_ret1 (by kernel_rfl) Try.func6 Try.results6 rfl ?_
  exact ⟨rfl, hT.out1 (by decide)⟩
 ·
  refine run_sk ?_
  refine run_sq ?_
  refine run_pl [yy 0, nn 1, yy 2] ?_
  refine yM 33 0 ?_
  refine cS (kq 34 (.call { callee := .value (.func 9), args := #[(.tmp 33)], argTypes := #[22] })) rfl rfl (ent Try.call9 rfl) (new_any hF hl) ?_
  rintro vw4 w4 ⟨Cd, bd, rfl, hs, hF, hd⟩
  refine ⟨trivial, ?_⟩
  replace hT := hT.t hs; replace hl := hl.t hs
  refine yA 3 34 ?_
  refine Sch.nil ?_
  refine run_sq ?_
  refine run_pl [yy 0, nn 1, yy 2, yy 3, nn 4, yy 5, yy 6, yy 7] ?_
  refine yM 35 3 ?_
  refine cS (kq 36 (.call { callee := .value (.func 10), args := #[(.tmp 35), (.const (.int .i64 5))], argTypes := #[25, 3] })) rfl rfl (ent Try.call10 rfl) (next_any (n := 5) hF (by decide) hd (by omega) (by omega)) ?_
  rintro vw5 w5 ⟨p, rfl, hp, hs, hd⟩
  refine ⟨trivial, ?_⟩
  replace hF := hF.st hs
  replace hT := hT.t hs; replace hl := hl.t hs
  refine yV (kq 37 (.binOp .add 3 (.const (.int .i64 1)) (.tmp 36) 3)) (fun _ => val_addi rfl rfl (by omega) (by omega)) ?_
  obtain ⟨n, hnd⟩ : ∃ x : Nat, x = p + 1 := ⟨_, rfl⟩
  rw [show (1 : Int) + (p : Int) = ((n : Nat) : Int) from by omega]
  refine yM 38 3 ?_
  refine cS (kq 39 (.call { callee := .value (.func 10), args := #[(.tmp 38), (.const (.int .i64 5))], argTypes := #[25, 3] })) rfl rfl (ent Try.call10 rfl) (next_any (n := 5) hF (by decide) hd (by omega) (by omega)) ?_
  rintro vw6 w6 ⟨q, rfl, hq, hs, hd⟩
  refine ⟨trivial, ?_⟩
  replace hF := hF.st hs
  replace hT := hT.t hs; replace hl := hl.t hs
  refine yV (kq 40 (.binOp .add 3 (.const (.int .i64 1)) (.tmp 39) 3)) (fun _ => val_addi rfl rfl (by omega) (by omega)) ?_
  obtain ⟨m, hmd⟩ : ∃ x : Nat, x = q + 1 := ⟨_, rfl⟩
  rw [show (1 : Int) + (q : Int) = ((m : Nat) : Int) from by omega]
  refine yA 4 37 ?_
  refine yA 5 40 ?_
  refine Sch.nil ?_
  refine run_sq ?_
  refine run_pl [yy 0, yy 1, nn 2, yy 3, yy 4, nn 5, yy 6, yy 7] ?_
  refine yM 41 3 ?_
  refine yM 42 4 ?_
  refine cS (kq 43 (.call { callee := .value (.func 11), args := #[(.tmp 41), (.tmp 42)], argTypes := #[25, 3] })) rfl rfl (ent Try.call11 rfl) (houses_any (n := n) hF (by decide) hd (by omega)) ?_
  rintro va w7 ⟨al, hall, hal3, hs, ha, hd⟩
  refine ⟨trivial, ?_⟩
  replace hF := hF.st hs
  replace hT := hT.t hs; replace hl := hl.t hs
  refine yM 44 3 ?_
  refine yM 45 5 ?_
  refine cS (kq 46 (.call { callee := .value (.func 11), args := #[(.tmp 44), (.tmp 45)], argTypes := #[25, 3] })) rfl rfl (ent Try.call11 rfl) (houses_any (n := m) hF (by decide) hd (by omega)) ?_
  rintro vb w8 ⟨bl, hbll, hbl3, hs, hb, hd⟩
  refine ⟨trivial, ?_⟩
  replace hF := hF.st hs
  replace hT := hT.t hs; replace hl := hl.t hs; replace ha := ha.t hs
  refine yA 6 43 ?_
  refine yA 7 46 ?_
  refine Sch.nil ?_
  refine run_sq ?_
  refine run_pl [yy 0, yy 1, yy 2, nn 3, yy 4] ?_
  refine yM 47 3 ?_
  refine yM 48 4 ?_
  refine yM 49 5 ?_
  refine cS (kq 50 (.call { callee := .value (.func 12), args := #[(.tmp 47), (.tmp 48), (.tmp 49), (.const (.int .i64 2))], argTypes := #[25, 3, 3, 3] })) rfl rfl (ent Try.call12 rfl) (edges_any (n := n) (m := m) (one := 2) hF (by decide) hd (by omega) (by omega) (by decide) (by decide)) ?_
  rintro v_el w9 ⟨el, hE, ⟨hs, he, hd⟩, _⟩
  have hEV := hE.ve (by omega) (by omega)
  have hEc := hEV.check
  refine ⟨trivial, ?_⟩
  replace hF := hF.st hs
  replace hT := hT.t hs; replace hl := hl.t hs; replace ha := ha.t hs; replace hb := hb.t hs
  refine yA 8 50 ?_
  refine Sch.nil ?_
  obtain ⟨hH, h3a, h3b⟩ := hh_small hall hbll hal3 hbl3
  clear hd
  refine run_sq ?_
  refine run_pl [yy 0, yy 1, yy 2, yy 3, yy 4, nn 5, yy 6, yy 7, yy 8, yy 9, yy 10, yy 11, yy 12] ?_
  refine yM 52 4 ?_
  refine yM 53 5 ?_
  refine yM 54 6 ?_
  refine yM 55 7 ?_
  refine yM 56 8 ?_
  refine cS (kq 57 (.call { callee := .value (.func 14), args := #[(.tmp 52), (.tmp 53), (.tmp 54), (.tmp 55), (.tmp 56)], argTypes := #[3, 3, 22, 22, 29] })) rfl rfl (ent Try.call14 rfl) (hsolve_ok (n := n) (m := m) (al := al) (bl := bl) hF hEV hH ha hb he) ?_
  rintro vw10 w10 ⟨u1, rfl, hs, hc1⟩
  refine ⟨trivial, ?_⟩
  replace hF := hF.st hs
  replace hT := hT.t hs; replace hl := hl.t hs; replace ha := ha.t hs; replace hb := hb.t hs; replace he := he.t hs
  refine yM 51 57 ?_
  refine yV (kq 58 (.extract (.tmp 51) 0)) (fun _ => val_extract rfl rfl) ?_
  refine yV (kq 59 (.extract (.tmp 51) 1)) (fun _ => val_extract rfl rfl) ?_
  refine yV (kq 60 (.extract (.tmp 51) 2)) (fun _ => val_extract rfl rfl) ?_
  refine yA 9 58 ?_
  refine yA 10 59 ?_
  refine yA 11 60 ?_
  refine Sch.nil ?_
  refine run_sq ?_
  refine run_pl [yy 0, yy 1, yy 2, yy 3, yy 4, nn 5, yy 6, yy 7, yy 8, yy 9, yy 10] ?_
  refine yM 62 4 ?_
  refine yM 63 5 ?_
  refine yM 64 6 ?_
  refine yM 65 7 ?_
  refine yM 66 8 ?_
  refine cS (kq 67 (.call { callee := .value (.func 18), args := #[(.tmp 62), (.tmp 63), (.tmp 64), (.tmp 65), (.tmp 66)], argTypes := #[3, 3, 22, 22, 29] })) rfl rfl (ent Try.call18 rfl) (hgains_ok (n := n) (m := m) (al := al) (bl := bl) hF hEV hH ha hb he) ?_
  rintro vw11 w11 ⟨pg, rfl, hs, hg⟩
  refine ⟨trivial, ?_⟩
  replace hF := hF.st hs
  replace hT := hT.t hs; replace hl := hl.t hs; replace ha := ha.t hs; replace hb := hb.t hs; replace he := he.t hs; replace hc1 := hc1.t hs
  obtain ⟨hgc, hgt⟩ := gains_law (K := 3) (by decide) hH h3a h3b (fun p q => tb_small hE (by omega) p q)
  obtain ⟨gl, hgl⟩ : ∃ c, c = gnL (Tb n m (pos (edW el)) (gN al) (gN bl)) 64 := ⟨_, rfl⟩
  rw [← hgl] at hg hgc hgt
  replace hgc : chkE 3 3 gl = 0 := hgc
  replace hgt : solT 3 3 gl = solHT n m el al bl := hgt
  refine yM 61 67 ?_
  refine yV (kq 68 (.extract (.tmp 61) 0)) (fun _ => val_extract rfl rfl) ?_
  refine yV (kq 69 (.extract (.tmp 61) 1)) (fun _ => val_extract rfl rfl) ?_
  refine yA 12 68 ?_
  refine yA 13 69 ?_
  refine Sch.nil ?_
  refine run_sq ?_
  refine run_pl [yy 0, nn 1, yy 2, yy 3, yy 4, yy 5, yy 6, yy 7, yy 8] ?_
  refine yM 71 12 ?_
  refine cS (kq 72 (.call { callee := .value (.func 17), args := #[(.const (.int .i64 3)), (.const (.int .i64 3)), (.tmp 71)], argTypes := #[3, 3, 29] })) rfl rfl (ent Try.call17 rfl) (solve_ok (n := 3) (m := 3) (l := gl) hF hg) ?_
  rintro vw12 w12 ⟨u2, rfl, hs, hc2⟩
  refine ⟨trivial, ?_⟩
  replace hF := hF.st hs
  replace hT := hT.t hs; replace hl := hl.t hs; replace ha := ha.t hs; replace hb := hb.t hs; replace he := he.t hs; replace hc1 := hc1.t hs; replace hg := hg.t hs
  rw [hgc]
  refine yM 70 72 ?_
  refine yV (kq 73 (.extract (.tmp 70) 0)) (fun _ => val_extract rfl rfl) ?_
  refine yV (kq 74 (.extract (.tmp 70) 1)) (fun _ => val_extract rfl rfl) ?_
  refine yV (kq 75 (.extract (.tmp 70) 2)) (fun _ => val_extract rfl rfl) ?_
  refine yA 14 73 ?_
  refine yA 15 74 ?_
  refine yA 16 75 ?_
  refine Sch.nil ?_
  have hgt2 : solHT n m el al bl = solT 3 3 gl := hgt.symm
  refine run_sq ?_
  refine run_sq ?_
  refine run_pl [yy 0, yy 1, yy 2, yy 3, yy 4, yy 5, yy 6, yy 7, yy 8, yy 9, yy 10, yy 11, yy 12, yy 13, yy 14] ?_
  refine yM 76 11 ?_
  refine yV (kq 77 (.binOp .neq 35 (.tmp 76) (.const (.int .i64 0)) 35)) (fun _ => val_is (val_neq rfl rfl) (show _ = Value.bool false from congrArg Value.bool (decide_eq_false (by decide)))) ?_
  refine yM 78 77 ?_
  refine yMg 79 13 2 false ?_
  refine yV (kg 80 (.binOp .neq 35 (.tmp 79) (.const (.int .i64 0)) 35) 2 false) (fun _ => val_is (val_neq rfl rfl) (show _ = Value.bool false from congrArg Value.bool (decide_eq_false (by decide)))) ?_
  refine yOf 81 78 80 ?_
  refine yM 82 81 ?_
  refine yMg 83 16 6 false ?_
  refine yV (kg 84 (.binOp .neq 35 (.tmp 83) (.const (.int .i64 0)) 35) 6 false) (fun _ => val_is (val_neq rfl rfl) (show _ = Value.bool false from congrArg Value.bool (decide_eq_false (by decide)))) ?_
  refine yOf 85 82 84 ?_
  refine yM 86 85 ?_
  refine yMg 87 10 10 false ?_
  refine yMg 88 15 10 false ?_
  refine yV (kg 89 (.binOp .neq 3 (.tmp 87) (.tmp 88) 3) 10 false) (fun _ => val_is (val_neq rfl rfl) (show _ = Value.bool false from congrArg Value.bool (decide_eq_false (fun e => e hgt2)))) ?_
  refine yOf 90 86 89 ?_
  refine Sch.nil ?_
  refine run_cF 90 ?_
  refine run_sk ?_
  refine run_sq ?_
  refine run_sq ?_
  refine run_pl [yy 0, yy 1, yy 2] ?_
  refine yM 91 12 ?_
  refine yS (kq 92 (.call { callee := .builtin .len, args := #[(.tmp 91)], argTypes := #[29] })) rfl rfl (fun w' hS => hg.lenV rfl Try.underlying29 w' ) ?_
  refine yV (kq 93 (.move (.const (.int .i64 0)))) (fun _ => val_move rfl) ?_
  refine Sch.nil ?_
  refine run_bk 0 ?_
  
  refine run_lp (ι := Nat × (Nat → Nat)) (I := fun x w => x.1 ≤ gl.length ∧ Lim w x.2 ∧ Stp [2, 3, 4, 5, 6, 7, 8, 9] w₀ (col1 C) w x.2 ∧ RV w (Mc x.2) el v_el ∧ RV w (Mc x.2) al va ∧ RV w (Mc x.2) bl vb ∧ RV w (Mc x.2) gl pg) (e := fun x => [(4, .int .i64 n), (5, .int .i64 m), (6, va), (7, vb), (8, v_el), (91, pg), (92, .int .i64 gl.length), (93, .int .i64 x.1)]) (m := fun x => gl.length - x.1) (x₀ := (0, Cd)) (sr 4 (sr 5 (sr 6 (sr 7 (sr 8 (sr 91 (sr 92 (sr 93 (sub_nil _))))))))) ?_ ?_
  · exact ⟨Nat.zero_le _, hF, hT, he, ha, hb, hg⟩
  intro ⟨k, C1⟩ w13 hI next
  obtain ⟨hk, hF, hT, he, ha, hb, hg⟩ := hI
  try simp only at hk hF hT he ha hb hg
  have next1 := next
  clear next
  show Run _ _ _ _ [(4, .int .i64 n), (5, .int .i64 m), (6, va), (7, vb), (8, v_el), (91, pg), (92, .int .i64 gl.length), (93, .int .i64 k)] _ _
  have hle := hg.le
  refine run_sq ?_
  refine run_pl [yy 0] ?_
  refine yV (kq 94 (.binOp .lss 3 (.tmp 93) (.tmp 92) 3)) (fun _ => val_lss rfl rfl) ?_
  refine Sch.nil ?_
  refine run_sq ?_
  refine run_i 94 rfl (fun h94 => ?_) (fun h94 => ?_)
  ·
   have hkl : k < gl.length := by omega
   obtain ⟨p, q, hp64, hq64, htb, hX⟩ := gnL_mem.1 (show gl[k]'hkl ∈ gnL (Tb n m (pos (edW el)) (gN al) (gN bl)) 64 from by rw [← hgl]; exact List.getElem_mem hkl)
   refine run_sk ?_
   refine run_sq ?_
   refine run_bk 1 ?_
   refine run_sq ?_
   refine run_pl [yy 0, nn 1, nn 2, nn 3] ?_
   refine iS (e := 45) (kq 95 (.indexAddr 29 (.tmp 91) (.tmp 93))) rfl rfl hg rfl (by kernel_rfl) rfl (by omega) (by omega) ?_
   intro b95 o95 h95
   try simp only [Int.toNat_natCast] at h95
   refine lNA (kq 96 (.load 45 (.tmp 95))) rfl rfl trivial h95 (by kernel_rfl) (by kernel_rfl) rfl rfl ?_
   intro v96 g96
   obtain rfl := rv_edge.1 g96
   rw [hX]
   refine aS (kq 18 (.alloc 45)) rfl rfl (a_alloc (cs := [.int .i64 0, .int .i64 0, .int .i64 0]) hF 4 (by kernel_rfl)) ?_
   rintro _ w14 ⟨Cw14, bw14, rfl, hs, hx, hF⟩
   refine ⟨trivial, ?_⟩
   replace hT := hT.t hs; replace he := he.t hs; replace ha := ha.t hs; replace hb := hb.t hs; replace hg := hg.t hs; replace h95 := h95.t hs
   refine aN (k0 (.store 45 (.tmp 18) (.tmp 96))) rfl (a_storeAll (vs := encE (⟨(p : Int), (q : Int), (Tb n m (pos (edW el)) (gN al) (gN bl)) p q⟩ : K.Edge)) (n := 3) rfl rfl (by kernel_rfl) rfl rfl (by intro u hu; simp only [encE, List.mem_cons, List.not_mem_nil, or_false] at hu; rcases hu with rfl | rfl | rfl <;> rfl) hx rfl) ?_
   rintro _ w15 ⟨rfl, hs, hx⟩
   refine ⟨trivial, ?_⟩
   replace hF := hF.st hs
   replace hT := hT.t hs; replace he := he.t hs; replace ha := ha.t hs; replace hb := hb.t hs; replace hg := hg.t hs; replace h95 := h95.t hs
   refine Sch.nil ?_
   refine run_sq ?_
   refine run_pl [yy 0] ?_
   refine yV (kq 19 (.assign (.const (.slice none 0 0)))) (fun _ => val_assign rfl) ?_
   refine Sch.nil ?_
   refine run_sq ?_
   refine run_sq ?_
   refine run_pl [yy 0, yy 1, yy 2] ?_
   refine yM 97 8 ?_
   refine yS (kq 98 (.call { callee := .builtin .len, args := #[(.tmp 97)], argTypes := #[29] })) rfl rfl (fun w' hS => he.lenV rfl Try.underlying29 w' ) ?_
   refine yV (kq 99 (.move (.const (.int .i64 0)))) (fun _ => val_move rfl) ?_
   refine Sch.nil ?_
   refine run_bk 2 ?_
   
   refine run_lp (ι := Nat × Value × (Nat → Nat)) (I := fun x w => x.1 ≤ el.length ∧ Lim w x.2.2 ∧ Stp [2, 3, 4, 5, 6, 7, 8, 9] w₀ (col1 C) w x.2.2 ∧ RV w (Mc x.2.2) el v_el ∧ RV w (Mc x.2.2) al va ∧ RV w (Mc x.2.2) bl vb ∧ RV w (Mc x.2.2) gl pg ∧ OwnB w x.2.2 4 bw14 (.cells (encE (⟨(p : Int), (q : Int), (Tb n m (pos (edW el)) (gN al) (gN bl)) p q⟩ : K.Edge)).toArray 45) ∧ OwnL w x.2.2 5 45 x.2.1 ((el.take x.1).filter (fun x => decide (gN al x.a.toNat = p) && decide (gN bl x.b.toNat = q)))) (e := fun x => [(4, .int .i64 n), (5, .int .i64 m), (6, va), (7, vb), (8, v_el), (18, .pointer (some ⟨bw14, 0, none⟩)), (19, x.2.1), (91, pg), (92, .int .i64 gl.length), (93, .int .i64 k), (97, v_el), (98, .int .i64 el.length), (99, .int .i64 x.1)]) (m := fun x => el.length - x.1) (x₀ := (0, .slice none 0 0, Cw14)) (sr 4 (sr 5 (sr 6 (sr 7 (sr 8 (sr 18 (sr 19 (sr 91 (sr 92 (sr 93 (sr 97 (sr 98 (sr 99 (sub_nil _)))))))))))))) ?_ ?_
   · exact ⟨Nat.zero_le _, hF, hT, he, ha, hb, hg, hx, OwnL.nil⟩
   intro ⟨i, vp, C2⟩ w16 hI next
   obtain ⟨hi, hF, hT, he, ha, hb, hg, hx, hp⟩ := hI
   try simp only at hi hF hT he ha hb hg hx hp
   have next2 := next
   clear next
   show Run _ _ _ _ [(4, .int .i64 n), (5, .int .i64 m), (6, va), (7, vb), (8, v_el), (18, .pointer (some ⟨bw14, 0, none⟩)), (19, vp), (91, pg), (92, .int .i64 gl.length), (93, .int .i64 k), (97, v_el), (98, .int .i64 el.length), (99, .int .i64 i)] _ _
   have hlf := List.length_filter_le (fun x => decide (gN al x.a.toNat = p) && decide (gN bl x.b.toNat = q)) (el.take i)
   rw [List.length_take] at hlf
   have hel := hE.len
   refine run_sq ?_
   refine run_pl [yy 0] ?_
   refine yV (kq 100 (.binOp .lss 3 (.tmp 99) (.tmp 98) 3)) (fun _ => val_lss rfl rfl) ?_
   refine Sch.nil ?_
   refine run_sq ?_
   refine run_i 100 rfl (fun h100 => ?_) (fun h100 => ?_)
   ·
    have hil : i < el.length := by omega
    have htk := List.take_succ_eq_append_getElem hil
    have hxo := hEV.ok _ (List.getElem_mem hil)
    unfold okE at hxo
    have hga : gN al (el[i]'hil).a.toNat = al[(el[i]'hil).a.toNat]'(by omega) := getD_in _
    have hgb : gN bl (el[i]'hil).b.toNat = bl[(el[i]'hil).b.toNat]'(by omega) := getD_in _
    refine run_sk ?_
    refine run_sq ?_
    refine run_bk 3 ?_
    refine run_sq ?_
    refine run_pl [yy 0, nn 1, nn 2, nn 3] ?_
    refine iS (e := 45) (kq 101 (.indexAddr 29 (.tmp 97) (.tmp 99))) rfl rfl he rfl (by kernel_rfl) rfl (by omega) (by omega) ?_
    intro b101 o101 h101
    try simp only [Int.toNat_natCast] at h101
    refine lNA (kq 102 (.load 45 (.tmp 101))) rfl rfl trivial h101 (by kernel_rfl) (by kernel_rfl) rfl rfl ?_
    intro v102 g102
    obtain rfl := rv_edge.1 g102
    refine aS (kq 21 (.alloc 45)) rfl rfl (a_alloc (cs := [.int .i64 0, .int .i64 0, .int .i64 0]) hF 6 (by kernel_rfl)) ?_
    rintro _ w17 ⟨Cw17, bw17, rfl, hs, hy, hF⟩
    refine ⟨trivial, ?_⟩
    replace hT := hT.t hs; replace he := he.t hs; replace ha := ha.t hs; replace hb := hb.t hs; replace hg := hg.t hs; replace hx := hx.t hs; replace hp := hp.t hs; replace h101 := h101.t hs
    refine aN (k0 (.store 45 (.tmp 21) (.tmp 102))) rfl (a_storeAll (vs := encE (el[i]'hil)) (n := 3) rfl rfl (by kernel_rfl) rfl rfl (by intro u hu; simp only [encE, List.mem_cons, List.not_mem_nil, or_false] at hu; rcases hu with rfl | rfl | rfl <;> rfl) hy rfl) ?_
    rintro _ w18 ⟨rfl, hs, hy⟩
    refine ⟨trivial, ?_⟩
    replace hF := hF.st hs
    replace hT := hT.t hs; replace he := he.t hs; replace ha := ha.t hs; replace hb := hb.t hs; replace hg := hg.t hs; replace hx := hx.t hs; replace hp := hp.t hs; replace h101 := h101.t hs
    refine Sch.nil ?_
    refine run_sq ?_
    refine run_cut 120 (decide (((gN al (el[i]'hil).a.toNat : Nat) : Int) = (p : Int) ∧ ((gN bl (el[i]'hil).b.toNat : Nat) : Int) = (q : Int))) (Cw17) ?_ ?_
    ·
     intro hcut
     by_cases hA : ((gN al (el[i]'hil).a.toNat : Nat) : Int) = (p : Int)
     ·
      refine run_draw (id := 19) (ops := F6.o19) [] (Cw17) [yy 0, yy 1, yy 2, yy 3, yy 4, yy 5, yy 6, yy 7, yy 8, yy 9, yy 10, yy 11, yy 12, yy 13, yy 14, yy 15, yy 16, yy 17] Try_mixed (by kernel_rfl) (by kernel_rfl) (by kernel_rfl) ?_
      intro w19 hs
      replace hF := hF.st hs
      replace hT := hT.t hs; replace he := he.t hs; replace ha := ha.t hs; replace hb := hb.t hs; replace hg := hg.t hs; replace hx := hx.t hs; replace hp := hp.t hs; replace h101 := h101.t hs; replace hy := hy.t hs
      have hcs := hs
      refine yM 103 6 ?_
      refine yF 104 45 21 0 0 ?_
      refine yS (kq 105 (.load 3 (.tmp 104))) rfl rfl (fun w' hS => val_loadOwn (hy.sy hS) (by kernel_rfl) rfl rfl) ?_
      refine iS (e := 3) (kq 106 (.indexAddr 22 (.tmp 103) (.tmp 105))) rfl rfl ha rfl (by kernel_rfl) rfl (by omega) (by omega) ?_
      intro b106 o106 h106
      try simp only [Int.toNat_natCast] at h106
      refine lS (kq 107 (.load 3 (.tmp 106))) rfl rfl (fun w' hS => h106.sy hS) h106 (by kernel_rfl) rfl rfl ?_
      intro v107 g107
      first | (obtain rfl := rv_nat.1 g107) | (obtain rfl := rv_int.1 g107)
      rw [← hga]
      refine yF 108 45 18 0 0 ?_
      refine yS (kq 109 (.load 3 (.tmp 108))) rfl rfl (fun w' hS => val_loadOwn (hx.sy hS) (by kernel_rfl) rfl rfl) ?_
      refine yV (kq 110 (.binOp .eql 3 (.tmp 107) (.tmp 109) 3)) (fun _ => val_T (val_eql rfl rfl) hA) ?_
      refine yM 111 110 ?_
      refine yMg 112 7 8 true ?_
      refine yFg 113 45 21 1 1 8 true ?_
      refine yS (kg 114 (.load 3 (.tmp 113)) 8 true) rfl rfl (fun w' hS => val_loadOwn (hy.sy hS) (by kernel_rfl) rfl rfl) ?_
      refine iS (e := 3) (kg 115 (.indexAddr 22 (.tmp 112) (.tmp 114)) 8 true) rfl rfl hb rfl (by kernel_rfl) rfl (by omega) (by omega) ?_
      intro b115 o115 h115
      try simp only [Int.toNat_natCast] at h115
      refine lS (kg 116 (.load 3 (.tmp 115)) 8 true) rfl rfl (fun w' hS => h115.sy hS) h115 (by kernel_rfl) rfl rfl ?_
      intro v116 g116
      first | (obtain rfl := rv_nat.1 g116) | (obtain rfl := rv_int.1 g116)
      rw [← hgb]
      refine yFg 117 45 18 1 1 8 true ?_
      refine yS (kg 118 (.load 3 (.tmp 117)) 8 true) rfl rfl (fun w' hS => val_loadOwn (hx.sy hS) (by kernel_rfl) rfl rfl) ?_
      refine yV (kg 119 (.binOp .eql 3 (.tmp 116) (.tmp 118) 3) 8 true) (fun _ => val_eql rfl rfl) ?_
      refine yAt 120 111 119 ?_
      exact Sch.nil (hcut _ _ _ hcs rfl (by congr 1; exact decide_eq_decide.2 ⟨fun h => ⟨hA, h⟩, fun h => h.2⟩) (sk 18))
     ·
      refine run_draw (id := 19) (ops := F6.o19) [] (Cw17) [yy 0, yy 1, yy 2, yy 3, yy 4, yy 5, yy 6, yy 7, yy 8, yy 9, yy 10, yy 11, yy 12, yy 13, yy 14, yy 15, yy 16, yy 17] Try_mixed (by kernel_rfl) (by kernel_rfl) (by kernel_rfl) ?_
      intro w20 hs
      replace hF := hF.st hs
      replace hT := hT.t hs; replace he := he.t hs; replace ha := ha.t hs; replace hb := hb.t hs; replace hg := hg.t hs; replace hx := hx.t hs; replace hp := hp.t hs; replace h101 := h101.t hs; replace hy := hy.t hs
      have hcs := hs
      refine yM 103 6 ?_
      refine yF 104 45 21 0 0 ?_
      refine yS (kq 105 (.load 3 (.tmp 104))) rfl rfl (fun w' hS => val_loadOwn (hy.sy hS) (by kernel_rfl) rfl rfl) ?_
      refine iS (e := 3) (kq 106 (.indexAddr 22 (.tmp 103) (.tmp 105))) rfl rfl ha rfl (by kernel_rfl) rfl (by omega) (by omega) ?_
      intro b106 o106 h106
      try simp only [Int.toNat_natCast] at h106
      refine lS (kq 107 (.load 3 (.tmp 106))) rfl rfl (fun w' hS => h106.sy hS) h106 (by kernel_rfl) rfl rfl ?_
      intro v107 g107
      first | (obtain rfl := rv_nat.1 g107) | (obtain rfl := rv_int.1 g107)
      rw [← hga]
      refine yF 108 45 18 0 0 ?_
      refine yS (kq 109 (.load 3 (.tmp 108))) rfl rfl (fun w' hS => val_loadOwn (hx.sy hS) (by kernel_rfl) rfl rfl) ?_
      refine yV (kq 110 (.binOp .eql 3 (.tmp 107) (.tmp 109) 3)) (fun _ => val_F (val_eql rfl rfl) hA) ?_
      refine yM 111 110 ?_
      refine pX 112 8 true ?_
      refine pX 113 8 true ?_
      refine pX 114 8 true ?_
      refine pX 115 8 true ?_
      refine pX 116 8 true ?_
      refine pX 117 8 true ?_
      refine pX 118 8 true ?_
      refine pX 119 8 true ?_
      refine yAf 120 111 119 ?_
      exact Sch.nil (hcut _ _ _ hcs rfl (by rw [decide_eq_false (fun e => hA e.1)]) (sk 18))
    intro w21 hs
    replace hF := hF.st hs
    replace hT := hT.t hs; replace he := he.t hs; replace ha := ha.t hs; replace hb := hb.t hs; replace hg := hg.t hs; replace hx := hx.t hs; replace hp := hp.t hs; replace h101 := h101.t hs; replace hy := hy.t hs
    refine run_i 120 rfl (fun h120 => ?_) (fun h120 => ?_)
    ·
     have hfi : ((el.take (i + 1)).filter (fun x => decide (gN al x.a.toNat = p) && decide (gN bl x.b.toNat = q))) = ((el.take i).filter (fun x => decide (gN al x.a.toNat = p) && decide (gN bl x.b.toNat = q))) ++ [el[i]'hil] := by
       rw [htk, List.filter_append, List.filter_cons, if_pos (by rw [decide_eq_true (show gN al (el[i]'hil).a.toNat = p by omega), decide_eq_true (show gN bl (el[i]'hil).b.toNat = q by omega)]; rfl), List.filter_nil]
     refine run_pl [yy 0, nn 1, nn 2, nn 3, yy 4] ?_
     refine yM 121 19 ?_
     refine nS (kq 122 (.load 45 (.tmp 21))) rfl rfl trivial (val_loadOwnAgg (n := 3) (vs := encE (el[i]'hil)) hy.at_ (by kernel_rfl) (by kernel_rfl) rfl rfl rfl) ?_
     refine aS (kq 123 (.buildSlice 29 1 #[(0, (.tmp 122))])) rfl rfl (a_buildSlice (ys := ([el[i]'hil] : List K.Edge)) (e := 45) (bytes := 24) hF (by kernel_rfl) rfl (by decide) (by decide) ⟨rfl, ⟨_, rfl, rv_edge.2 rfl⟩, trivial⟩) ?_
     rintro v123 w22 ⟨hs, g123, hF⟩
     refine ⟨trivial, ?_⟩
     replace hT := hT.t hs; replace he := he.t hs; replace ha := ha.t hs; replace hb := hb.t hs; replace hg := hg.t hs; replace hx := hx.t hs; replace hp := hp.t hs; replace h101 := h101.t hs; replace hy := hy.t hs
     refine aS (kq 124 (.call { callee := .builtin .append, args := #[(.tmp 121), (.tmp 123)], argTypes := #[29, 29] })) rfl rfl (a_append (e := 45) (bytes := 24) hF (by decide) rfl rfl (by kernel_rfl) (by decide) hp g123 (by simp only [List.length_cons, List.length_nil]; omega) (by simp only [List.length_cons, List.length_nil]; omega)) ?_
     rintro v124 w23 ⟨Cw23, hs, hp, hF⟩
     refine ⟨trivial, ?_⟩
     replace hT := hT.t hs; replace he := he.t hs; replace ha := ha.t hs; replace hb := hb.t hs; replace hg := hg.t hs; replace hx := hx.t hs; replace h101 := h101.t hs; replace hy := hy.t hs; replace g123 := g123.t hs
     refine yA 19 124 ?_
     refine Sch.nil ?_
     refine run_inBlock ?_
     refine run_pl [yy 0, yy 1] ?_
     refine yV (kq 125 (.binOp .add 3 (.tmp 99) (.const (.int .i64 1)) 3)) (fun _ => val_addi rfl rfl (by omega) (by omega)) ?_
     refine yM 99 125 ?_
     refine Sch.nil ?_
     refine kp (sub_cons 4 rfl rfl (sub_cons 5 rfl rfl (sub_cons 6 rfl rfl (sub_cons 7 rfl rfl (sub_cons 8 rfl rfl (sub_cons 18 rfl rfl (sub_cons 19 rfl rfl (sub_cons 91 rfl rfl (sub_cons 92 rfl rfl (sub_cons 93 rfl rfl (sub_cons 97 rfl rfl (sub_cons 98 rfl rfl (sub_cons 99 rfl (eq_int (by simp)) (sub_nil _)))))))))))))) (next2 (i + 1, v124, Cw23) _ ⟨(by first | omega | (simp only; omega)), hF, hT, he, ha, hb, hg, hx, (by simp only; rw [hfi]; exact hp)⟩ (by first | omega | (simp only; omega)))
    ·
     have hfi : ((el.take (i + 1)).filter (fun x => decide (gN al x.a.toNat = p) && decide (gN bl x.b.toNat = q))) = ((el.take i).filter (fun x => decide (gN al x.a.toNat = p) && decide (gN bl x.b.toNat = q))) := by
       rw [htk, List.filter_append, List.filter_cons, if_neg (fun e => h120 (by rw [Bool.and_eq_true] at e; have e1 := of_decide_eq_true e.1; have e2 := of_decide_eq_true e.2; omega)), List.filter_nil, List.append_nil]
     refine run_sk ?_
     refine run_inBlock ?_
     refine run_pl [yy 0, yy 1] ?_
     refine yV (kq 125 (.binOp .add 3 (.tmp 99) (.const (.int .i64 1)) 3)) (fun _ => val_addi rfl rfl (by omega) (by omega)) ?_
     refine yM 99 125 ?_
     refine Sch.nil ?_
     refine kp (sub_cons 4 rfl rfl (sub_cons 5 rfl rfl (sub_cons 6 rfl rfl (sub_cons 7 rfl rfl (sub_cons 8 rfl rfl (sub_cons 18 rfl rfl (sub_cons 19 rfl rfl (sub_cons 91 rfl rfl (sub_cons 92 rfl rfl (sub_cons 93 rfl rfl (sub_cons 97 rfl rfl (sub_cons 98 rfl rfl (sub_cons 99 rfl (eq_int (by simp)) (sub_nil _)))))))))))))) (next2 (i + 1, vp, Cw17) _ ⟨(by first | omega | (simp only; omega)), hF, hT, he, ha, hb, hg, hx, (by simp only; rw [hfi]; exact hp)⟩ (by first | omega | (simp only; omega)))
   ·
    have hil : i = el.length := by omega
    rw [hil, List.take_length] at hp hlf
    obtain ⟨pl, hpl⟩ : ∃ x, x = el.filter (fun x => decide (gN al x.a.toNat = p) && decide (gN bl x.b.toNat = q)) := ⟨_, rfl⟩
    rw [← hpl] at hp hlf
    obtain ⟨hpc, hpt⟩ := part_law hEV p q hpl
    replace hF := hF.frz 5
    replace hT := hT.frz (n := 5) (fun b => Nat.lt_of_lt_of_le (col1_lt2 C b) (by decide))
    replace he := he.frz 5
    replace ha := ha.frz 5
    replace hb := hb.frz 5
    replace hg := hg.frz 5
    replace hx := hx.frz (n := 5) (by decide)
    have hp_ := hp.frz (n := 5) (by decide) (by omega)
    replace hp := hp_
    clear hp_
    refine run_ex 2 ?_
    refine run_sq ?_
    refine run_pl [yy 0, yy 1, yy 2, nn 3, yy 4, yy 5, yy 6, yy 7, yy 8, yy 9, yy 10] ?_
    refine yM 127 4 ?_
    refine yM 128 5 ?_
    refine yM 129 19 ?_
    refine cS (kq 130 (.call { callee := .value (.func 17), args := #[(.tmp 127), (.tmp 128), (.tmp 129)], argTypes := #[3, 3, 29] })) rfl rfl (ent Try.call17 rfl) (solve_ok (n := n) (m := m) (l := pl) hF hp) ?_
    rintro vw24 w24 ⟨u3, rfl, hs, hc3⟩
    refine ⟨trivial, ?_⟩
    replace hF := hF.st hs
    replace hT := hT.t hs; replace he := he.t hs; replace ha := ha.t hs; replace hb := hb.t hs; replace hg := hg.t hs; replace hx := hx.t hs; replace hp := hp.t hs
    rw [hpc]
    refine yM 126 130 ?_
    refine yV (kq 131 (.extract (.tmp 126) 0)) (fun _ => val_extract rfl rfl) ?_
    refine yV (kq 132 (.extract (.tmp 126) 1)) (fun _ => val_extract rfl rfl) ?_
    refine yV (kq 133 (.extract (.tmp 126) 2)) (fun _ => val_extract rfl rfl) ?_
    refine yA 22 131 ?_
    refine yA 23 132 ?_
    refine yA 24 133 ?_
    refine Sch.nil ?_
    refine run_sq ?_
    refine run_pl [yy 0, yy 1, yy 2, yy 3, yy 4, nn 5, yy 6, yy 7] ?_
    refine yM 134 24 ?_
    refine yV (kq 135 (.binOp .neq 35 (.tmp 134) (.const (.int .i64 0)) 35)) (fun _ => val_is (val_neq rfl rfl) (show _ = Value.bool false from congrArg Value.bool (decide_eq_false (by decide)))) ?_
    refine yM 136 135 ?_
    refine yMg 137 23 2 false ?_
    refine yFg 138 45 18 2 2 2 false ?_
    refine nS (kg 139 (.load 3 (.tmp 138)) 2 false) rfl rfl trivial (val_loadOwn hx.at_ (by kernel_rfl) rfl rfl) ?_
    refine yV (kg 140 (.binOp .neq 3 (.tmp 137) (.tmp 139) 3) 2 false) (fun _ => val_is (val_neq rfl rfl) (show _ = Value.bool false from congrArg Value.bool (decide_eq_false (fun e => e hpt)))) ?_
    refine yOf 141 136 140 ?_
    refine Sch.nil ?_
    refine run_cF 141 ?_
    refine run_sk ?_
    refine run_inBlock ?_
    refine run_pl [yy 0, yy 1] ?_
    refine yV (kq 142 (.binOp .add 3 (.tmp 93) (.const (.int .i64 1)) 3)) (fun _ => val_addi rfl rfl (by omega) (by omega)) ?_
    refine yM 93 142 ?_
    refine Sch.nil ?_
    refine kp (sub_cons 4 rfl rfl (sub_cons 5 rfl rfl (sub_cons 6 rfl rfl (sub_cons 7 rfl rfl (sub_cons 8 rfl rfl (sub_cons 91 rfl rfl (sub_cons 92 rfl rfl (sub_cons 93 rfl (eq_int (by simp)) (sub_nil _))))))))) (next1 (k + 1, K.frz 5 C2) _ ⟨(by first | omega | (simp only; omega)), hF, hT, he, ha, hb, hg⟩ (by first | omega | (simp only; omega)))
  ·
   have hkl : k = gl.length := by omega
   refine run_ex 0 ?_
   refine run_sq ?_
   refine run_pl [yy 0] ?_
   refine yAc 2 (.bool true) ?_
   refine Sch.nil ?_
   refine run_ret1 (by kernel_rfl) Try.func6 Try.results6 rfl ?_
   exact ⟨rfl, hT.out1 (by decide)⟩
namespace F6B
noncomputable def c0 := bodyOf Try.f6
noncomputable def c7 := (cl (cl (cr (cl (cr c0)))))
noncomputable def c15 := (cl (cr (cr (cr (cr c0)))))
noncomputable def c16 := (cr (cr (cr (cr (cr c0)))))
noncomputable def c25 := (cl (cr (cr (cr (cr c16)))))
noncomputable def c32 := (cr (cr (cr (cr (cr c16)))))
noncomputable def c38 := (cl (cl (cl (cr (cl c32)))))
noncomputable def c39 := (cr (cl (cl (cr (cl c32)))))
noncomputable def c48 := (cl (cr (cl (cl (cr c39)))))
noncomputable def c49 := (cr (cr (cl (cl (cr c39)))))
noncomputable def c55 := (cl (cl (cl (cr (cl c49)))))
noncomputable def c56 := (cr (cl (cl (cr (cl c49)))))
noncomputable def c65 := (cl (cr (cl (cl (cr c56)))))
noncomputable def o19 := rops c65
noncomputable def c66 := (cr (cr (cl (cl (cr c56)))))
noncomputable def c76 := (cl (cl (cr (cr (cr c49)))))
end F6B
/-- .. where more is handed than it looks at. -/
theorem householdGains_big {w₀ : World} {C : Nat → Nat} {p : Option Addr} {n c : Nat} (hF : Lim w₀ C) (hn : 400 < n) : Calls Try.prog 6 #[.slice p n c] w₀ (Ret fun v w' => v = .bool true ∧ Stp [] w₀ C w' C) := by
 have hF0 := hF
 have hT := Stp.refl [2, 3, 4, 5, 6, 7, 8, 9] w₀ (col1 C)
 replace hF := hF.col1
 refine calls_start (c := F6B.c0) (N := 143) [.slice p n c] Try.func6 (by kernel_rfl) (by kernel_rfl) (by kernel_rfl) ?_
 show Run _ _ _ _ [(0, .slice p n c)] _ _
 refine run_sq ?_
 refine run_pl [yy 0] ?_
 refine yAc 2 (.bool false) ?_
 refine Sch.nil ?_
 refine run_sq ?_
 refine run_sq ?_
 refine run_pl [nn 0, yy 1, yy 2, yy 3, nn 4, yy 5, yy 6] ?_
 refine cS (kq 25 (.call { callee := .value (.func 7), args := #[], argTypes := #[] })) rfl rfl (ent Try.call7 rfl) (awake_ok hF) ?_
 rintro vw1 w1 ⟨rfl, hs⟩
 refine ⟨trivial, ?_⟩
 replace hF := hF.st hs
 replace hT := hT.t hs
 refine yV (kq 26 (.unOp .not 4 (.tmp 25))) (fun _ => val_not rfl) ?_
 refine yM 27 26 ?_
 refine yMg 28 0 2 false ?_
 refine cS (kg 29 (.call { callee := .value (.func 8), args := #[(.tmp 28)], argTypes := #[22] }) 2 false) rfl rfl (ent Try.call8 rfl) (few_ok _ _ _ _) ?_
 rintro vw2 w2 ⟨rfl, rfl⟩
 refine ⟨trivial, ?_⟩
 rw [decide_eq_false (show ¬ (n : Int) ≤ 400 by omega)]
 refine yV (kg 30 (.unOp .not 4 (.tmp 29)) 2 false) (fun _ => val_not rfl) ?_
 refine yOf 31 27 30 ?_
 refine Sch.nil ?_
 refine run_cT 31 ?_
 refine run_sq ?_
 refine run_pl [nn 0, yy 1] ?_
 refine cS (kq 32 (.call { callee := .value (.func 7), args := #[], argTypes := #[] })) rfl rfl (ent Try.call7 rfl) (awake_ok hF) ?_
 rintro vw3 w3 ⟨rfl, hs⟩
 refine ⟨trivial, ?_⟩
 replace hF := hF.st hs
 replace hT := hT.t hs
 refine yA 2 32 ?_
 refine Sch.nil ?_
 refine run_ret1 (by kernel_rfl) Try.func6 Try.results6 rfl ?_
 exact ⟨rfl, hT.out1 (by decide)⟩
end Go.Proofs.Ytognfmeffnjijaa
