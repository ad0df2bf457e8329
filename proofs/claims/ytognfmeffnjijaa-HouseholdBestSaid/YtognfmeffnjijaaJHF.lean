/- Steps through functions of the program. -/
import Derived.Test.YtognfmeffnjijaaJHE
set_option linter.unusedVariables false
set_option linter.unusedSimpArgs false
set_option maxRecDepth 100000
set_option maxHeartbeats 4000000
namespace Go.Proofs.Ytognfmeffnjijaa
open Go.K Go.K.Rep

namespace F3
noncomputable def c0 := bodyOf Try.f3
noncomputable def c7 := (cl (cl (cr (cl (cr c0)))))
noncomputable def c15 := (cl (cr (cr (cr (cr c0)))))
noncomputable def c16 := (cr (cr (cr (cr (cr c0)))))
noncomputable def c29 := (cl (cr (cr (cr (cr c16)))))
noncomputable def c30 := (cr (cr (cr (cr (cr c16)))))
end F3
/-- No consistent choice weighs more, and none that weighs as much comes earlier. -/
theorem householdBest_ok {w₀ : World} {C : Nat → Nat} {l : List Int} {vl : Value} (hF : Lim w₀ C) (hl : RV w₀ (Mc C) l vl) : Calls Try.prog 3 #[vl] w₀ (Ret fun v w' => v = .bool true ∧ Stp [] w₀ C w' C) := by
 have hF0 := hF
 have hT := Stp.refl [2, 3, 4, 5, 6, 7, 8, 9] w₀ (col1 C)
 replace hF := hF.col1
 replace hl : RV w₀ (Mc (col1 C)) l vl := by rw [Mc_col1]; exact hl
 refine calls_start (c := F3.c0) (N := 77) [vl] Try.func3 (by kernel_rfl) (by kernel_rfl) (by kernel_rfl) ?_
 show Run _ _ _ _ [(0, vl)] _ _
 refine run_sq ?_
 refine run_pl [yy 0] ?_
 refine yAc 2 (.bool false) ?_
 refine Sch.nil ?_
 refine run_sq ?_
 refine run_sq ?_
 refine run_pl [nn 0, yy 1, yy 2, yy 3, nn 4, yy 5, yy 6] ?_
 refine cS (kq 14 (.call { callee := .value (.func 7), args := #[], argTypes := #[] })) rfl rfl (ent Try.call7 rfl) (awake_ok hF) ?_
 rintro vw1 w1 ⟨rfl, hs⟩
 refine ⟨trivial, ?_⟩
 replace hF := hF.st hs
 replace hT := hT.t hs; replace hl := hl.t hs
 refine yV (kq 15 (.unOp .not 4 (.tmp 14))) (fun _ => val_not rfl) ?_
 refine yM 16 15 ?_
 refine yMg 17 0 2 false ?_
 refine cS (kg 18 (.call { callee := .value (.func 8), args := #[(.tmp 17)], argTypes := #[22] }) 2 false) rfl rfl (ent Try.call8 rfl) (few_any hl) ?_
 rintro vw2 w2 ⟨rfl, rfl⟩
 refine ⟨trivial, ?_⟩
 refine yV (kg 19 (.unOp .not 4 (.tmp 18)) 2 false) (fun _ => val_notd rfl) ?_
 refine yOf 20 16 19 ?_
 refine Sch.nil ?_
 refine run_i 20 rfl (fun h20 => ?_) (fun h20 => ?_)
 ·
  refine run_sq ?_
  refine run_pl [nn 0, yy 1] ?_
  refine cS (kq 21 (.call { callee := .value (.func 7), args := #[], argTypes := #[] })) rfl rfl (ent Try.call7 rfl) (awake_ok hF) ?_
  rintro vw3 w3 ⟨rfl, hs⟩
  refine ⟨trivial, ?_⟩
  replace hF := hF.st hs
  replace hT := hT.t hs; replace hl := hl.t hs
  refine yA 2 21 ?_
  refine Sch.nil ?_
  refine run_ret1 (by kernel_rfl) Try.func3 Try.results3 rfl ?_
  exact ⟨rfl, hT.out1 (by decide)⟩
 ·
  refine run_sk ?_
  refine run_sq ?_
  refine run_pl [yy 0, nn 1, yy 2] ?_
  refine yM 22 0 ?_
  refine cS (kq 23 (.call { callee := .value (.func 9), args := #[(.tmp 22)], argTypes := #[22] })) rfl rfl (ent Try.call9 rfl) (new_any hF hl) ?_
  rintro vw4 w4 ⟨Cd, bd, rfl, hs, hF, hd⟩
  refine ⟨trivial, ?_⟩
  replace hT := hT.t hs; replace hl := hl.t hs
  refine yA 3 23 ?_
  refine Sch.nil ?_
  refine run_sq ?_
  refine run_pl [yy 0, nn 1, yy 2, yy 3, nn 4, yy 5, yy 6, yy 7] ?_
  refine yM 24 3 ?_
  refine cS (kq 25 (.call { callee := .value (.func 10), args := #[(.tmp 24), (.const (.int .i64 4))], argTypes := #[25, 3] })) rfl rfl (ent Try.call10 rfl) (next_any (n := 4) hF (by decide) hd (by omega) (by omega)) ?_
  rintro vw5 w5 ⟨p, rfl, hp, hs, hd⟩
  refine ⟨trivial, ?_⟩
  replace hF := hF.st hs
  replace hT := hT.t hs; replace hl := hl.t hs
  refine yV (kq 26 (.binOp .add 3 (.const (.int .i64 1)) (.tmp 25) 3)) (fun _ => val_addi rfl rfl (by omega) (by omega)) ?_
  obtain ⟨n, hnd⟩ : ∃ x : Nat, x = p + 1 := ⟨_, rfl⟩
  rw [show (1 : Int) + (p : Int) = ((n : Nat) : Int) from by omega]
  refine yM 27 3 ?_
  refine cS (kq 28 (.call { callee := .value (.func 10), args := #[(.tmp 27), (.const (.int .i64 4))], argTypes := #[25, 3] })) rfl rfl (ent Try.call10 rfl) (next_any (n := 4) hF (by decide) hd (by omega) (by omega)) ?_
  rintro vw6 w6 ⟨q, rfl, hq, hs, hd⟩
  refine ⟨trivial, ?_⟩
  replace hF := hF.st hs
  replace hT := hT.t hs; replace hl := hl.t hs
  refine yV (kq 29 (.binOp .add 3 (.const (.int .i64 1)) (.tmp 28) 3)) (fun _ => val_addi rfl rfl (by omega) (by omega)) ?_
  obtain ⟨m, hmd⟩ : ∃ x : Nat, x = q + 1 := ⟨_, rfl⟩
  rw [show (1 : Int) + (q : Int) = ((m : Nat) : Int) from by omega]
  refine yA 4 26 ?_
  refine yA 5 29 ?_
  refine Sch.nil ?_
  refine run_sq ?_
  refine run_pl [yy 0, yy 1, nn 2, yy 3, yy 4, nn 5, yy 6, yy 7] ?_
  refine yM 30 3 ?_
  refine yM 31 4 ?_
  refine cS (kq 32 (.call { callee := .value (.func 11), args := #[(.tmp 30), (.tmp 31)], argTypes := #[25, 3] })) rfl rfl (ent Try.call11 rfl) (houses_any (n := n) hF (by decide) hd (by omega)) ?_
  rintro va w7 ⟨al, hall, hal3, hs, ha, hd⟩
  refine ⟨trivial, ?_⟩
  replace hF := hF.st hs
  replace hT := hT.t hs; replace hl := hl.t hs
  refine yM 33 3 ?_
  refine yM 34 5 ?_
  refine cS (kq 35 (.call { callee := .value (.func 11), args := #[(.tmp 33), (.tmp 34)], argTypes := #[25, 3] })) rfl rfl (ent Try.call11 rfl) (houses_any (n := m) hF (by decide) hd (by omega)) ?_
  rintro vb w8 ⟨bl, hbll, hbl3, hs, hb, hd⟩
  refine ⟨trivial, ?_⟩
  replace hF := hF.st hs
  replace hT := hT.t hs; replace hl := hl.t hs; replace ha := ha.t hs
  refine yA 6 32 ?_
  refine yA 7 35 ?_
  refine Sch.nil ?_
  refine run_sq ?_
  refine run_pl [yy 0, yy 1, yy 2, nn 3, yy 4] ?_
  refine yM 36 3 ?_
  refine yM 37 4 ?_
  refine yM 38 5 ?_
  refine cS (kq 39 (.call { callee := .value (.func 12), args := #[(.tmp 36), (.tmp 37), (.tmp 38), (.const (.int .i64 2))], argTypes := #[25, 3, 3, 3] })) rfl rfl (ent Try.call12 rfl) (edges_any (n := n) (m := m) (one := 2) hF (by decide) hd (by omega) (by omega) (by decide) (by decide)) ?_
  rintro v_el w9 ⟨el, hE, ⟨hs, he, hd⟩, _⟩
  have hEV := hE.ve (by omega) (by omega)
  have hEc := hEV.check
  refine ⟨trivial, ?_⟩
  replace hF := hF.st hs
  replace hT := hT.t hs; replace hl := hl.t hs; replace ha := ha.t hs; replace hb := hb.t hs
  refine yA 8 39 ?_
  refine Sch.nil ?_
  obtain ⟨hH, h3a, h3b⟩ := hh_small hall hbll hal3 hbl3
  have hel := hE.len
  clear hd
  refine run_sq ?_
  refine run_sq ?_
  refine run_pl [yy 0, yy 1, yy 2] ?_
  refine yM 40 8 ?_
  refine yS (kq 41 (.call { callee := .builtin .len, args := #[(.tmp 40)], argTypes := #[29] })) rfl rfl (fun w' hS => he.lenV rfl Try.underlying29 w' ) ?_
  refine yV (kq 42 (.binOp .gtr 3 (.tmp 41) (.const (.int .i64 9)) 3)) (fun _ => val_gtr rfl rfl) ?_
  refine Sch.nil ?_
  refine run_i 42 rfl (fun h42 => ?_) (fun h42 => ?_)
  ·
   refine run_pl [yy 0, yy 1, yy 2] ?_
   refine yM 43 8 ?_
   refine sTR (e' := 45) (kq 44 (.slice 29 (.tmp 43) none (some (.const (.int .i64 9))) none)) rfl rfl he rfl (by kernel_rfl) rfl (by omega) (by omega) ?_
   intro v44 h44
   try simp only [Int.toNat_natCast] at h44
   refine yA 8 44 ?_
   refine Sch.nil ?_
   rw [show (9 : Int).toNat = 9 from rfl] at h44
   clear he
   obtain ⟨ml, hml⟩ : ∃ x, x = el.take 9 := ⟨_, rfl⟩
   rw [← hml] at h44
   have hMV : VE n m ml := by rw [hml]; exact hEV.sub (List.take_sublist _ _)
   have hme := h44
   clear h44
   refine run_sq ?_
   refine run_pl [nn 0] ?_
   refine aS (kq 9 (.alloc 31)) rfl rfl (a_alloc (cs := [.slice none 0 0]) hF 5 (by kernel_rfl)) ?_
   rintro _ w10 ⟨Cw10, bw10, rfl, hs, hbb, hF⟩
   refine ⟨trivial, ?_⟩
   replace hT := hT.t hs; replace hl := hl.t hs; replace ha := ha.t hs; replace hb := hb.t hs; replace hme := hme.t hs
   refine Sch.nil ?_
   refine run_sq ?_
   refine run_pl [nn 0, nn 1] ?_
   refine aS (kq 10 (.alloc 3)) rfl rfl (a_alloc (cs := [.int .i64 0]) hF 6 (by kernel_rfl)) ?_
   rintro _ w11 ⟨Cw11, bw11, rfl, hs, hbm, hF⟩
   refine ⟨trivial, ?_⟩
   replace hT := hT.t hs; replace hl := hl.t hs; replace ha := ha.t hs; replace hb := hb.t hs; replace hme := hme.t hs; replace hbb := hbb.t hs
   refine aN (k0 (.store 3 (.tmp 10) (.const (.int .i64 (-1))))) rfl (a_store1 rfl rfl (by kernel_rfl) rfl rfl hbm (by simp)) ?_
   rintro _ w12 ⟨rfl, hs, hbm⟩
   refine ⟨trivial, ?_⟩
   replace hF := hF.st hs
   replace hT := hT.t hs; replace hl := hl.t hs; replace ha := ha.t hs; replace hb := hb.t hs; replace hme := hme.t hs; replace hbb := hbb.t hs
   refine Sch.nil ?_
   refine run_sq ?_
   refine run_pl [yy 0, yy 1, yy 2, nn 3] ?_
   refine yM 45 8 ?_
   refine yM 46 6 ?_
   refine yM 47 7 ?_
   refine cS (kq 48 (.call { callee := .value (.func 13), args := #[(.tmp 45), (.tmp 46), (.tmp 47), (.const (.int .i64 0)), (.const (.slice none 0 0)), (.const (.int .i64 0)), (.tmp 9), (.tmp 10)], argTypes := #[29, 22, 22, 3, 31, 3, 33, 34] })) rfl rfl (ent Try.call13 rfl) (every_ok (N := n) (M := m) (i := 0) (cs := []) (t := 0) (b := ([], -1)) (vc := .slice none 0 0) (vb := .slice none 0 0) hMV hH hF hme ha hb rv_nil rv_nil hbb hbm (Nat.zero_le _) (Nat.le_refl _) (fun _ => rfl) (Int.le_refl 0) (by decide) (fun c hc => by cases hc)) ?_
   rintro vw13 w13 ⟨B, vb_, hB, rfl, hs, hbv, hbb, hbm⟩
   refine ⟨trivial, ?_⟩
   replace hF := hF.st hs
   replace hT := hT.t hs; replace hl := hl.t hs; replace ha := ha.t hs; replace hb := hb.t hs; replace hme := hme.t hs
   rw [List.drop_zero, evH_sol hMV hH] at hB
   refine Sch.nil ?_
   refine run_sq ?_
   refine run_pl [yy 0, yy 1, yy 2, yy 3, yy 4, nn 5, yy 6, yy 7, yy 8, yy 9, yy 10, yy 11, yy 12] ?_
   refine yM 50 4 ?_
   refine yM 51 5 ?_
   refine yM 52 6 ?_
   refine yM 53 7 ?_
   refine yM 54 8 ?_
   refine cS (kq 55 (.call { callee := .value (.func 14), args := #[(.tmp 50), (.tmp 51), (.tmp 52), (.tmp 53), (.tmp 54)], argTypes := #[3, 3, 22, 22, 29] })) rfl rfl (ent Try.call14 rfl) (hsolve_ok (n := n) (m := m) (al := al) (bl := bl) hF hMV hH ha hb hme) ?_
   rintro vw14 w14 ⟨u1, rfl, hs, hc1⟩
   refine ⟨trivial, ?_⟩
   replace hF := hF.st hs
   replace hT := hT.t hs; replace hl := hl.t hs; replace ha := ha.t hs; replace hb := hb.t hs; replace hme := hme.t hs; replace hbb := hbb.t hs; replace hbm := hbm.t hs; replace hbv := hbv.t hs
   refine yM 49 55 ?_
   refine yV (kq 56 (.extract (.tmp 49) 0)) (fun _ => val_extract rfl rfl) ?_
   refine yV (kq 57 (.extract (.tmp 49) 1)) (fun _ => val_extract rfl rfl) ?_
   refine yV (kq 58 (.extract (.tmp 49) 2)) (fun _ => val_extract rfl rfl) ?_
   refine yA 11 56 ?_
   refine yA 12 57 ?_
   refine yA 13 58 ?_
   refine Sch.nil ?_
   refine run_sq ?_
   refine run_pl [yy 0, yy 1, yy 2, yy 3, nn 4, yy 5, yy 6, yy 7, yy 8, nn 9, nn 10, yy 11, yy 12, yy 13, yy 14, yy 15, nn 16, yy 17, yy 18] ?_
   refine yM 59 13 ?_
   refine yV (kq 60 (.binOp .eql 35 (.tmp 59) (.const (.int .i64 0)) 35)) (fun _ => val_is (val_eql rfl rfl) (show _ = Value.bool true from congrArg Value.bool (decide_eq_true (rfl)))) ?_
   refine yM 61 60 ?_
   refine yMg 62 12 2 true ?_
   refine nS (kg 63 (.load 3 (.tmp 10)) 2 true) rfl rfl trivial (val_loadOwn hbm.at_ (by kernel_rfl) rfl rfl) ?_
   refine yV (kg 64 (.binOp .eql 3 (.tmp 62) (.tmp 63) 3) 2 true) (fun _ => val_is (val_eql rfl rfl) (show _ = Value.bool true from congrArg Value.bool (decide_eq_true (by rw [hB])))) ?_
   refine yAt 65 61 64 ?_
   refine yM 66 65 ?_
   refine yMg 67 11 7 true ?_
   refine nS (kg 68 (.load 31 (.tmp 9)) 7 true) rfl rfl trivial (val_loadOwn hbb.at_ (by kernel_rfl) rfl rfl) ?_
   refine cS (kg 69 (.call { callee := .value (.func 15), args := #[(.tmp 67), (.tmp 68)], argTypes := #[31, 31] }) 7 true) rfl rfl (ent Try.call15 rfl) (same_ok hF hc1 hbv) ?_
   rintro vw15 w15 ⟨rfl, hs⟩
   rw [decide_eq_true (show solHL n m ml al bl = B.1 from by rw [hB])]
   refine ⟨trivial, ?_⟩
   replace hF := hF.st hs
   replace hT := hT.t hs; replace hl := hl.t hs; replace ha := ha.t hs; replace hb := hb.t hs; replace hme := hme.t hs; replace hbb := hbb.t hs; replace hbm := hbm.t hs; replace hbv := hbv.t hs; replace hc1 := hc1.t hs
   refine yAt 70 66 69 ?_
   refine yM 71 70 ?_
   refine yMg 72 6 12 true ?_
   refine yMg 73 7 12 true ?_
   refine yMg 74 11 12 true ?_
   obtain ⟨hs1, hs2⟩ := sol_cons (l := ml) hH
   refine cS (kg 75 (.call { callee := .value (.func 16), args := #[(.tmp 72), (.tmp 73), (.tmp 74)], argTypes := #[22, 22, 31] }) 12 true) rfl rfl (ent Try.call16 rfl) (consistent_ok hF ha hb hc1 hs1 hs2) ?_
   rintro vw16 w16 ⟨rfl, hs⟩
   refine ⟨trivial, ?_⟩
   replace hF := hF.st hs
   replace hT := hT.t hs; replace hl := hl.t hs; replace ha := ha.t hs; replace hb := hb.t hs; replace hme := hme.t hs; replace hbb := hbb.t hs; replace hbm := hbm.t hs; replace hbv := hbv.t hs; replace hc1 := hc1.t hs
   refine yAt 76 71 75 ?_
   refine yA 2 76 ?_
   refine Sch.nil ?_
   refine run_ret1 (by kernel_rfl) Try.func3 Try.results3 rfl ?_
   exact ⟨rfl, hT.out1 (by decide)⟩
  ·
   obtain ⟨ml, hml⟩ : ∃ x, x = el := ⟨_, rfl⟩
   rw [← hml] at he
   have hMV : VE n m ml := by rw [hml]; exact hEV
   have hme := he
   clear he
   refine run_sk ?_
   refine run_sq ?_
   refine run_pl [nn 0] ?_
   refine aS (kq 9 (.alloc 31)) rfl rfl (a_alloc (cs := [.slice none 0 0]) hF 5 (by kernel_rfl)) ?_
   rintro _ w17 ⟨Cw17, bw17, rfl, hs, hbb, hF⟩
   refine ⟨trivial, ?_⟩
   replace hT := hT.t hs; replace hl := hl.t hs; replace ha := ha.t hs; replace hb := hb.t hs; replace hme := hme.t hs
   refine Sch.nil ?_
   refine run_sq ?_
   refine run_pl [nn 0, nn 1] ?_
   refine aS (kq 10 (.alloc 3)) rfl rfl (a_alloc (cs := [.int .i64 0]) hF 6 (by kernel_rfl)) ?_
   rintro _ w18 ⟨Cw18, bw18, rfl, hs, hbm, hF⟩
   refine ⟨trivial, ?_⟩
   replace hT := hT.t hs; replace hl := hl.t hs; replace ha := ha.t hs; replace hb := hb.t hs; replace hme := hme.t hs; replace hbb := hbb.t hs
   refine aN (k0 (.store 3 (.tmp 10) (.const (.int .i64 (-1))))) rfl (a_store1 rfl rfl (by kernel_rfl) rfl rfl hbm (by simp)) ?_
   rintro _ w19 ⟨rfl, hs, hbm⟩
   refine ⟨trivial, ?_⟩
   replace hF := hF.st hs
   replace hT := hT.t hs; replace hl := hl.t hs; replace ha := ha.t hs; replace hb := hb.t hs; replace hme := hme.t hs; replace hbb := hbb.t hs
   refine Sch.nil ?_
   refine run_sq ?_
   refine run_pl [yy 0, yy 1, yy 2, nn 3] ?_
   refine yM 45 8 ?_
   refine yM 46 6 ?_
   refine yM 47 7 ?_
   refine cS (kq 48 (.call { callee := .value (.func 13), args := #[(.tmp 45), (.tmp 46), (.tmp 47), (.const (.int .i64 0)), (.const (.slice none 0 0)), (.const (.int .i64 0)), (.tmp 9), (.tmp 10)], argTypes := #[29, 22, 22, 3, 31, 3, 33, 34] })) rfl rfl (ent Try.call13 rfl) (every_ok (N := n) (M := m) (i := 0) (cs := []) (t := 0) (b := ([], -1)) (vc := .slice none 0 0) (vb := .slice none 0 0) hMV hH hF hme ha hb rv_nil rv_nil hbb hbm (Nat.zero_le _) (Nat.le_refl _) (fun _ => rfl) (Int.le_refl 0) (by decide) (fun c hc => by cases hc)) ?_
   rintro vw20 w20 ⟨B, vb_, hB, rfl, hs, hbv, hbb, hbm⟩
   refine ⟨trivial, ?_⟩
   replace hF := hF.st hs
   replace hT := hT.t hs; replace hl := hl.t hs; replace ha := ha.t hs; replace hb := hb.t hs; replace hme := hme.t hs
   rw [List.drop_zero, evH_sol hMV hH] at hB
   refine Sch.nil ?_
   refine run_sq ?_
   refine run_pl [yy 0, yy 1, yy 2, yy 3, yy 4, nn 5, yy 6, yy 7, yy 8, yy 9, yy 10, yy 11, yy 12] ?_
   refine yM 50 4 ?_
   refine yM 51 5 ?_
   refine yM 52 6 ?_
   refine yM 53 7 ?_
   refine yM 54 8 ?_
   refine cS (kq 55 (.call { callee := .value (.func 14), args := #[(.tmp 50), (.tmp 51), (.tmp 52), (.tmp 53), (.tmp 54)], argTypes := #[3, 3, 22, 22, 29] })) rfl rfl (ent Try.call14 rfl) (hsolve_ok (n := n) (m := m) (al := al) (bl := bl) hF hMV hH ha hb hme) ?_
   rintro vw21 w21 ⟨u1, rfl, hs, hc1⟩
   refine ⟨trivial, ?_⟩
   replace hF := hF.st hs
   replace hT := hT.t hs; replace hl := hl.t hs; replace ha := ha.t hs; replace hb := hb.t hs; replace hme := hme.t hs; replace hbb := hbb.t hs; replace hbm := hbm.t hs; replace hbv := hbv.t hs
   refine yM 49 55 ?_
   refine yV (kq 56 (.extract (.tmp 49) 0)) (fun _ => val_extract rfl rfl) ?_
   refine yV (kq 57 (.extract (.tmp 49) 1)) (fun _ => val_extract rfl rfl) ?_
   refine yV (kq 58 (.extract (.tmp 49) 2)) (fun _ => val_extract rfl rfl) ?_
   refine yA 11 56 ?_
   refine yA 12 57 ?_
   refine yA 13 58 ?_
   refine Sch.nil ?_
   refine run_sq ?_
   refine run_pl [yy 0, yy 1, yy 2, yy 3, nn 4, yy 5, yy 6, yy 7, yy 8, nn 9, nn 10, yy 11, yy 12, yy 13, yy 14, yy 15, nn 16, yy 17, yy 18] ?_
   refine yM 59 13 ?_
   refine yV (kq 60 (.binOp .eql 35 (.tmp 59) (.const (.int .i64 0)) 35)) (fun _ => val_is (val_eql rfl rfl) (show _ = Value.bool true from congrArg Value.bool (decide_eq_true (rfl)))) ?_
   refine yM 61 60 ?_
   refine yMg 62 12 2 true ?_
   refine nS (kg 63 (.load 3 (.tmp 10)) 2 true) rfl rfl trivial (val_loadOwn hbm.at_ (by kernel_rfl) rfl rfl) ?_
   refine yV (kg 64 (.binOp .eql 3 (.tmp 62) (.tmp 63) 3) 2 true) (fun _ => val_is (val_eql rfl rfl) (show _ = Value.bool true from congrArg Value.bool (decide_eq_true (by rw [hB])))) ?_
   refine yAt 65 61 64 ?_
   refine yM 66 65 ?_
   refine yMg 67 11 7 true ?_
   refine nS (kg 68 (.load 31 (.tmp 9)) 7 true) rfl rfl trivial (val_loadOwn hbb.at_ (by kernel_rfl) rfl rfl) ?_
   refine cS (kg 69 (.call { callee := .value (.func 15), args := #[(.tmp 67), (.tmp 68)], argTypes := #[31, 31] }) 7 true) rfl rfl (ent Try.call15 rfl) (same_ok hF hc1 hbv) ?_
   rintro vw22 w22 ⟨rfl, hs⟩
   rw [decide_eq_true (show solHL n m ml al bl = B.1 from by rw [hB])]
   refine ⟨trivial, ?_⟩
   replace hF := hF.st hs
   replace hT := hT.t hs; replace hl := hl.t hs; replace ha := ha.t hs; replace hb := hb.t hs; replace hme := hme.t hs; replace hbb := hbb.t hs; replace hbm := hbm.t hs; replace hbv := hbv.t hs; replace hc1 := hc1.t hs
   refine yAt 70 66 69 ?_
   refine yM 71 70 ?_
   refine yMg 72 6 12 true ?_
   refine yMg 73 7 12 true ?_
   refine yMg 74 11 12 true ?_
   obtain ⟨hs1, hs2⟩ := sol_cons (l := ml) hH
   refine cS (kg 75 (.call { callee := .value (.func 16), args := #[(.tmp 72), (.tmp 73), (.tmp 74)], argTypes := #[22, 22, 31] }) 12 true) rfl rfl (ent Try.call16 rfl) (consistent_ok hF ha hb hc1 hs1 hs2) ?_
   rintro vw23 w23 ⟨rfl, hs⟩
   refine ⟨trivial, ?_⟩
   replace hF := hF.st hs
   replace hT := hT.t hs; replace hl := hl.t hs; replace ha := ha.t hs; replace hb := hb.t hs; replace hme := hme.t hs; replace hbb := hbb.t hs; replace hbm := hbm.t hs; replace hbv := hbv.t hs; replace hc1 := hc1.t hs
   refine yAt 76 71 75 ?_
   refine yA 2 76 ?_
   refine Sch.nil ?_
   refine run_ret1 (by kernel_rfl) Try.func3 Try.results3 rfl ?_
   exact ⟨rfl, hT.out1 (by decide)⟩
namespace F3B
noncomputable def c0 := bodyOf Try.f3
noncomputable def c7 := (cl (cl (cr (cl (cr c0)))))
noncomputable def c15 := (cl (cr (cr (cr (cr c0)))))
noncomputable def c16 := (cr (cr (cr (cr (cr c0)))))
noncomputable def c29 := (cl (cr (cr (cr (cr c16)))))
noncomputable def c30 := (cr (cr (cr (cr (cr c16)))))
end F3B
/-- .. where more is handed than it looks at. -/
theorem householdBest_big {w₀ : World} {C : Nat → Nat} {p : Option Addr} {n c : Nat} (hF : Lim w₀ C) (hn : 400 < n) : Calls Try.prog 3 #[.slice p n c] w₀ (Ret fun v w' => v = .bool true ∧ Stp [] w₀ C w' C) := by
 have hF0 := hF
 have hT := Stp.refl [2, 3, 4, 5, 6, 7, 8, 9] w₀ (col1 C)
 replace hF := hF.col1
 refine calls_start (c := F3B.c0) (N := 77) [.slice p n c] Try.func3 (by kernel_rfl) (by kernel_rfl) (by kernel_rfl) ?_
 show Run _ _ _ _ [(0, .slice p n c)] _ _
 refine run_sq ?_
 refine run_pl [yy 0] ?_
 refine yAc 2 (.bool false) ?_
 refine Sch.nil ?_
 refine run_sq ?_
 refine run_sq ?_
 refine run_pl [nn 0, yy 1, yy 2, yy 3, nn 4, yy 5, yy 6] ?_
 refine cS (kq 14 (.call { callee := .value (.func 7), args := #[], argTypes := #[] })) rfl rfl (ent Try.call7 rfl) (awake_ok hF) ?_
 rintro vw1 w1 ⟨rfl, hs⟩
 refine ⟨trivial, ?_⟩
 replace hF := hF.st hs
 replace hT := hT.t hs
 refine yV (kq 15 (.unOp .not 4 (.tmp 14))) (fun _ => val_not rfl) ?_
 refine yM 16 15 ?_
 refine yMg 17 0 2 false ?_
 refine cS (kg 18 (.call { callee := .value (.func 8), args := #[(.tmp 17)], argTypes := #[22] }) 2 false) rfl rfl (ent Try.call8 rfl) (few_ok _ _ _ _) ?_
 rintro vw2 w2 ⟨rfl, rfl⟩
 refine ⟨trivial, ?_⟩
 rw [decide_eq_false (show ¬ (n : Int) ≤ 400 by omega)]
 refine yV (kg 19 (.unOp .not 4 (.tmp 18)) 2 false) (fun _ => val_not rfl) ?_
 refine yOf 20 16 19 ?_
 refine Sch.nil ?_
 refine run_cT 20 ?_
 refine run_sq ?_
 refine run_pl [nn 0, yy 1] ?_
 refine cS (kq 21 (.call { callee := .value (.func 7), args := #[], argTypes := #[] })) rfl rfl (ent Try.call7 rfl) (awake_ok hF) ?_
 rintro vw3 w3 ⟨rfl, hs⟩
 refine ⟨trivial, ?_⟩
 replace hF := hF.st hs
 replace hT := hT.t hs
 refine yA 2 21 ?_
 refine Sch.nil ?_
 refine run_ret1 (by kernel_rfl) Try.func3 Try.results3 rfl ?_
 exact ⟨rfl, hT.out1 (by decide)⟩
end Go.Proofs.Ytognfmeffnjijaa
