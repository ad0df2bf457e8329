/- Steps through functions of the program. -/
import Derived.Test.YtognfmeffnjijaaJH6
import Derived.Test.YtognfmeffnjijaaJH7
set_option linter.unusedVariables false
set_option linter.unusedSimpArgs false
set_option maxRecDepth 100000
set_option maxHeartbeats 4000000
namespace Go.Proofs.Ytognfmeffnjijaa
open Go.K Go.K.Rep

namespace F14
noncomputable def c0 := bodyOf Try.f14
noncomputable def c8 := (cl (cr (cr (cl (cr c0)))))
noncomputable def o4 := rops (cl (cr (cr c0)))
noncomputable def o5 := rops (cl (cr (cr (cr c0))))
noncomputable def c17 := (cl (cr (cr (cr (cr c0)))))
noncomputable def o6 := rops c17
noncomputable def c18 := (cr (cr (cr (cr (cr c0)))))
noncomputable def c24 := (cl (cl (cl (cr (cl c18)))))
noncomputable def c25 := (cr (cl (cl (cr (cl c18)))))
noncomputable def c40 := (cl (cl (cr (cl (cr c18)))))
noncomputable def c49 := (cl (cl (cl (cr (cr c40)))))
noncomputable def c50 := (cr (cl (cl (cr (cr c40)))))
noncomputable def c56 := (cl (cl (cr (cr (cr c18)))))
noncomputable def c57 := (cr (cl (cr (cr (cr c18)))))
noncomputable def c66 := (cl (cr (cr (cl (cl c57)))))
noncomputable def c73 := (cl (cr (cl (cr (cl c66)))))
noncomputable def c82 := (cl (cl (cr (cr (cl c73)))))
noncomputable def c95 := (cl (cr (cr (cr (cl c66)))))
noncomputable def c97 := (cr (cr (cr (cl (cl c57)))))
noncomputable def c99 := (cl (cr (cr (cr (cr c18)))))
noncomputable def o30 := rops c99
end F14
/-- 'Solve'. -/
theorem hsolve_ok {w₀ : World} {C : Nat → Nat} {n m : Nat} {l : List K.Edge} {al bl : List Nat} {va vb vl : Value} (hF : Lim w₀ C) (hV : VE n m l) (hH : HH n m al bl) (ha : RV w₀ (Mc C) al va) (hb : RV w₀ (Mc C) bl vb) (hl : RV w₀ (Mc C) l vl) :
    Calls Try.prog 14 #[.int .i64 n, .int .i64 m, va, vb, vl] w₀ (Ret fun v w' => ∃ u, v = .tuple #[u, .int .i64 (solHT n m l al bl), .int .i64 0] ∧ Stp [] w₀ C w' C ∧ RV w' (Mc C) (solHL n m l al bl) u) := by
 have hF0 := hF
 have hT := Stp.refl [2, 3, 4, 5, 6, 7, 8, 9] w₀ (col1 C)
 replace hF := hF.col1
 have hn1 := hV.n1
 have hm1 := hV.m1
 have hla := hH.la
 have hlb := hH.lb
 replace ha : RV w₀ (Mc (col1 C)) al va := by rw [Mc_col1]; exact ha
 replace hb : RV w₀ (Mc (col1 C)) bl vb := by rw [Mc_col1]; exact hb
 replace hl : RV w₀ (Mc (col1 C)) l vl := by rw [Mc_col1]; exact hl
 refine calls_start (c := F14.c0) (N := 129) [.int .i64 n, .int .i64 m, va, vb, vl] Try.func14 (by kernel_rfl) (by kernel_rfl) (by kernel_rfl) ?_
 show Run _ _ _ _ [(0, .int .i64 n), (1, .int .i64 m), (2, va), (3, vb), (4, vl)] _ _
 refine run_sq ?_
 refine run_pl [yy 0, yy 1, yy 2] ?_
 refine yV (kq 10 (.assign (.const (.slice none 0 0)))) (fun _ => val_assign rfl) ?_
 refine yAc 11 (.int .i64 0) ?_
 refine yAc 12 (.int .i64 0) ?_
 refine Sch.nil ?_
 refine run_sq ?_
 refine run_sq ?_
 refine run_pl [yy 0, yy 1, yy 2, yy 3, yy 4, nn 5, yy 6] ?_
 refine yM 21 0 ?_
 refine yM 22 1 ?_
 refine yM 23 2 ?_
 refine yM 24 3 ?_
 refine yM 25 4 ?_
 refine cS (kq 26 (.call { callee := .value (.func 22), args := #[(.tmp 21), (.tmp 22), (.tmp 23), (.tmp 24), (.tmp 25)], argTypes := #[3, 3, 22, 22, 29] })) rfl rfl (ent Try.call22 rfl) (hcheck_ok (n := n) (m := m) hF hV hH ha hb hl) ?_
 rintro vw1 w1 ⟨rfl, hs⟩
 refine ⟨trivial, ?_⟩
 replace hF := hF.st hs
 replace hT := hT.t hs; replace ha := ha.t hs; replace hb := hb.t hs; replace hl := hl.t hs
 refine yA 13 26 ?_
 refine Sch.nil ?_
 refine run_sq ?_
 refine run_pl [yy 0, yy 1] ?_
 refine yM 27 13 ?_
 refine yV (kq 28 (.binOp .neq 35 (.tmp 27) (.const (.int .i64 0)) 35)) (fun _ => val_is (val_neq rfl rfl) (show _ = Value.bool false from congrArg Value.bool (decide_eq_false (by decide)))) ?_
 refine Sch.nil ?_
 refine run_cF 28 ?_
 refine run_sk ?_
 refine run_sq ?_
 refine run_join (ι := Nat × (List (Couple × Option Nat)) × Nat × Nat × Value × (List Bool) × (Nat → Nat)) (k := [.code (K.cr (K.cr (K.cr F14.c0)))]) (I := fun x w => x.2.2.2.2.2.1.length = 4096 ∧ Lim w x.2.2.2.2.2.2 ∧ Stp [2, 3, 4, 5, 6, 7, 8, 9] w₀ (col1 C) w x.2.2.2.2.2.2 ∧ OwnB w x.2.2.2.2.2.2 3 x.2.2.1 (.cells (seC va vb (.map (some x.1)) (.pointer none) x.2.2.2.2.1 (.slice none 0 0) x.2.2.2.2.2.1).toArray 63) ∧ OwnL w x.2.2.2.2.2.2 4 3 x.2.2.2.2.1 (List.replicate n (0 : Int)) ∧ RV w (Mc x.2.2.2.2.2.2) al va ∧ RV w (Mc x.2.2.2.2.2.2) bl vb ∧ RV w (Mc x.2.2.2.2.2.2) l vl ∧ RM w (Mc x.2.2.2.2.2.2) kvC vvP x.2.1 (.map (some x.1)) ∧ BlkM w x.2.2.2.2.2.2 n m (pos (edW l)) (gN al) (gN bl) x.2.1 ∧ OwnB w x.2.2.2.2.2.2 7 x.2.2.2.1 (.cells [.pointer (some ⟨x.2.2.1, 0, none⟩)].toArray 56)) (e := fun x => [(0, .int .i64 n), (4, vl), (14, .pointer (some ⟨x.2.2.2.1, 0, none⟩))]) ?_ ?_
 ·
  intro ⟨bm, mm, sb, cx, vst, opl, CJ⟩ w2 hI
  obtain ⟨hop, hF, hT, hsb, hst, ha, hb, hl, hbm, hB, hc⟩ := hI
  try simp only at *
  show Run _ _ _ _ [(0, .int .i64 n), (4, vl), (14, .pointer (some ⟨cx, 0, none⟩))] _ _
  refine run_sq ?_
  refine run_draw (id := 5) (ops := F14.o5) [] (CJ) [yy 0, yy 1, nn 2, yy 3, yy 4, nn 5] Try_mixed (by kernel_rfl) (by kernel_rfl) (by kernel_rfl) ?_
  intro w3 hs
  replace hF := hF.st hs
  replace hT := hT.t hs; replace hsb := hsb.t hs; replace hst := hst.t hs; replace ha := ha.t hs; replace hb := hb.t hs; replace hl := hl.t hs; replace hbm := hbm.t hs; replace hB := hB.t hs; replace hc := hc.t hs
  have hR := Stp.refl [] w3 (CJ)
  refine yS (kq 40 (.load 56 (.tmp 14))) rfl rfl (fun w' hS => val_loadOwn (hc.sy hS) (by kernel_rfl) rfl rfl) ?_
  refine yV (kq 41 (.makeFunc (.func 25) #[] #[(.tmp 14)])) (fun _ => val_makeFunc rfl rfl) ?_
  have hwt : ∀ w1, Stp [] _ (CJ) w1 (CJ) → ∀ p q : Nat, p < 64 → q < 64 → Calls Try.prog 25 ([Value.int .i64 p, Value.int .i64 q] ++ #[Value.pointer (some ⟨cx, 0, none⟩)].toList).toArray w1 (Ret fun v w2 => v = .int .i64 ((Tb n m (pos (edW l)) (gN al) (gN bl)) p q) ∧ Stp [] w1 (CJ) w2 (CJ)) := fun w1 hs1 p q _ _ => by
    refine (gain_ok (p := p) (q := q) ((hc.st hs1 (by decide)).frzA (n := 3) (by decide) rfl) ((hsb.st hs1 (by decide)).frz0 (n := 3) (by decide)) ((hbm.st hs1 (by decide)).frz 3) ((hB.st hs1 (by decide)).frz 3)).mono (Ret.mono fun v w2 h => ⟨h.1, ?_⟩)
    rw [h.2]; exact Stp.refl _ _ _
  refine cS (kq 42 (.call { callee := .value (.func 24), args := #[(.const (.int .i64 64)), (.const (.int .i64 64)), (.tmp 41)], argTypes := #[3, 3, 73] })) rfl rfl (ent Try.call24 rfl) (tnew_all (n := 64) (m := 64) (wt := (Tb n m (pos (edW l)) (gN al) (gN bl))) (W := 4194304) hF (by decide) (by decide) (fun args w => Try.call25 args w) hwt (fun i j _ _ => tb_le hV) (by decide) (by decide) (by decide)) ?_
  rintro vw4 w4 ⟨ob, ogr, U, V, rfl, hs, hob, hG, _⟩
  refine ⟨(hR.trans hs (by simp)).ext, ?_⟩
  replace hF := hF.st hs
  replace hT := hT.t hs; replace hsb := hsb.t hs; replace hst := hst.t hs; replace ha := ha.t hs; replace hb := hb.t hs; replace hl := hl.t hs; replace hbm := hbm.t hs; replace hB := hB.t hs; replace hc := hc.t hs; replace hR := hR.t hs
  refine yN 43 40 ?_
  refine yF 44 63 43 3 3 ?_
  refine Sch.free rfl ?_
  refine aN (k0 (.store 59 (.tmp 44) (.tmp 42))) rfl (a_store1 rfl rfl (by kernel_rfl) rfl rfl hsb (by rw [seC_len]; omega)) ?_
  rintro _ w5 ⟨rfl, hs, hsb⟩
  refine ⟨trivial, ?_⟩
  replace hF := hF.st hs
  replace hT := hT.t hs; replace hst := hst.t hs; replace ha := ha.t hs; replace hb := hb.t hs; replace hl := hl.t hs; replace hbm := hbm.t hs; replace hB := hB.t hs; replace hc := hc.t hs; replace hob := hob.t hs
  replace hsb : OwnB _ _ 3 sb (.cells (seC va vb (.map (some bm)) (.pointer (some ⟨ob, 0, none⟩)) vst (.slice none 0 0) opl).toArray 63) := hsb
  refine Sch.nil ?_
  refine run_sq ?_
  refine run_draw (id := 6) (ops := F14.o6) [] (CJ) [yy 0, yy 1, yy 2, yy 3, yy 4, nn 5, yy 6, yy 7, nn 8] Try_mixed (by kernel_rfl) (by kernel_rfl) (by kernel_rfl) ?_
  intro w6 hs
  replace hF := hF.st hs
  replace hT := hT.t hs; replace hsb := hsb.t hs; replace hst := hst.t hs; replace ha := ha.t hs; replace hb := hb.t hs; replace hl := hl.t hs; replace hbm := hbm.t hs; replace hB := hB.t hs; replace hc := hc.t hs; replace hob := hob.t hs
  have hR := Stp.refl [] w6 (CJ)
  refine yS (kq 45 (.load 56 (.tmp 14))) rfl rfl (fun w' hS => val_loadOwn (hc.sy hS) (by kernel_rfl) rfl rfl) ?_
  refine yS (kq 46 (.load 56 (.tmp 14))) rfl rfl (fun w' hS => val_loadOwn (hc.sy hS) (by kernel_rfl) rfl rfl) ?_
  refine yN 47 46 ?_
  refine yF 48 63 47 3 3 ?_
  refine yS (kq 49 (.load 59 (.tmp 48))) rfl rfl (fun w' hS => val_loadOwn (hsb.sy hS) (by kernel_rfl) rfl rfl) ?_
  refine cS (kq 50 (.call { callee := .value (.func 26), args := #[(.tmp 49)], argTypes := #[59] })) rfl rfl (ent Try.call26 rfl) (begin_own hF hob hG (by decide) 5 (by decide)) ?_
  rintro vhs w7 ⟨Cb, hs, hF, hhs⟩
  refine ⟨(hR.trans hs (by simp)).ext, ?_⟩
  replace hT := hT.t hs; replace hsb := hsb.t hs; replace hst := hst.t hs; replace ha := ha.t hs; replace hb := hb.t hs; replace hl := hl.t hs; replace hbm := hbm.t hs; replace hB := hB.t hs; replace hc := hc.t hs; replace hob := hob.t hs; replace hR := hR.t hs
  refine yN 51 45 ?_
  refine yF 52 63 51 5 5 ?_
  refine Sch.free rfl ?_
  refine aN (k0 (.store 22 (.tmp 52) (.tmp 50))) rfl (a_store1 rfl rfl (by kernel_rfl) hhs.one.1 hhs.one.2 hsb (by rw [seC_len]; omega)) ?_
  rintro _ w8 ⟨rfl, hs, hsb⟩
  refine ⟨trivial, ?_⟩
  replace hF := hF.st hs
  replace hT := hT.t hs; replace hst := hst.t hs; replace ha := ha.t hs; replace hb := hb.t hs; replace hl := hl.t hs; replace hbm := hbm.t hs; replace hB := hB.t hs; replace hc := hc.t hs; replace hob := hob.t hs; replace hhs := hhs.t hs
  replace hsb : OwnB _ _ 3 sb (.cells (seC va vb (.map (some bm)) (.pointer (some ⟨ob, 0, none⟩)) vst vhs opl).toArray 63) := hsb
  refine Sch.nil ?_
  refine run_sq ?_
  refine run_sq ?_
  refine run_pl [nn 0, yy 1, yy 2, nn 3, yy 4, yy 5] ?_
  refine nS (kq 53 (.load 56 (.tmp 14))) rfl rfl trivial (val_loadOwn hc.at_ (by kernel_rfl) rfl rfl) ?_
  refine yN 54 53 ?_
  refine yF 55 63 54 4 4 ?_
  refine nS (kq 56 (.load 22 (.tmp 55))) rfl rfl trivial (val_loadOwn hsb.at_ (by kernel_rfl) rfl rfl) ?_
  refine yS (kq 57 (.call { callee := .builtin .len, args := #[(.tmp 56)], argTypes := #[22] })) rfl rfl (fun w' hS => hst.lenV rfl Try.underlying22 w' ) ?_
  refine yV (kq 58 (.move (.const (.int .i64 0)))) (fun _ => val_move rfl) ?_
  refine Sch.nil ?_
  refine run_bk 0 ?_
  
  refine run_lp (ι := Nat × (List Int) × (Nat → Nat)) (I := fun x w => x.1 ≤ n ∧ x.2.1.length = n ∧ (∀ k, k < x.1 → gI x.2.1 k = -2) ∧ Lim w x.2.2 ∧ Stp [2, 3, 4, 5, 6, 7, 8, 9] w₀ (col1 C) w x.2.2 ∧ OwnB w x.2.2 3 sb (.cells (seC va vb (.map (some bm)) (.pointer (some ⟨ob, 0, none⟩)) vst vhs opl).toArray 63) ∧ OwnL w x.2.2 4 3 vst x.2.1 ∧ OwnL w x.2.2 5 3 vhs (List.replicate 64 (-2 : Int)) ∧ RV w (Mc x.2.2) al va ∧ RV w (Mc x.2.2) bl vb ∧ RM w (Mc x.2.2) kvC vvP mm (.map (some bm)) ∧ BlkM w x.2.2 n m (pos (edW l)) (gN al) (gN bl) mm ∧ RA w (Mc x.2.2) ogr ob 0 ∧ RV w (Mc x.2.2) l vl ∧ OwnB w x.2.2 7 cx (.cells [.pointer (some ⟨sb, 0, none⟩)].toArray 56)) (e := fun x => [(0, .int .i64 n), (4, vl), (14, .pointer (some ⟨cx, 0, none⟩)), (57, .int .i64 n), (58, .int .i64 x.1)]) (m := fun x => n - x.1) (x₀ := (0, List.replicate n 0, Cb)) (sr 0 (sr 4 (sr 14 (sub_cons 57 rfl (eq_int (by simp)) (sr 58 (sub_nil _)))))) ?_ ?_
  · exact ⟨Nat.zero_le _, List.length_replicate, (fun k hk => by omega), hF, hT, hsb, hst, hhs, ha, hb, hbm, hB, hob, hl, hc⟩
  intro ⟨i, stl, C1⟩ w9 hI next
  obtain ⟨hi, hsl, hu, hF, hT, hsb, hst, hhs, ha, hb, hbm, hB, hob, hl, hc⟩ := hI
  try simp only at hi hsl hu hF hT hsb hst hhs ha hb hbm hB hob hl hc
  have next1 := next
  clear next
  show Run _ _ _ _ [(0, .int .i64 n), (4, vl), (14, .pointer (some ⟨cx, 0, none⟩)), (57, .int .i64 n), (58, .int .i64 i)] _ _
  refine run_sq ?_
  refine run_pl [yy 0] ?_
  refine yV (kq 59 (.binOp .lss 3 (.tmp 58) (.tmp 57) 3)) (fun _ => val_lss rfl rfl) ?_
  refine Sch.nil ?_
  refine run_sq ?_
  refine run_i 59 rfl (fun h59 => ?_) (fun h59 => ?_)
  ·
   have hin : i < n := by omega
   refine run_sk ?_
   refine run_sq ?_
   refine run_bk 1 ?_
   refine run_sq ?_
   refine run_pl [yy 0, yy 1] ?_
   refine yM 60 58 ?_
   refine yA 15 60 ?_
   refine Sch.nil ?_
   refine run_pl [nn 0, yy 1, yy 2, nn 3, yy 4, yy 5, nn 6] ?_
   refine nS (kq 61 (.load 56 (.tmp 14))) rfl rfl trivial (val_loadOwn hc.at_ (by kernel_rfl) rfl rfl) ?_
   refine yN 62 61 ?_
   refine yF 63 63 62 4 4 ?_
   refine nS (kq 64 (.load 22 (.tmp 63))) rfl rfl trivial (val_loadOwn hsb.at_ (by kernel_rfl) rfl rfl) ?_
   refine yM 65 15 ?_
   refine oI (e' := 3) (kq 66 (.indexAddr 22 (.tmp 64) (.tmp 65))) rfl rfl hst rfl (by kernel_rfl) rfl (by omega) (by omega) ?_
   intro g66 hg66
   try simp only [Int.toNat_natCast]
   refine aN (k0 (.store 3 (.tmp 66) (.const (.int .i64 (-2))))) rfl (a_storeO hst hg66 (by omega) rfl rfl (by kernel_rfl) (rv_int.2 rfl)) ?_
   rintro _ w10 ⟨rfl, hs, hst⟩
   refine ⟨trivial, ?_⟩
   replace hF := hF.st hs
   replace hT := hT.t hs; replace hsb := hsb.t hs; replace hhs := hhs.t hs; replace ha := ha.t hs; replace hb := hb.t hs; replace hbm := hbm.t hs; replace hB := hB.t hs; replace hob := hob.t hs; replace hl := hl.t hs; replace hc := hc.t hs
   refine Sch.nil ?_
   refine run_inBlock ?_
   refine run_pl [yy 0, yy 1] ?_
   refine yV (kq 67 (.binOp .add 3 (.tmp 58) (.const (.int .i64 1)) 3)) (fun _ => val_addi rfl rfl (by omega) (by omega)) ?_
   refine yM 58 67 ?_
   refine Sch.nil ?_
   refine kp (sub_cons 0 rfl rfl (sub_cons 4 rfl rfl (sub_cons 14 rfl rfl (sub_cons 57 rfl rfl (sub_cons 58 rfl (eq_int (by simp)) (sub_nil _)))))) (next1 (i + 1, stl.set i (-2), C1) _ ⟨(by first | omega | (simp only; omega)), (by simp only [List.length_set]; exact hsl), (fun k hk => by
       simp only at hk ⊢
       rw [gI_set (by omega)]; unfold setF
       split
       · rfl
       · exact hu k (by omega)), hF, hT, hsb, hst, hhs, ha, hb, hbm, hB, hob, hl, hc⟩ (by first | omega | (simp only; omega)))
  ·
   have hin : i = n := by omega
   rw [hin] at hu
   refine run_ex 0 ?_
   refine run_sq ?_
   refine run_sq ?_
   refine run_pl [yy 0] ?_
   refine yV (kq 68 (.move (.const (.int .i64 0)))) (fun _ => val_move rfl) ?_
   refine Sch.nil ?_
   refine run_bk 2 ?_
   
   refine run_lp (ι := Nat × (List Bool) × (Nat → Nat)) (I := fun x w => x.1 ≤ 64 ∧ x.2.1.length = 4096 ∧ (∀ p' q', p' < x.1 → q' < 64 → (opB x.2.1 p' q' = true ↔ 0 < Tb n m (pos (edW l)) (gN al) (gN bl) p' q' ∧ FitP n m (pos (edW l)) (gN al) (gN bl) (gI stl) p' q')) ∧ Lim w x.2.2 ∧ Stp [2, 3, 4, 5, 6, 7, 8, 9] w₀ (col1 C) w x.2.2 ∧ OwnB w x.2.2 3 sb (.cells (seC va vb (.map (some bm)) (.pointer (some ⟨ob, 0, none⟩)) vst vhs x.2.1).toArray 63) ∧ OwnL w x.2.2 4 3 vst stl ∧ OwnL w x.2.2 5 3 vhs (List.replicate 64 (-2 : Int)) ∧ RV w (Mc x.2.2) al va ∧ RV w (Mc x.2.2) bl vb ∧ RM w (Mc x.2.2) kvC vvP mm (.map (some bm)) ∧ BlkM w x.2.2 n m (pos (edW l)) (gN al) (gN bl) mm ∧ RA w (Mc x.2.2) ogr ob 0 ∧ RV w (Mc x.2.2) l vl ∧ OwnB w x.2.2 7 cx (.cells [.pointer (some ⟨sb, 0, none⟩)].toArray 56)) (e := fun x => [(0, .int .i64 n), (4, vl), (14, .pointer (some ⟨cx, 0, none⟩)), (68, .int .i64 x.1)]) (m := fun x => 64 - x.1) (x₀ := (0, opl, C1)) (sr 0 (sr 4 (sr 14 (sr 68 (sub_nil _))))) ?_ ?_
   · exact ⟨Nat.zero_le _, hop, (fun p' q' hp => by omega), hF, hT, hsb, hst, hhs, ha, hb, hbm, hB, hob, hl, hc⟩
   intro ⟨p, opl, C2⟩ w11 hI next
   obtain ⟨hp, hop, hO, hF, hT, hsb, hst, hhs, ha, hb, hbm, hB, hob, hl, hc⟩ := hI
   try simp only at hp hop hO hF hT hsb hst hhs ha hb hbm hB hob hl hc
   have next2 := next
   clear next
   show Run _ _ _ _ [(0, .int .i64 n), (4, vl), (14, .pointer (some ⟨cx, 0, none⟩)), (68, .int .i64 p)] _ _
   refine run_sq ?_
   refine run_pl [yy 0] ?_
   refine yV (kq 69 (.binOp .lss 3 (.tmp 68) (.const (.int .i64 64)) 3)) (fun _ => val_lss rfl rfl) ?_
   refine Sch.nil ?_
   refine run_sq ?_
   refine run_i 69 rfl (fun h69 => ?_) (fun h69 => ?_)
   ·
    have hp64 : p < 64 := by omega
    refine run_sk ?_
    refine run_sq ?_
    refine run_bk 3 ?_
    refine run_sq ?_
    refine run_pl [yy 0, yy 1] ?_
    refine yM 70 68 ?_
    refine yA 16 70 ?_
    refine Sch.nil ?_
    refine run_pl [nn 0, yy 1, nn 2] ?_
    refine nS (kq 71 (.load 56 (.tmp 14))) rfl rfl trivial (val_loadOwn hc.at_ (by kernel_rfl) rfl rfl) ?_
    refine yM 72 16 ?_
    refine cS (kq 73 (.call { callee := .value (.func 27), args := #[(.tmp 71), (.tmp 72)], argTypes := #[56, 3] })) rfl rfl (ent Try.call27 rfl) (look_ok (hou := (List.replicate 64 (-2 : Int))) hF hV hH hsb hst hhs ha hb hbm hB hob hG hsl List.length_replicate hop hp64 (fun q k hk _ => by rw [hu k hk]; omega)) ?_
    rintro vw12 w12 ⟨op1, rfl, hs, hsb, hL⟩
    refine ⟨trivial, ?_⟩
    replace hF := hF.st hs
    replace hT := hT.t hs; replace hst := hst.t hs; replace hhs := hhs.t hs; replace ha := ha.t hs; replace hb := hb.t hs; replace hbm := hbm.t hs; replace hB := hB.t hs; replace hob := hob.t hs; replace hl := hl.t hs; replace hc := hc.t hs
    refine Sch.nil ?_
    refine run_inBlock ?_
    refine run_pl [yy 0, yy 1] ?_
    refine yV (kq 74 (.binOp .add 3 (.tmp 68) (.const (.int .i64 1)) 3)) (fun _ => val_addi rfl rfl (by omega) (by omega)) ?_
    refine yM 68 74 ?_
    refine Sch.nil ?_
    refine kp (sub_cons 0 rfl rfl (sub_cons 4 rfl rfl (sub_cons 14 rfl rfl (sub_cons 68 rfl (eq_int (by simp)) (sub_nil _))))) (next2 (p + 1, op1, C2) _ ⟨(by first | omega | (simp only; omega)), hL.1, (fun p' q' hp' hq' => by
        rw [hL.2 p' q' (by omega) hq']
        by_cases e : p' = p
        · rw [if_pos ⟨e, hq'⟩, e]
        · rw [if_neg (fun h => e h.1)]; exact hO p' q' (by omega) hq'), hF, hT, hsb, hst, hhs, ha, hb, hbm, hB, hob, hl, hc⟩ (by first | omega | (simp only; omega)))
   ·
    have hp64 : p = 64 := by omega
    subst hp64
    refine run_ex 2 ?_
    refine run_sq ?_
    refine run_pl [yy 0] ?_
    refine yV (kq 17 (.assign (.const (.slice none 0 0)))) (fun _ => val_assign rfl) ?_
    refine Sch.nil ?_
    refine run_sq ?_
    refine run_sq ?_
    refine run_pl [yy 0, yy 1] ?_
    refine yM 75 0 ?_
    refine yV (kq 76 (.move (.const (.int .i64 0)))) (fun _ => val_move rfl) ?_
    refine Sch.nil ?_
    refine run_bk 4 ?_
    
    refine run_lp (ι := Nat × (List Int) × (List Int) × (List Bool) × Value × (Nat → Nat)) (I := fun x w => x.1 ≤ n ∧ x.2.1.length = n ∧ x.2.2.1.length = 64 ∧ x.2.2.2.1.length = 4096 ∧ SI 64 n m (pos (edW l)) (gN al) (gN bl) (gI x.2.1) (gI x.2.2.1) (opB x.2.2.2.1) x.1 ∧ Lim w x.2.2.2.2.2 ∧ Stp [2, 3, 4, 5, 6, 7, 8, 9] w₀ (col1 C) w x.2.2.2.2.2 ∧ OwnB w x.2.2.2.2.2 3 sb (.cells (seC va vb (.map (some bm)) (.pointer (some ⟨ob, 0, none⟩)) vst vhs x.2.2.2.1).toArray 63) ∧ OwnL w x.2.2.2.2.2 4 3 vst x.2.1 ∧ OwnL w x.2.2.2.2.2 5 3 vhs x.2.2.1 ∧ RV w (Mc x.2.2.2.2.2) al va ∧ RV w (Mc x.2.2.2.2.2) bl vb ∧ RM w (Mc x.2.2.2.2.2) kvC vvP mm (.map (some bm)) ∧ BlkM w x.2.2.2.2.2 n m (pos (edW l)) (gN al) (gN bl) mm ∧ RA w (Mc x.2.2.2.2.2) ogr ob 0 ∧ RV w (Mc x.2.2.2.2.2) l vl ∧ OwnB w x.2.2.2.2.2 7 cx (.cells [.pointer (some ⟨sb, 0, none⟩)].toArray 56) ∧ OwnL w x.2.2.2.2.2 6 47 x.2.2.2.2.1 (outI (gI x.2.1) x.1)) (e := fun x => [(0, .int .i64 n), (4, vl), (14, .pointer (some ⟨cx, 0, none⟩)), (17, x.2.2.2.2.1), (75, .int .i64 n), (76, .int .i64 x.1)]) (m := fun x => n - x.1) (x₀ := (0, stl, (List.replicate 64 (-2 : Int)), opl, .slice none 0 0, C2)) (sr 0 (sr 4 (sr 14 (sr 17 (sr 75 (sr 76 (sub_nil _))))))) ?_ ?_
    · exact ⟨Nat.zero_le _, hsl, List.length_replicate, hop, SI.start (fun q hq => hu q hq) (fun p hp => gI_rep hp) (fun p hp _ q hq => hO p q hp hq) (fun i hi => hH.ga hi), hF, hT, hsb, hst, hhs, ha, hb, hbm, hB, hob, hl, hc, OwnL.nil⟩
    intro ⟨i, stl, hou, opl, vo, C3⟩ w13 hI next
    obtain ⟨hi, hsl, hhl, hop, hSI, hF, hT, hsb, hst, hhs, ha, hb, hbm, hB, hob, hl, hc, ho⟩ := hI
    try simp only at hi hsl hhl hop hSI hF hT hsb hst hhs ha hb hbm hB hob hl hc ho
    have next3 := next
    clear next
    show Run _ _ _ _ [(0, .int .i64 n), (4, vl), (14, .pointer (some ⟨cx, 0, none⟩)), (17, vo), (75, .int .i64 n), (76, .int .i64 i)] _ _
    have hol := outI_len (gI stl) i
    have hn1 := hV.n1
    have hm1 := hV.m1
    refine run_sq ?_
    refine run_pl [yy 0] ?_
    refine yV (kq 77 (.binOp .lss 3 (.tmp 76) (.tmp 75) 3)) (fun _ => val_lss rfl rfl) ?_
    refine Sch.nil ?_
    refine run_sq ?_
    refine run_i 77 rfl (fun h77 => ?_) (fun h77 => ?_)
    ·
     have hin : i < n := by omega
     have hu := hSI.gi.und i (Nat.le_refl _) hin
     have hsgi : gI stl i = stl[i]'(by omega) := getD_in _
     have hHa := fun i (hi : i < n) => hH.ga hi
     have hHb := fun j (hj : j < m) => hH.gb hj
     refine run_sk ?_
     refine run_sq ?_
     refine run_bk 5 ?_
     refine run_sq ?_
     refine run_pl [yy 0, yy 1] ?_
     refine yM 78 76 ?_
     refine yA 18 78 ?_
     refine Sch.nil ?_
     refine run_sq ?_
     refine run_sq ?_
     refine run_pl [yy 0, yy 1, yy 2] ?_
     refine yM 79 4 ?_
     refine yS (kq 80 (.call { callee := .builtin .len, args := #[(.tmp 79)], argTypes := #[29] })) rfl rfl (fun w' hS => hl.lenV rfl Try.underlying29 w' ) ?_
     refine yV (kq 81 (.move (.const (.int .i64 0)))) (fun _ => val_move rfl) ?_
     refine Sch.nil ?_
     refine run_bk 6 ?_
     
     refine run_lp (ι := Nat × (Nat → Nat)) (I := fun x w => x.1 ≤ l.length ∧ TrI n m 64 (pos (edW l)) (gN al) (gN bl) l (gI stl) i x.1 ∧ Lim w x.2 ∧ Stp [2, 3, 4, 5, 6, 7, 8, 9] w₀ (col1 C) w x.2 ∧ OwnB w x.2 3 sb (.cells (seC va vb (.map (some bm)) (.pointer (some ⟨ob, 0, none⟩)) vst vhs opl).toArray 63) ∧ OwnL w x.2 4 3 vst stl ∧ OwnL w x.2 5 3 vhs hou ∧ RV w (Mc x.2) al va ∧ RV w (Mc x.2) bl vb ∧ RM w (Mc x.2) kvC vvP mm (.map (some bm)) ∧ BlkM w x.2 n m (pos (edW l)) (gN al) (gN bl) mm ∧ RA w (Mc x.2) ogr ob 0 ∧ RV w (Mc x.2) l vl ∧ OwnB w x.2 7 cx (.cells [.pointer (some ⟨sb, 0, none⟩)].toArray 56) ∧ OwnL w x.2 6 47 vo (outI (gI stl) i)) (e := fun x => [(0, .int .i64 n), (4, vl), (14, .pointer (some ⟨cx, 0, none⟩)), (17, vo), (18, .int .i64 i), (75, .int .i64 n), (76, .int .i64 i), (79, vl), (80, .int .i64 l.length), (81, .int .i64 x.1)]) (m := fun x => l.length - x.1) (x₀ := (0, C3)) (sr 0 (sr 4 (sr 14 (sr 17 (sr 18 (sr 75 (sr 76 (sr 79 (sr 80 (sr 81 (sub_nil _))))))))))) ?_ ?_
     · exact ⟨Nat.zero_le _, (TrI.start hV hin), hF, hT, hsb, hst, hhs, ha, hb, hbm, hB, hob, hl, hc, ho⟩
     intro ⟨k, C4⟩ w14 hI next
     obtain ⟨hk, hTr, hF, hT, hsb, hst, hhs, ha, hb, hbm, hB, hob, hl, hc, ho⟩ := hI
     try simp only at hk hTr hF hT hsb hst hhs ha hb hbm hB hob hl hc ho
     have next4 := next
     clear next
     show Run _ _ _ _ [(0, .int .i64 n), (4, vl), (14, .pointer (some ⟨cx, 0, none⟩)), (17, vo), (18, .int .i64 i), (75, .int .i64 n), (76, .int .i64 i), (79, vl), (80, .int .i64 l.length), (81, .int .i64 k)] _ _
     have hle := hl.le
     refine run_sq ?_
     refine run_pl [yy 0] ?_
     refine yV (kq 82 (.binOp .lss 3 (.tmp 81) (.tmp 80) 3)) (fun _ => val_lss rfl rfl) ?_
     refine Sch.nil ?_
     refine run_sq ?_
     refine run_i 82 rfl (fun h82 => ?_) (fun h82 => ?_)
     ·
      have hkl : k < l.length := by omega
      have hxo := hV.ok _ (List.getElem_mem hkl)
      unfold okE at hxo
      obtain ⟨j, hjb⟩ : ∃ j : Nat, (l[k]'hkl).b = j := ⟨(l[k]'hkl).b.toNat, by omega⟩
      have hjm : j < m := by omega
      refine run_sk ?_
      refine run_sq ?_
      refine run_bk 7 ?_
      refine run_sq ?_
      refine run_pl [yy 0, nn 1, nn 2, nn 3] ?_
      refine iS (e := 45) (kq 83 (.indexAddr 29 (.tmp 79) (.tmp 81))) rfl rfl hl rfl (by kernel_rfl) rfl (by omega) (by omega) ?_
      intro b83 o83 h83
      try simp only [Int.toNat_natCast] at h83
      refine lNA (kq 84 (.load 45 (.tmp 83))) rfl rfl trivial h83 (by kernel_rfl) (by kernel_rfl) rfl rfl ?_
      intro v84 g84
      obtain rfl := rv_edge.1 g84
      refine aS (kq 20 (.alloc 45)) rfl rfl (a_alloc (cs := [.int .i64 0, .int .i64 0, .int .i64 0]) hF 8 (by kernel_rfl)) ?_
      rintro _ w15 ⟨Cw15, bw15, rfl, hs, hx, hF⟩
      refine ⟨trivial, ?_⟩
      replace hT := hT.t hs; replace hsb := hsb.t hs; replace hst := hst.t hs; replace hhs := hhs.t hs; replace ha := ha.t hs; replace hb := hb.t hs; replace hbm := hbm.t hs; replace hB := hB.t hs; replace hob := hob.t hs; replace hl := hl.t hs; replace hc := hc.t hs; replace ho := ho.t hs; replace h83 := h83.t hs
      refine aN (k0 (.store 45 (.tmp 20) (.tmp 84))) rfl (a_storeAll (vs := encE (l[k]'hkl)) (n := 3) rfl rfl (by kernel_rfl) rfl rfl (by intro u hu; simp only [encE, List.mem_cons, List.not_mem_nil, or_false] at hu; rcases hu with rfl | rfl | rfl <;> rfl) hx rfl) ?_
      rintro _ w16 ⟨rfl, hs, hx⟩
      refine ⟨trivial, ?_⟩
      replace hF := hF.st hs
      replace hT := hT.t hs; replace hsb := hsb.t hs; replace hst := hst.t hs; replace hhs := hhs.t hs; replace ha := ha.t hs; replace hb := hb.t hs; replace hbm := hbm.t hs; replace hB := hB.t hs; replace hob := hob.t hs; replace hl := hl.t hs; replace hc := hc.t hs; replace ho := ho.t hs; replace h83 := h83.t hs
      refine Sch.nil ?_
      refine run_sq ?_
      by_cases hA : (l[k]'hkl).a = (i : Int)
      ·
       by_cases hW : 0 < (l[k]'hkl).w
       ·
        refine run_pl [yy 0, nn 1, yy 2, yy 3, yy 4, yy 5, nn 6, yy 7, yy 8, yy 9, nn 10, yy 11, yy 12, nn 13, nn 14, yy 15] ?_
        refine yF 85 45 20 0 0 ?_
        refine nS (kq 86 (.load 3 (.tmp 85))) rfl rfl trivial (val_loadOwn hx.at_ (by kernel_rfl) rfl rfl) ?_
        refine yM 87 18 ?_
        refine yV (kq 88 (.binOp .eql 3 (.tmp 86) (.tmp 87) 3)) (fun _ => val_T (val_eql rfl rfl) hA) ?_
        refine yM 89 88 ?_
        refine yFg 90 45 20 2 2 4 true ?_
        refine nS (kg 91 (.load 3 (.tmp 90)) 4 true) rfl rfl trivial (val_loadOwn hx.at_ (by kernel_rfl) rfl rfl) ?_
        refine yV (kg 92 (.binOp .gtr 3 (.tmp 91) (.const (.int .i64 0)) 3) 4 true) (fun _ => val_T (val_gtr rfl rfl) hW) ?_
        refine yAt 93 89 92 ?_
        refine yM 94 93 ?_
        refine nS (kg 95 (.load 56 (.tmp 14)) 9 true) rfl rfl trivial (val_loadOwn hc.at_ (by kernel_rfl) rfl rfl) ?_
        refine yMg 96 18 9 true ?_
        refine yFg 97 45 20 1 1 9 true ?_
        refine nS (kg 98 (.load 3 (.tmp 97)) 9 true) rfl rfl trivial (val_loadOwn hx.at_ (by kernel_rfl) rfl rfl) ?_
        rw [hjb]
        refine cS (kg 99 (.call { callee := .value (.func 28), args := #[(.tmp 95), (.tmp 96), (.tmp 98)], argTypes := #[56, 3, 3] }) 9 true) rfl rfl (ent Try.call28 rfl) (try_ok (i := i) (j := j) hF hV hH hsb hst hhs ha hb hbm hB hob hG hsl hhl hop hSI hin hjm) ?_
        rintro vw17 w17 ⟨bt, stl2, hou2, rfl, hs, hst, hhs, hyes, hno⟩
        refine ⟨trivial, ?_⟩
        replace hF := hF.st hs
        replace hT := hT.t hs; replace hsb := hsb.t hs; replace ha := ha.t hs; replace hb := hb.t hs; replace hbm := hbm.t hs; replace hB := hB.t hs; replace hob := hob.t hs; replace hl := hl.t hs; replace hc := hc.t hs; replace ho := ho.t hs; replace h83 := h83.t hs; replace hx := hx.t hs
        refine yAt 100 94 99 ?_
        refine Sch.nil ?_
        refine run_c 100 rfl (fun h100 => ?_) (fun h100 => ?_)
        ·
         obtain ⟨hy1, hy2, hy3, hy4⟩ := hyes h100
         have e1 : gI stl2 = setF (gI stl) i j := by rw [hy1]; exact gI_set (by omega)
         have e2 : gI hou2 = setF (gI hou) (gN al i) (gN bl j : Nat) := by rw [hy2]; exact gI_set (by have := hH.ga hin; omega)
         have hsl2 : stl2.length = n := by rw [hy1, List.length_set]; exact hsl
         have hhl2 : hou2.length = 64 := by rw [hy2, List.length_set]; exact hhl
         have hSI2 := SI.take hSI hV hTr hin hkl hjb hjm hHa hHb hy3 hA hy4
         rw [← e1, ← e2] at hSI2
         have hij : gI stl2 i = j := by rw [e1]; exact if_pos rfl
         have hsg2 : gI stl2 i = stl2[i]'(by omega) := getD_in _
         refine run_sq ?_
         refine run_pl [yy 0, yy 1, yy 2, nn 3, yy 4, nn 5, nn 6, yy 7] ?_
         refine yM 101 17 ?_
         refine yM 102 18 ?_
         refine yF 103 45 20 1 1 ?_
         refine nS (kq 104 (.load 3 (.tmp 103))) rfl rfl trivial (val_loadOwn hx.at_ (by kernel_rfl) rfl rfl) ?_
         rw [hjb]
         refine yV (kq 105 (.build 47 #[(0, (.tmp 102)), (1, (.tmp 104))])) (fun _ => val_build (zs := [.int .i64 0, .int .i64 0]) (ps := [(0, 1), (1, 1)]) (qs := [(0, [.int .i64 (i : Int)]), (1, [.int .i64 (j : Int)])]) (cs := [.int .i64 (i : Int), .int .i64 (j : Int)]) (by kernel_rfl) (by kernel_rfl) (by exact ⟨rfl, ⟨_, rfl, rfl⟩, rfl, ⟨_, rfl, rfl⟩, trivial⟩) rfl) ?_
         refine aS (kq 106 (.buildSlice 31 1 #[(0, (.tmp 105))])) rfl rfl (a_buildSlice (ys := ([⟨(i : Int), (j : Int)⟩] : List Couple)) (e := 47) (bytes := 16) hF (by kernel_rfl) rfl (by decide) (by decide) ⟨rfl, ⟨_, rfl, rv_couple.2 rfl⟩, trivial⟩) ?_
         rintro v106 w18 ⟨hs, g106, hF⟩
         refine ⟨trivial, ?_⟩
         replace hT := hT.t hs; replace hsb := hsb.t hs; replace hst := hst.t hs; replace hhs := hhs.t hs; replace ha := ha.t hs; replace hb := hb.t hs; replace hbm := hbm.t hs; replace hB := hB.t hs; replace hob := hob.t hs; replace hl := hl.t hs; replace hc := hc.t hs; replace ho := ho.t hs; replace h83 := h83.t hs; replace hx := hx.t hs
         refine aS (kq 107 (.call { callee := .builtin .append, args := #[(.tmp 101), (.tmp 106)], argTypes := #[31, 31] })) rfl rfl (a_append (e := 47) (bytes := 16) hF (by decide) rfl rfl (by kernel_rfl) (by decide) ho g106 (by simp only [List.length_cons, List.length_nil]; omega) (by simp only [List.length_cons, List.length_nil]; omega)) ?_
         rintro v107 w19 ⟨Cw19, hs, ho, hF⟩
         refine ⟨trivial, ?_⟩
         replace hT := hT.t hs; replace hsb := hsb.t hs; replace hst := hst.t hs; replace hhs := hhs.t hs; replace ha := ha.t hs; replace hb := hb.t hs; replace hbm := hbm.t hs; replace hB := hB.t hs; replace hob := hob.t hs; replace hl := hl.t hs; replace hc := hc.t hs; replace h83 := h83.t hs; replace hx := hx.t hs; replace g106 := g106.t hs
         refine yA 17 107 ?_
         refine Sch.nil ?_
         have hoo : outI (gI stl2) (i + 1) = outI (gI stl) i ++ [⟨i, j⟩] := by rw [outI_take (st := gI stl) (st' := gI stl2) (fun q hq => by rw [e1]; unfold setF; rw [if_neg (by omega)]) (by omega), hij]
         rw [← hoo] at ho
         refine run_ex 6 ?_
         refine run_sq ?_
         refine run_pl [nn 0, yy 1, yy 2, nn 3, yy 4, yy 5, nn 6, yy 7] ?_
         refine nS (kq 109 (.load 56 (.tmp 14))) rfl rfl trivial (val_loadOwn hc.at_ (by kernel_rfl) rfl rfl) ?_
         refine yN 110 109 ?_
         refine yF 111 63 110 4 4 ?_
         refine nS (kq 112 (.load 22 (.tmp 111))) rfl rfl trivial (val_loadOwn hsb.at_ (by kernel_rfl) rfl rfl) ?_
         refine yM 113 18 ?_
         refine oI (e' := 3) (kq 114 (.indexAddr 22 (.tmp 112) (.tmp 113))) rfl rfl hst rfl (by kernel_rfl) rfl (by omega) (by omega) ?_
         intro g114 hg114
         try simp only [Int.toNat_natCast]
         refine oN (kq 115 (.load 3 (.tmp 114))) rfl rfl trivial hst hg114 (by omega) (by kernel_rfl) rfl rfl ?_
         intro v115 g115
         try simp only [Int.toNat_natCast] at g115
         first | (obtain rfl := rv_nat.1 g115) | (obtain rfl := rv_int.1 g115)
         rw [← hsg2, hij]
         refine yV (kq 116 (.binOp .lss 3 (.tmp 115) (.const (.int .i64 0)) 3)) (fun _ => val_is (val_lss rfl rfl) (show _ = Value.bool false from congrArg Value.bool (decide_eq_false (by omega)))) ?_
         refine Sch.nil ?_
         refine run_cF 116 ?_
         refine run_sk ?_
         refine run_inBlock ?_
         refine run_pl [yy 0, yy 1] ?_
         refine yV (kq 120 (.binOp .add 3 (.tmp 76) (.const (.int .i64 1)) 3)) (fun _ => val_addi rfl rfl (by omega) (by omega)) ?_
         refine yM 76 120 ?_
         refine Sch.nil ?_
         refine kp (sub_cons 0 rfl rfl (sub_cons 4 rfl rfl (sub_cons 14 rfl rfl (sub_cons 17 rfl rfl (sub_cons 75 rfl rfl (sub_cons 76 rfl (eq_int (by simp)) (sub_nil _))))))) (next3 (i + 1, stl2, hou2, opl, v107, Cw19) _ ⟨(by first | omega | (simp only; omega)), hsl2, hhl2, (by first | omega | (simp only; omega)), hSI2, hF, hT, hsb, hst, hhs, ha, hb, hbm, hB, hob, hl, hc, ho⟩ (by first | omega | (simp only; omega)))
        ·
         obtain ⟨hn1', hn2', hn3'⟩ := hno h100
         rw [hn1'] at hst
         rw [hn2'] at hhs
         refine run_sk ?_
         refine run_inBlock ?_
         refine run_pl [yy 0, yy 1] ?_
         refine yV (kq 108 (.binOp .add 3 (.tmp 81) (.const (.int .i64 1)) 3)) (fun _ => val_addi rfl rfl (by omega) (by omega)) ?_
         refine yM 81 108 ?_
         refine Sch.nil ?_
         refine kp (sub_cons 0 rfl rfl (sub_cons 4 rfl rfl (sub_cons 14 rfl rfl (sub_cons 17 rfl rfl (sub_cons 18 rfl rfl (sub_cons 75 rfl rfl (sub_cons 76 rfl rfl (sub_cons 79 rfl rfl (sub_cons 80 rfl rfl (sub_cons 81 rfl (eq_int (by simp)) (sub_nil _))))))))))) (next4 (k + 1, Cw15) _ ⟨(by first | omega | (simp only; omega)), (hTr.skip hkl (fun f hf hff hlt e => hn3' f hf hff (by have := e.2.1; omega))), hF, hT, hsb, hst, hhs, ha, hb, hbm, hB, hob, hl, hc, ho⟩ (by first | omega | (simp only; omega)))
       ·
        refine run_pl [yy 0, nn 1, yy 2, yy 3, yy 4, yy 5, nn 6, yy 7, yy 8, yy 9, nn 10, yy 11, yy 12, nn 13, nn 14, yy 15] ?_
        refine yF 85 45 20 0 0 ?_
        refine nS (kq 86 (.load 3 (.tmp 85))) rfl rfl trivial (val_loadOwn hx.at_ (by kernel_rfl) rfl rfl) ?_
        refine yM 87 18 ?_
        refine yV (kq 88 (.binOp .eql 3 (.tmp 86) (.tmp 87) 3)) (fun _ => val_T (val_eql rfl rfl) hA) ?_
        refine yM 89 88 ?_
        refine yFg 90 45 20 2 2 4 true ?_
        refine nS (kg 91 (.load 3 (.tmp 90)) 4 true) rfl rfl trivial (val_loadOwn hx.at_ (by kernel_rfl) rfl rfl) ?_
        refine yV (kg 92 (.binOp .gtr 3 (.tmp 91) (.const (.int .i64 0)) 3) 4 true) (fun _ => val_F (val_gtr rfl rfl) hW) ?_
        refine yAt 93 89 92 ?_
        refine yM 94 93 ?_
        refine pW (kg 95 (.load 56 (.tmp 14)) 9 true) rfl rfl trivial ?_
        refine pX 96 9 true ?_
        refine pX 97 9 true ?_
        refine pW (kg 98 (.load 3 (.tmp 97)) 9 true) rfl rfl trivial ?_
        refine pW (kg 99 (.call { callee := .value (.func 28), args := #[(.tmp 95), (.tmp 96), (.tmp 98)], argTypes := #[56, 3, 3] }) 9 true) rfl rfl trivial ?_
        refine yAf 100 94 99 ?_
        refine Sch.nil ?_
        refine run_cF 100 ?_
        refine run_sk ?_
        refine run_inBlock ?_
        refine run_pl [yy 0, yy 1] ?_
        refine yV (kq 108 (.binOp .add 3 (.tmp 81) (.const (.int .i64 1)) 3)) (fun _ => val_addi rfl rfl (by omega) (by omega)) ?_
        refine yM 81 108 ?_
        refine Sch.nil ?_
        refine kp (sub_cons 0 rfl rfl (sub_cons 4 rfl rfl (sub_cons 14 rfl rfl (sub_cons 17 rfl rfl (sub_cons 18 rfl rfl (sub_cons 75 rfl rfl (sub_cons 76 rfl rfl (sub_cons 79 rfl rfl (sub_cons 80 rfl rfl (sub_cons 81 rfl (eq_int (by simp)) (sub_nil _))))))))))) (next4 (k + 1, Cw15) _ ⟨(by first | omega | (simp only; omega)), (hTr.skip hkl (fun f hf hff hlt e => by first | exact hA e.1 | exact hW e.2.2)), hF, hT, hsb, hst, hhs, ha, hb, hbm, hB, hob, hl, hc, ho⟩ (by first | omega | (simp only; omega)))
      ·
       refine run_pl [yy 0, nn 1, yy 2, yy 3, yy 4, yy 5, nn 6, yy 7, yy 8, yy 9, nn 10, yy 11, yy 12, nn 13, nn 14, yy 15] ?_
       refine yF 85 45 20 0 0 ?_
       refine nS (kq 86 (.load 3 (.tmp 85))) rfl rfl trivial (val_loadOwn hx.at_ (by kernel_rfl) rfl rfl) ?_
       refine yM 87 18 ?_
       refine yV (kq 88 (.binOp .eql 3 (.tmp 86) (.tmp 87) 3)) (fun _ => val_F (val_eql rfl rfl) hA) ?_
       refine yM 89 88 ?_
       refine pX 90 4 true ?_
       refine pW (kg 91 (.load 3 (.tmp 90)) 4 true) rfl rfl trivial ?_
       refine pX 92 4 true ?_
       refine yAf 93 89 92 ?_
       refine yM 94 93 ?_
       refine pW (kg 95 (.load 56 (.tmp 14)) 9 true) rfl rfl trivial ?_
       refine pX 96 9 true ?_
       refine pX 97 9 true ?_
       refine pW (kg 98 (.load 3 (.tmp 97)) 9 true) rfl rfl trivial ?_
       refine pW (kg 99 (.call { callee := .value (.func 28), args := #[(.tmp 95), (.tmp 96), (.tmp 98)], argTypes := #[56, 3, 3] }) 9 true) rfl rfl trivial ?_
       refine yAf 100 94 99 ?_
       refine Sch.nil ?_
       refine run_cF 100 ?_
       refine run_sk ?_
       refine run_inBlock ?_
       refine run_pl [yy 0, yy 1] ?_
       refine yV (kq 108 (.binOp .add 3 (.tmp 81) (.const (.int .i64 1)) 3)) (fun _ => val_addi rfl rfl (by omega) (by omega)) ?_
       refine yM 81 108 ?_
       refine Sch.nil ?_
       refine kp (sub_cons 0 rfl rfl (sub_cons 4 rfl rfl (sub_cons 14 rfl rfl (sub_cons 17 rfl rfl (sub_cons 18 rfl rfl (sub_cons 75 rfl rfl (sub_cons 76 rfl rfl (sub_cons 79 rfl rfl (sub_cons 80 rfl rfl (sub_cons 81 rfl (eq_int (by simp)) (sub_nil _))))))))))) (next4 (k + 1, Cw15) _ ⟨(by first | omega | (simp only; omega)), (hTr.skip hkl (fun f hf hff hlt e => by first | exact hA e.1 | exact hW e.2.2)), hF, hT, hsb, hst, hhs, ha, hb, hbm, hB, hob, hl, hc, ho⟩ (by first | omega | (simp only; omega)))
     ·
      have hkl : k = l.length := by omega
      subst hkl
      refine run_ex 6 ?_
      refine run_sq ?_
      refine run_pl [nn 0, yy 1, yy 2, nn 3, yy 4, yy 5, nn 6, yy 7] ?_
      refine nS (kq 109 (.load 56 (.tmp 14))) rfl rfl trivial (val_loadOwn hc.at_ (by kernel_rfl) rfl rfl) ?_
      refine yN 110 109 ?_
      refine yF 111 63 110 4 4 ?_
      refine nS (kq 112 (.load 22 (.tmp 111))) rfl rfl trivial (val_loadOwn hsb.at_ (by kernel_rfl) rfl rfl) ?_
      refine yM 113 18 ?_
      refine oI (e' := 3) (kq 114 (.indexAddr 22 (.tmp 112) (.tmp 113))) rfl rfl hst rfl (by kernel_rfl) rfl (by omega) (by omega) ?_
      intro g114 hg114
      try simp only [Int.toNat_natCast]
      refine oN (kq 115 (.load 3 (.tmp 114))) rfl rfl trivial hst hg114 (by omega) (by kernel_rfl) rfl rfl ?_
      intro v115 g115
      try simp only [Int.toNat_natCast] at g115
      first | (obtain rfl := rv_nat.1 g115) | (obtain rfl := rv_int.1 g115)
      rw [← hsgi, hu]
      refine yV (kq 116 (.binOp .lss 3 (.tmp 115) (.const (.int .i64 0)) 3)) (fun _ => val_is (val_lss rfl rfl) (show _ = Value.bool true from congrArg Value.bool (decide_eq_true (by decide)))) ?_
      refine Sch.nil ?_
      refine run_cT 116 ?_
      refine run_pl [nn 0, yy 1, nn 2] ?_
      refine nS (kq 117 (.load 56 (.tmp 14))) rfl rfl trivial (val_loadOwn hc.at_ (by kernel_rfl) rfl rfl) ?_
      refine yM 118 18 ?_
      refine cS (kq 119 (.call { callee := .value (.func 29), args := #[(.tmp 117), (.tmp 118)], argTypes := #[56, 3] })) rfl rfl (ent Try.call29 rfl) (leave_ok (i := i) hF hV hH hsb hst hhs ha hb hbm hB hob hG hsl hhl hop hSI.hh hin) ?_
      rintro vw20 w20 ⟨op1, rfl, hs, hst, hsb, hop1, hO1⟩
      refine ⟨trivial, ?_⟩
      replace hF := hF.st hs
      replace hT := hT.t hs; replace hhs := hhs.t hs; replace ha := ha.t hs; replace hb := hb.t hs; replace hbm := hbm.t hs; replace hB := hB.t hs; replace hob := hob.t hs; replace hl := hl.t hs; replace hc := hc.t hs; replace ho := ho.t hs
      refine Sch.nil ?_
      refine run_inBlock ?_
      refine run_pl [yy 0, yy 1] ?_
      refine yV (kq 120 (.binOp .add 3 (.tmp 76) (.const (.int .i64 1)) 3)) (fun _ => val_addi rfl rfl (by omega) (by omega)) ?_
      refine yM 76 120 ?_
      refine Sch.nil ?_
      have e1 : gI (stl.set i (-1)) = setF (gI stl) i (-1) := gI_set (by omega)
      have hSI2 := SI.leave (op' := opB op1) hSI hTr hin hHa (fun p hp hup q hq => hO1 p hp hup q hq)
      rw [← e1] at hSI2
      have hoo : outI (gI (stl.set i (-1))) (i + 1) = outI (gI stl) i := outI_pass (fun q hq => by rw [e1]; unfold setF; rw [if_neg (by omega)]) (by rw [e1]; unfold setF; rw [if_pos rfl]; decide)
      rw [← hoo] at ho
      refine kp (sub_cons 0 rfl rfl (sub_cons 4 rfl rfl (sub_cons 14 rfl rfl (sub_cons 17 rfl rfl (sub_cons 75 rfl rfl (sub_cons 76 rfl (eq_int (by simp)) (sub_nil _))))))) (next3 (i + 1, stl.set i (-1), hou, op1, vo, C4) _ ⟨(by first | omega | (simp only; omega)), (by simp only [List.length_set]; exact hsl), (by first | omega | (simp only; omega)), hop1, hSI2, hF, hT, hsb, hst, hhs, ha, hb, hbm, hB, hob, hl, hc, ho⟩ (by first | omega | (simp only; omega)))
    ·
     have hin : i = n := by omega
     rw [hin] at hSI ho hol
     obtain ⟨hout1, hout2⟩ := solH_fin hH hSI
     have hgt := hG.top
     rw [pos_tb] at hgt
     refine run_ex 4 ?_
     refine run_sq ?_
     refine run_draw (id := 30) (ops := F14.o30) [] (C3) [yy 0, yy 1, yy 2, yy 3, yy 4, yy 5, yy 6, yy 7, yy 8, yy 9, yy 10] Try_mixed (by kernel_rfl) (by kernel_rfl) (by kernel_rfl) ?_
     intro w21 hs
     replace hF := hF.st hs
     replace hT := hT.t hs; replace hsb := hsb.t hs; replace hst := hst.t hs; replace hhs := hhs.t hs; replace ha := ha.t hs; replace hb := hb.t hs; replace hbm := hbm.t hs; replace hB := hB.t hs; replace hob := hob.t hs; replace hl := hl.t hs; replace hc := hc.t hs; replace ho := ho.t hs
     refine yM 121 17 ?_
     refine yS (kq 122 (.load 56 (.tmp 14))) rfl rfl (fun w' hS => val_loadOwn (hc.sy hS) (by kernel_rfl) rfl rfl) ?_
     refine yN 123 122 ?_
     refine yF 124 63 123 3 3 ?_
     refine yS (kq 125 (.load 59 (.tmp 124))) rfl rfl (fun w' hS => val_loadOwn (hsb.sy hS) (by kernel_rfl) rfl rfl) ?_
     refine yN 126 125 ?_
     have h127 := RA.gT hob
     refine yF 127 70 126 4 4 ?_
     refine lS (kq 128 (.load 3 (.tmp 127))) rfl rfl (fun w' hS => h127.sy hS) h127 (by kernel_rfl) rfl rfl ?_
     intro v128 g128
     first | (obtain rfl := rv_nat.1 g128) | (obtain rfl := rv_int.1 g128)
     rw [hgt, ← hout2]
     refine yA 10 121 ?_
     refine yA 11 128 ?_
     refine yAc 12 (.int .i64 0) ?_
     refine Sch.nil ?_
     refine run_ret3 (by kernel_rfl) Try.func14 Try.results14 rfl rfl rfl ?_
     rw [hout1] at ho
     exact ⟨vo, rfl, hT.out1 (by decide), ho.out hT hF0 (Mc_col1 C) (fun b _ => col1_lt C (by decide) b) (by rw [← hout1]; have := outI_len (gI stl) n; omega)⟩
 intro join5004
 refine run_tree (id := 4) (ops := F14.o4) [] (col1 C) 11 (.fork3 [0, 1, 2, 3, 4, 6] 5 (.fork [] 7 (.fork [8] 9 (.run [nn 10, nn 11]) 10 (.run [nn 9, nn 11])) 10 (.run [nn 7, yy 8, nn 9, nn 11])) 7 (.fork [] 5 (.fork [8] 9 (.run [nn 10, nn 11]) 10 (.run [nn 9, nn 11])) 10 (.run [nn 5, yy 8, nn 9, nn 11])) 10 (.fork [] 5 (.run [nn 7, yy 8, nn 9, nn 11]) 7 (.run [nn 5, yy 8, nn 9, nn 11]))) Try_mixed (by kernel_rfl) (by kernel_rfl) (by kernel_rfl) ?_
 intro w22 hs
 replace hF := hF.st hs
 replace hT := hT.t hs; replace ha := ha.t hs; replace hb := hb.t hs; replace hl := hl.t hs
 have hR := Stp.refl [] w22 (col1 C)
 refine tr_fork3 ?_
 show SchQ _ _ _ _ _ [yy 0, yy 1, yy 2, yy 3, yy 4, yy 6] _ _
 refine yM 30 2 ?_
 refine yM 31 3 ?_
 refine yM 32 2 ?_
 refine yM 33 3 ?_
 refine yM 34 4 ?_
 refine yM 36 0 ?_
 refine tr_do3 ?_ ?_ ?_
 ·
  show SchQ _ _ _ _ _ [nn 5] _ _
  refine cS (kq 35 (.call { callee := .value (.func 23), args := #[(.tmp 32), (.tmp 33), (.tmp 34)], argTypes := #[22, 22, 29] })) rfl rfl (ent Try.call23 rfl) (blocks_ok hF hV hH ha hb hl) ?_
  rintro vw23 w23 ⟨bm, mm, rfl, hs, hbm, hB⟩
  refine ⟨(hR.trans hs (by simp)).ext, ?_⟩
  replace hF := hF.st hs
  replace hT := hT.t hs; replace ha := ha.t hs; replace hb := hb.t hs; replace hl := hl.t hs; replace hR := hR.t hs
  refine tr_next hR.ext ?_
  refine tr_fork ?_
  show SchQ _ _ _ _ _ [] _ _
  refine tr_do2 ?_ ?_
  ·
   show SchQ _ _ _ _ _ [nn 7] _ _
   refine aS (kq 37 (.makeSlice 22 (.tmp 36) (.tmp 36))) rfl rfl (a_make (e := 3) (bytes := 8) (x0 := (0 : Int)) (zs := [.int .i64 0]) hF (j := 4) (by decide) (by kernel_rfl) (by kernel_rfl) rfl rfl (by omega) (by omega) (by omega) (fun h M => zero_int)) ?_
   rintro v37 w24 ⟨Cw24, hs, hst, hF⟩
   refine ⟨(hR.trans hs (by simp)).ext, ?_⟩
   replace hT := hT.t hs; replace ha := ha.t hs; replace hb := hb.t hs; replace hl := hl.t hs; replace hR := hR.t hs; replace hbm := hbm.t hs; replace hB := hB.t hs
   try simp only [Int.toNat_natCast] at hst
   refine tr_next hR.ext ?_
   refine tr_fork ?_
   show SchQ _ _ _ _ _ [yy 8] _ _
   refine yV (kq 38 (.build 63 #[(0, (.tmp 30)), (1, (.tmp 31)), (2, (.tmp 35)), (4, (.tmp 37))])) (fun _ => val_build (zs := seC (.slice none 0 0) (.slice none 0 0) (.map none) (.pointer none) (.slice none 0 0) (.slice none 0 0) (List.replicate 4096 false)) (ps := [(0, 1), (1, 1), (2, 1), (3, 1), (4, 1), (5, 1), (6, 4096)]) (qs := [(0, [va]), (1, [vb]), (2, [.map (some bm)]), (4, [v37])]) (cs := (seC va vb (.map (some bm)) (.pointer none) v37 (.slice none 0 0) (List.replicate 4096 false))) (by kernel_rfl) (by kernel_rfl) (by exact ⟨rfl, ⟨_, rfl, (ha.one rfl).1⟩, rfl, ⟨_, rfl, (hb.one rfl).1⟩, rfl, ⟨_, rfl, rfl⟩, rfl, ⟨_, rfl, hst.one.1⟩, trivial⟩) rfl) ?_
   refine tr_do2 ?_ ?_
   ·
    show SchQ _ _ _ _ _ [nn 9] _ _
    refine aS (kq 39 (.box 63 (.tmp 38))) rfl rfl (a_box (cs := (seC va vb (.map (some bm)) (.pointer none) v37 (.slice none 0 0) (List.replicate 4096 false))) hF 3 rfl rfl) ?_
    rintro _ w25 ⟨Cw25, bw25, rfl, hs, hsb, hF⟩
    refine ⟨(hR.trans hs (by simp)).ext, ?_⟩
    replace hT := hT.t hs; replace ha := ha.t hs; replace hb := hb.t hs; replace hl := hl.t hs; replace hR := hR.t hs; replace hbm := hbm.t hs; replace hB := hB.t hs; replace hst := hst.t hs
    obtain ⟨sb, sbe⟩ : ∃ x, x = bw25 := ⟨_, rfl⟩
    rw [← sbe] at hsb
    rw [← sbe]
    clear sbe
    refine tr_next hR.ext ?_
    refine tr_run ?_
    show SchQ _ _ _ _ _ [nn 10, nn 11] _ _
    refine aS (kq 14 (.alloc 56)) rfl rfl (a_alloc (cs := [.pointer none]) hF 7 (by kernel_rfl)) ?_
    rintro _ w26 ⟨Cw26, bw26, rfl, hs, hc, hF⟩
    refine ⟨(hR.trans hs (by simp)).ext, ?_⟩
    replace hT := hT.t hs; replace ha := ha.t hs; replace hb := hb.t hs; replace hl := hl.t hs; replace hR := hR.t hs; replace hbm := hbm.t hs; replace hB := hB.t hs; replace hst := hst.t hs; replace hsb := hsb.t hs
    obtain ⟨cx, cxe⟩ : ∃ x, x = bw26 := ⟨_, rfl⟩
    rw [← cxe] at hc
    rw [← cxe]
    clear cxe
    refine Sch.free rfl ?_
    refine aN (k0 (.store 56 (.tmp 14) (.tmp 39))) rfl (a_storeAll (vs := [.pointer (some ⟨sb, 0, none⟩)]) (n := 1) rfl rfl (by kernel_rfl) rfl rfl (by intro u hu2; rw [List.mem_singleton.1 hu2]; rfl) hc rfl) ?_
    rintro _ w27 ⟨rfl, hs, hc⟩
    refine ⟨trivial, ?_⟩
    replace hF := hF.st hs
    replace hT := hT.t hs; replace ha := ha.t hs; replace hb := hb.t hs; replace hl := hl.t hs; replace hbm := hbm.t hs; replace hB := hB.t hs; replace hst := hst.t hs; replace hsb := hsb.t hs
    refine Sch.nil ?_
    refine kp (sub_cons 0 rfl rfl (sub_cons 4 rfl rfl (sub_cons 14 rfl rfl (sub_nil _)))) (join5004 (bm, mm, sb, cx, v37, (List.replicate 4096 false), Cw26) _ ⟨List.length_replicate, hF, hT, hsb, hst, ha, hb, hl, hbm, hB, hc⟩)
   ·
    show SchQ _ _ _ _ _ [nn 10] _ _
    refine aS (kq 14 (.alloc 56)) rfl rfl (a_alloc (cs := [.pointer none]) hF 7 (by kernel_rfl)) ?_
    rintro _ w28 ⟨Cw28, bw28, rfl, hs, hc, hF⟩
    refine ⟨(hR.trans hs (by simp)).ext, ?_⟩
    replace hT := hT.t hs; replace ha := ha.t hs; replace hb := hb.t hs; replace hl := hl.t hs; replace hR := hR.t hs; replace hbm := hbm.t hs; replace hB := hB.t hs; replace hst := hst.t hs
    obtain ⟨cx, cxe⟩ : ∃ x, x = bw28 := ⟨_, rfl⟩
    rw [← cxe] at hc
    rw [← cxe]
    clear cxe
    refine tr_next hR.ext ?_
    refine tr_run ?_
    show SchQ _ _ _ _ _ [nn 9, nn 11] _ _
    refine aS (kq 39 (.box 63 (.tmp 38))) rfl rfl (a_box (cs := (seC va vb (.map (some bm)) (.pointer none) v37 (.slice none 0 0) (List.replicate 4096 false))) hF 3 rfl rfl) ?_
    rintro _ w29 ⟨Cw29, bw29, rfl, hs, hsb, hF⟩
    refine ⟨(hR.trans hs (by simp)).ext, ?_⟩
    replace hT := hT.t hs; replace ha := ha.t hs; replace hb := hb.t hs; replace hl := hl.t hs; replace hR := hR.t hs; replace hbm := hbm.t hs; replace hB := hB.t hs; replace hst := hst.t hs; replace hc := hc.t hs
    obtain ⟨sb, sbe⟩ : ∃ x, x = bw29 := ⟨_, rfl⟩
    rw [← sbe] at hsb
    rw [← sbe]
    clear sbe
    refine Sch.free rfl ?_
    refine aN (k0 (.store 56 (.tmp 14) (.tmp 39))) rfl (a_storeAll (vs := [.pointer (some ⟨sb, 0, none⟩)]) (n := 1) rfl rfl (by kernel_rfl) rfl rfl (by intro u hu2; rw [List.mem_singleton.1 hu2]; rfl) hc rfl) ?_
    rintro _ w30 ⟨rfl, hs, hc⟩
    refine ⟨trivial, ?_⟩
    replace hF := hF.st hs
    replace hT := hT.t hs; replace ha := ha.t hs; replace hb := hb.t hs; replace hl := hl.t hs; replace hbm := hbm.t hs; replace hB := hB.t hs; replace hst := hst.t hs; replace hsb := hsb.t hs
    refine Sch.nil ?_
    refine kp (sub_cons 0 rfl rfl (sub_cons 4 rfl rfl (sub_cons 14 rfl rfl (sub_nil _)))) (join5004 (bm, mm, sb, cx, v37, (List.replicate 4096 false), Cw29) _ ⟨List.length_replicate, hF, hT, hsb, hst, ha, hb, hl, hbm, hB, hc⟩)
  ·
   show SchQ _ _ _ _ _ [nn 10] _ _
   refine aS (kq 14 (.alloc 56)) rfl rfl (a_alloc (cs := [.pointer none]) hF 7 (by kernel_rfl)) ?_
   rintro _ w31 ⟨Cw31, bw31, rfl, hs, hc, hF⟩
   refine ⟨(hR.trans hs (by simp)).ext, ?_⟩
   replace hT := hT.t hs; replace ha := ha.t hs; replace hb := hb.t hs; replace hl := hl.t hs; replace hR := hR.t hs; replace hbm := hbm.t hs; replace hB := hB.t hs
   obtain ⟨cx, cxe⟩ : ∃ x, x = bw31 := ⟨_, rfl⟩
   rw [← cxe] at hc
   rw [← cxe]
   clear cxe
   refine tr_next hR.ext ?_
   refine tr_run ?_
   show SchQ _ _ _ _ _ [nn 7, yy 8, nn 9, nn 11] _ _
   refine aS (kq 37 (.makeSlice 22 (.tmp 36) (.tmp 36))) rfl rfl (a_make (e := 3) (bytes := 8) (x0 := (0 : Int)) (zs := [.int .i64 0]) hF (j := 4) (by decide) (by kernel_rfl) (by kernel_rfl) rfl rfl (by omega) (by omega) (by omega) (fun h M => zero_int)) ?_
   rintro v37 w32 ⟨Cw32, hs, hst, hF⟩
   refine ⟨(hR.trans hs (by simp)).ext, ?_⟩
   replace hT := hT.t hs; replace ha := ha.t hs; replace hb := hb.t hs; replace hl := hl.t hs; replace hR := hR.t hs; replace hbm := hbm.t hs; replace hB := hB.t hs; replace hc := hc.t hs
   try simp only [Int.toNat_natCast] at hst
   refine yV (kq 38 (.build 63 #[(0, (.tmp 30)), (1, (.tmp 31)), (2, (.tmp 35)), (4, (.tmp 37))])) (fun _ => val_build (zs := seC (.slice none 0 0) (.slice none 0 0) (.map none) (.pointer none) (.slice none 0 0) (.slice none 0 0) (List.replicate 4096 false)) (ps := [(0, 1), (1, 1), (2, 1), (3, 1), (4, 1), (5, 1), (6, 4096)]) (qs := [(0, [va]), (1, [vb]), (2, [.map (some bm)]), (4, [v37])]) (cs := (seC va vb (.map (some bm)) (.pointer none) v37 (.slice none 0 0) (List.replicate 4096 false))) (by kernel_rfl) (by kernel_rfl) (by exact ⟨rfl, ⟨_, rfl, (ha.one rfl).1⟩, rfl, ⟨_, rfl, (hb.one rfl).1⟩, rfl, ⟨_, rfl, rfl⟩, rfl, ⟨_, rfl, hst.one.1⟩, trivial⟩) rfl) ?_
   refine aS (kq 39 (.box 63 (.tmp 38))) rfl rfl (a_box (cs := (seC va vb (.map (some bm)) (.pointer none) v37 (.slice none 0 0) (List.replicate 4096 false))) hF 3 rfl rfl) ?_
   rintro _ w33 ⟨Cw33, bw33, rfl, hs, hsb, hF⟩
   refine ⟨(hR.trans hs (by simp)).ext, ?_⟩
   replace hT := hT.t hs; replace ha := ha.t hs; replace hb := hb.t hs; replace hl := hl.t hs; replace hR := hR.t hs; replace hbm := hbm.t hs; replace hB := hB.t hs; replace hc := hc.t hs; replace hst := hst.t hs
   obtain ⟨sb, sbe⟩ : ∃ x, x = bw33 := ⟨_, rfl⟩
   rw [← sbe] at hsb
   rw [← sbe]
   clear sbe
   refine Sch.free rfl ?_
   refine aN (k0 (.store 56 (.tmp 14) (.tmp 39))) rfl (a_storeAll (vs := [.pointer (some ⟨sb, 0, none⟩)]) (n := 1) rfl rfl (by kernel_rfl) rfl rfl (by intro u hu2; rw [List.mem_singleton.1 hu2]; rfl) hc rfl) ?_
   rintro _ w34 ⟨rfl, hs, hc⟩
   refine ⟨trivial, ?_⟩
   replace hF := hF.st hs
   replace hT := hT.t hs; replace ha := ha.t hs; replace hb := hb.t hs; replace hl := hl.t hs; replace hbm := hbm.t hs; replace hB := hB.t hs; replace hst := hst.t hs; replace hsb := hsb.t hs
   refine Sch.nil ?_
   refine kp (sub_cons 0 rfl rfl (sub_cons 4 rfl rfl (sub_cons 14 rfl rfl (sub_nil _)))) (join5004 (bm, mm, sb, cx, v37, (List.replicate 4096 false), Cw33) _ ⟨List.length_replicate, hF, hT, hsb, hst, ha, hb, hl, hbm, hB, hc⟩)
 ·
  show SchQ _ _ _ _ _ [nn 7] _ _
  refine aS (kq 37 (.makeSlice 22 (.tmp 36) (.tmp 36))) rfl rfl (a_make (e := 3) (bytes := 8) (x0 := (0 : Int)) (zs := [.int .i64 0]) hF (j := 4) (by decide) (by kernel_rfl) (by kernel_rfl) rfl rfl (by omega) (by omega) (by omega) (fun h M => zero_int)) ?_
  rintro v37 w35 ⟨Cw35, hs, hst, hF⟩
  refine ⟨(hR.trans hs (by simp)).ext, ?_⟩
  replace hT := hT.t hs; replace ha := ha.t hs; replace hb := hb.t hs; replace hl := hl.t hs; replace hR := hR.t hs
  try simp only [Int.toNat_natCast] at hst
  refine tr_next hR.ext ?_
  refine tr_fork ?_
  show SchQ _ _ _ _ _ [] _ _
  refine tr_do2 ?_ ?_
  ·
   show SchQ _ _ _ _ _ [nn 5] _ _
   refine cS (kq 35 (.call { callee := .value (.func 23), args := #[(.tmp 32), (.tmp 33), (.tmp 34)], argTypes := #[22, 22, 29] })) rfl rfl (ent Try.call23 rfl) (blocks_ok hF hV hH ha hb hl) ?_
   rintro vw36 w36 ⟨bm, mm, rfl, hs, hbm, hB⟩
   refine ⟨(hR.trans hs (by simp)).ext, ?_⟩
   replace hF := hF.st hs
   replace hT := hT.t hs; replace ha := ha.t hs; replace hb := hb.t hs; replace hl := hl.t hs; replace hR := hR.t hs; replace hst := hst.t hs
   refine tr_next hR.ext ?_
   refine tr_fork ?_
   show SchQ _ _ _ _ _ [yy 8] _ _
   refine yV (kq 38 (.build 63 #[(0, (.tmp 30)), (1, (.tmp 31)), (2, (.tmp 35)), (4, (.tmp 37))])) (fun _ => val_build (zs := seC (.slice none 0 0) (.slice none 0 0) (.map none) (.pointer none) (.slice none 0 0) (.slice none 0 0) (List.replicate 4096 false)) (ps := [(0, 1), (1, 1), (2, 1), (3, 1), (4, 1), (5, 1), (6, 4096)]) (qs := [(0, [va]), (1, [vb]), (2, [.map (some bm)]), (4, [v37])]) (cs := (seC va vb (.map (some bm)) (.pointer none) v37 (.slice none 0 0) (List.replicate 4096 false))) (by kernel_rfl) (by kernel_rfl) (by exact ⟨rfl, ⟨_, rfl, (ha.one rfl).1⟩, rfl, ⟨_, rfl, (hb.one rfl).1⟩, rfl, ⟨_, rfl, rfl⟩, rfl, ⟨_, rfl, hst.one.1⟩, trivial⟩) rfl) ?_
   refine tr_do2 ?_ ?_
   ·
    show SchQ _ _ _ _ _ [nn 9] _ _
    refine aS (kq 39 (.box 63 (.tmp 38))) rfl rfl (a_box (cs := (seC va vb (.map (some bm)) (.pointer none) v37 (.slice none 0 0) (List.replicate 4096 false))) hF 3 rfl rfl) ?_
    rintro _ w37 ⟨Cw37, bw37, rfl, hs, hsb, hF⟩
    refine ⟨(hR.trans hs (by simp)).ext, ?_⟩
    replace hT := hT.t hs; replace ha := ha.t hs; replace hb := hb.t hs; replace hl := hl.t hs; replace hR := hR.t hs; replace hst := hst.t hs; replace hbm := hbm.t hs; replace hB := hB.t hs
    obtain ⟨sb, sbe⟩ : ∃ x, x = bw37 := ⟨_, rfl⟩
    rw [← sbe] at hsb
    rw [← sbe]
    clear sbe
    refine tr_next hR.ext ?_
    refine tr_run ?_
    show SchQ _ _ _ _ _ [nn 10, nn 11] _ _
    refine aS (kq 14 (.alloc 56)) rfl rfl (a_alloc (cs := [.pointer none]) hF 7 (by kernel_rfl)) ?_
    rintro _ w38 ⟨Cw38, bw38, rfl, hs, hc, hF⟩
    refine ⟨(hR.trans hs (by simp)).ext, ?_⟩
    replace hT := hT.t hs; replace ha := ha.t hs; replace hb := hb.t hs; replace hl := hl.t hs; replace hR := hR.t hs; replace hst := hst.t hs; replace hbm := hbm.t hs; replace hB := hB.t hs; replace hsb := hsb.t hs
    obtain ⟨cx, cxe⟩ : ∃ x, x = bw38 := ⟨_, rfl⟩
    rw [← cxe] at hc
    rw [← cxe]
    clear cxe
    refine Sch.free rfl ?_
    refine aN (k0 (.store 56 (.tmp 14) (.tmp 39))) rfl (a_storeAll (vs := [.pointer (some ⟨sb, 0, none⟩)]) (n := 1) rfl rfl (by kernel_rfl) rfl rfl (by intro u hu2; rw [List.mem_singleton.1 hu2]; rfl) hc rfl) ?_
    rintro _ w39 ⟨rfl, hs, hc⟩
    refine ⟨trivial, ?_⟩
    replace hF := hF.st hs
    replace hT := hT.t hs; replace ha := ha.t hs; replace hb := hb.t hs; replace hl := hl.t hs; replace hst := hst.t hs; replace hbm := hbm.t hs; replace hB := hB.t hs; replace hsb := hsb.t hs
    refine Sch.nil ?_
    refine kp (sub_cons 0 rfl rfl (sub_cons 4 rfl rfl (sub_cons 14 rfl rfl (sub_nil _)))) (join5004 (bm, mm, sb, cx, v37, (List.replicate 4096 false), Cw38) _ ⟨List.length_replicate, hF, hT, hsb, hst, ha, hb, hl, hbm, hB, hc⟩)
   ·
    show SchQ _ _ _ _ _ [nn 10] _ _
    refine aS (kq 14 (.alloc 56)) rfl rfl (a_alloc (cs := [.pointer none]) hF 7 (by kernel_rfl)) ?_
    rintro _ w40 ⟨Cw40, bw40, rfl, hs, hc, hF⟩
    refine ⟨(hR.trans hs (by simp)).ext, ?_⟩
    replace hT := hT.t hs; replace ha := ha.t hs; replace hb := hb.t hs; replace hl := hl.t hs; replace hR := hR.t hs; replace hst := hst.t hs; replace hbm := hbm.t hs; replace hB := hB.t hs
    obtain ⟨cx, cxe⟩ : ∃ x, x = bw40 := ⟨_, rfl⟩
    rw [← cxe] at hc
    rw [← cxe]
    clear cxe
    refine tr_next hR.ext ?_
    refine tr_run ?_
    show SchQ _ _ _ _ _ [nn 9, nn 11] _ _
    refine aS (kq 39 (.box 63 (.tmp 38))) rfl rfl (a_box (cs := (seC va vb (.map (some bm)) (.pointer none) v37 (.slice none 0 0) (List.replicate 4096 false))) hF 3 rfl rfl) ?_
    rintro _ w41 ⟨Cw41, bw41, rfl, hs, hsb, hF⟩
    refine ⟨(hR.trans hs (by simp)).ext, ?_⟩
    replace hT := hT.t hs; replace ha := ha.t hs; replace hb := hb.t hs; replace hl := hl.t hs; replace hR := hR.t hs; replace hst := hst.t hs; replace hbm := hbm.t hs; replace hB := hB.t hs; replace hc := hc.t hs
    obtain ⟨sb, sbe⟩ : ∃ x, x = bw41 := ⟨_, rfl⟩
    rw [← sbe] at hsb
    rw [← sbe]
    clear sbe
    refine Sch.free rfl ?_
    refine aN (k0 (.store 56 (.tmp 14) (.tmp 39))) rfl (a_storeAll (vs := [.pointer (some ⟨sb, 0, none⟩)]) (n := 1) rfl rfl (by kernel_rfl) rfl rfl (by intro u hu2; rw [List.mem_singleton.1 hu2]; rfl) hc rfl) ?_
    rintro _ w42 ⟨rfl, hs, hc⟩
    refine ⟨trivial, ?_⟩
    replace hF := hF.st hs
    replace hT := hT.t hs; replace ha := ha.t hs; replace hb := hb.t hs; replace hl := hl.t hs; replace hst := hst.t hs; replace hbm := hbm.t hs; replace hB := hB.t hs; replace hsb := hsb.t hs
    refine Sch.nil ?_
    refine kp (sub_cons 0 rfl rfl (sub_cons 4 rfl rfl (sub_cons 14 rfl rfl (sub_nil _)))) (join5004 (bm, mm, sb, cx, v37, (List.replicate 4096 false), Cw41) _ ⟨List.length_replicate, hF, hT, hsb, hst, ha, hb, hl, hbm, hB, hc⟩)
  ·
   show SchQ _ _ _ _ _ [nn 10] _ _
   refine aS (kq 14 (.alloc 56)) rfl rfl (a_alloc (cs := [.pointer none]) hF 7 (by kernel_rfl)) ?_
   rintro _ w43 ⟨Cw43, bw43, rfl, hs, hc, hF⟩
   refine ⟨(hR.trans hs (by simp)).ext, ?_⟩
   replace hT := hT.t hs; replace ha := ha.t hs; replace hb := hb.t hs; replace hl := hl.t hs; replace hR := hR.t hs; replace hst := hst.t hs
   obtain ⟨cx, cxe⟩ : ∃ x, x = bw43 := ⟨_, rfl⟩
   rw [← cxe] at hc
   rw [← cxe]
   clear cxe
   refine tr_next hR.ext ?_
   refine tr_run ?_
   show SchQ _ _ _ _ _ [nn 5, yy 8, nn 9, nn 11] _ _
   refine cS (kq 35 (.call { callee := .value (.func 23), args := #[(.tmp 32), (.tmp 33), (.tmp 34)], argTypes := #[22, 22, 29] })) rfl rfl (ent Try.call23 rfl) (blocks_ok hF hV hH ha hb hl) ?_
   rintro vw44 w44 ⟨bm, mm, rfl, hs, hbm, hB⟩
   refine ⟨(hR.trans hs (by simp)).ext, ?_⟩
   replace hF := hF.st hs
   replace hT := hT.t hs; replace ha := ha.t hs; replace hb := hb.t hs; replace hl := hl.t hs; replace hR := hR.t hs; replace hst := hst.t hs; replace hc := hc.t hs
   refine yV (kq 38 (.build 63 #[(0, (.tmp 30)), (1, (.tmp 31)), (2, (.tmp 35)), (4, (.tmp 37))])) (fun _ => val_build (zs := seC (.slice none 0 0) (.slice none 0 0) (.map none) (.pointer none) (.slice none 0 0) (.slice none 0 0) (List.replicate 4096 false)) (ps := [(0, 1), (1, 1), (2, 1), (3, 1), (4, 1), (5, 1), (6, 4096)]) (qs := [(0, [va]), (1, [vb]), (2, [.map (some bm)]), (4, [v37])]) (cs := (seC va vb (.map (some bm)) (.pointer none) v37 (.slice none 0 0) (List.replicate 4096 false))) (by kernel_rfl) (by kernel_rfl) (by exact ⟨rfl, ⟨_, rfl, (ha.one rfl).1⟩, rfl, ⟨_, rfl, (hb.one rfl).1⟩, rfl, ⟨_, rfl, rfl⟩, rfl, ⟨_, rfl, hst.one.1⟩, trivial⟩) rfl) ?_
   refine aS (kq 39 (.box 63 (.tmp 38))) rfl rfl (a_box (cs := (seC va vb (.map (some bm)) (.pointer none) v37 (.slice none 0 0) (List.replicate 4096 false))) hF 3 rfl rfl) ?_
   rintro _ w45 ⟨Cw45, bw45, rfl, hs, hsb, hF⟩
   refine ⟨(hR.trans hs (by simp)).ext, ?_⟩
   replace hT := hT.t hs; replace ha := ha.t hs; replace hb := hb.t hs; replace hl := hl.t hs; replace hR := hR.t hs; replace hst := hst.t hs; replace hc := hc.t hs; replace hbm := hbm.t hs; replace hB := hB.t hs
   obtain ⟨sb, sbe⟩ : ∃ x, x = bw45 := ⟨_, rfl⟩
   rw [← sbe] at hsb
   rw [← sbe]
   clear sbe
   refine Sch.free rfl ?_
   refine aN (k0 (.store 56 (.tmp 14) (.tmp 39))) rfl (a_storeAll (vs := [.pointer (some ⟨sb, 0, none⟩)]) (n := 1) rfl rfl (by kernel_rfl) rfl rfl (by intro u hu2; rw [List.mem_singleton.1 hu2]; rfl) hc rfl) ?_
   rintro _ w46 ⟨rfl, hs, hc⟩
   refine ⟨trivial, ?_⟩
   replace hF := hF.st hs
   replace hT := hT.t hs; replace ha := ha.t hs; replace hb := hb.t hs; replace hl := hl.t hs; replace hst := hst.t hs; replace hbm := hbm.t hs; replace hB := hB.t hs; replace hsb := hsb.t hs
   refine Sch.nil ?_
   refine kp (sub_cons 0 rfl rfl (sub_cons 4 rfl rfl (sub_cons 14 rfl rfl (sub_nil _)))) (join5004 (bm, mm, sb, cx, v37, (List.replicate 4096 false), Cw45) _ ⟨List.length_replicate, hF, hT, hsb, hst, ha, hb, hl, hbm, hB, hc⟩)
 ·
  show SchQ _ _ _ _ _ [nn 10] _ _
  refine aS (kq 14 (.alloc 56)) rfl rfl (a_alloc (cs := [.pointer none]) hF 7 (by kernel_rfl)) ?_
  rintro _ w47 ⟨Cw47, bw47, rfl, hs, hc, hF⟩
  refine ⟨(hR.trans hs (by simp)).ext, ?_⟩
  replace hT := hT.t hs; replace ha := ha.t hs; replace hb := hb.t hs; replace hl := hl.t hs; replace hR := hR.t hs
  obtain ⟨cx, cxe⟩ : ∃ x, x = bw47 := ⟨_, rfl⟩
  rw [← cxe] at hc
  rw [← cxe]
  clear cxe
  refine tr_next hR.ext ?_
  refine tr_fork ?_
  show SchQ _ _ _ _ _ [] _ _
  refine tr_do2 ?_ ?_
  ·
   show SchQ _ _ _ _ _ [nn 5] _ _
   refine cS (kq 35 (.call { callee := .value (.func 23), args := #[(.tmp 32), (.tmp 33), (.tmp 34)], argTypes := #[22, 22, 29] })) rfl rfl (ent Try.call23 rfl) (blocks_ok hF hV hH ha hb hl) ?_
   rintro vw48 w48 ⟨bm, mm, rfl, hs, hbm, hB⟩
   refine ⟨(hR.trans hs (by simp)).ext, ?_⟩
   replace hF := hF.st hs
   replace hT := hT.t hs; replace ha := ha.t hs; replace hb := hb.t hs; replace hl := hl.t hs; replace hR := hR.t hs; replace hc := hc.t hs
   refine tr_next hR.ext ?_
   refine tr_run ?_
   show SchQ _ _ _ _ _ [nn 7, yy 8, nn 9, nn 11] _ _
   refine aS (kq 37 (.makeSlice 22 (.tmp 36) (.tmp 36))) rfl rfl (a_make (e := 3) (bytes := 8) (x0 := (0 : Int)) (zs := [.int .i64 0]) hF (j := 4) (by decide) (by kernel_rfl) (by kernel_rfl) rfl rfl (by omega) (by omega) (by omega) (fun h M => zero_int)) ?_
   rintro v37 w49 ⟨Cw49, hs, hst, hF⟩
   refine ⟨(hR.trans hs (by simp)).ext, ?_⟩
   replace hT := hT.t hs; replace ha := ha.t hs; replace hb := hb.t hs; replace hl := hl.t hs; replace hR := hR.t hs; replace hc := hc.t hs; replace hbm := hbm.t hs; replace hB := hB.t hs
   try simp only [Int.toNat_natCast] at hst
   refine yV (kq 38 (.build 63 #[(0, (.tmp 30)), (1, (.tmp 31)), (2, (.tmp 35)), (4, (.tmp 37))])) (fun _ => val_build (zs := seC (.slice none 0 0) (.slice none 0 0) (.map none) (.pointer none) (.slice none 0 0) (.slice none 0 0) (List.replicate 4096 false)) (ps := [(0, 1), (1, 1), (2, 1), (3, 1), (4, 1), (5, 1), (6, 4096)]) (qs := [(0, [va]), (1, [vb]), (2, [.map (some bm)]), (4, [v37])]) (cs := (seC va vb (.map (some bm)) (.pointer none) v37 (.slice none 0 0) (List.replicate 4096 false))) (by kernel_rfl) (by kernel_rfl) (by exact ⟨rfl, ⟨_, rfl, (ha.one rfl).1⟩, rfl, ⟨_, rfl, (hb.one rfl).1⟩, rfl, ⟨_, rfl, rfl⟩, rfl, ⟨_, rfl, hst.one.1⟩, trivial⟩) rfl) ?_
   refine aS (kq 39 (.box 63 (.tmp 38))) rfl rfl (a_box (cs := (seC va vb (.map (some bm)) (.pointer none) v37 (.slice none 0 0) (List.replicate 4096 false))) hF 3 rfl rfl) ?_
   rintro _ w50 ⟨Cw50, bw50, rfl, hs, hsb, hF⟩
   refine ⟨(hR.trans hs (by simp)).ext, ?_⟩
   replace hT := hT.t hs; replace ha := ha.t hs; replace hb := hb.t hs; replace hl := hl.t hs; replace hR := hR.t hs; replace hc := hc.t hs; replace hbm := hbm.t hs; replace hB := hB.t hs; replace hst := hst.t hs
   obtain ⟨sb, sbe⟩ : ∃ x, x = bw50 := ⟨_, rfl⟩
   rw [← sbe] at hsb
   rw [← sbe]
   clear sbe
   refine Sch.free rfl ?_
   refine aN (k0 (.store 56 (.tmp 14) (.tmp 39))) rfl (a_storeAll (vs := [.pointer (some ⟨sb, 0, none⟩)]) (n := 1) rfl rfl (by kernel_rfl) rfl rfl (by intro u hu2; rw [List.mem_singleton.1 hu2]; rfl) hc rfl) ?_
   rintro _ w51 ⟨rfl, hs, hc⟩
   refine ⟨trivial, ?_⟩
   replace hF := hF.st hs
   replace hT := hT.t hs; replace ha := ha.t hs; replace hb := hb.t hs; replace hl := hl.t hs; replace hbm := hbm.t hs; replace hB := hB.t hs; replace hst := hst.t hs; replace hsb := hsb.t hs
   refine Sch.nil ?_
   refine kp (sub_cons 0 rfl rfl (sub_cons 4 rfl rfl (sub_cons 14 rfl rfl (sub_nil _)))) (join5004 (bm, mm, sb, cx, v37, (List.replicate 4096 false), Cw50) _ ⟨List.length_replicate, hF, hT, hsb, hst, ha, hb, hl, hbm, hB, hc⟩)
  ·
   show SchQ _ _ _ _ _ [nn 7] _ _
   refine aS (kq 37 (.makeSlice 22 (.tmp 36) (.tmp 36))) rfl rfl (a_make (e := 3) (bytes := 8) (x0 := (0 : Int)) (zs := [.int .i64 0]) hF (j := 4) (by decide) (by kernel_rfl) (by kernel_rfl) rfl rfl (by omega) (by omega) (by omega) (fun h M => zero_int)) ?_
   rintro v37 w52 ⟨Cw52, hs, hst, hF⟩
   refine ⟨(hR.trans hs (by simp)).ext, ?_⟩
   replace hT := hT.t hs; replace ha := ha.t hs; replace hb := hb.t hs; replace hl := hl.t hs; replace hR := hR.t hs; replace hc := hc.t hs
   try simp only [Int.toNat_natCast] at hst
   refine tr_next hR.ext ?_
   refine tr_run ?_
   show SchQ _ _ _ _ _ [nn 5, yy 8, nn 9, nn 11] _ _
   refine cS (kq 35 (.call { callee := .value (.func 23), args := #[(.tmp 32), (.tmp 33), (.tmp 34)], argTypes := #[22, 22, 29] })) rfl rfl (ent Try.call23 rfl) (blocks_ok hF hV hH ha hb hl) ?_
   rintro vw53 w53 ⟨bm, mm, rfl, hs, hbm, hB⟩
   refine ⟨(hR.trans hs (by simp)).ext, ?_⟩
   replace hF := hF.st hs
   replace hT := hT.t hs; replace ha := ha.t hs; replace hb := hb.t hs; replace hl := hl.t hs; replace hR := hR.t hs; replace hc := hc.t hs; replace hst := hst.t hs
   refine yV (kq 38 (.build 63 #[(0, (.tmp 30)), (1, (.tmp 31)), (2, (.tmp 35)), (4, (.tmp 37))])) (fun _ => val_build (zs := seC (.slice none 0 0) (.slice none 0 0) (.map none) (.pointer none) (.slice none 0 0) (.slice none 0 0) (List.replicate 4096 false)) (ps := [(0, 1), (1, 1), (2, 1), (3, 1), (4, 1), (5, 1), (6, 4096)]) (qs := [(0, [va]), (1, [vb]), (2, [.map (some bm)]), (4, [v37])]) (cs := (seC va vb (.map (some bm)) (.pointer none) v37 (.slice none 0 0) (List.replicate 4096 false))) (by kernel_rfl) (by kernel_rfl) (by exact ⟨rfl, ⟨_, rfl, (ha.one rfl).1⟩, rfl, ⟨_, rfl, (hb.one rfl).1⟩, rfl, ⟨_, rfl, rfl⟩, rfl, ⟨_, rfl, hst.one.1⟩, trivial⟩) rfl) ?_
   refine aS (kq 39 (.box 63 (.tmp 38))) rfl rfl (a_box (cs := (seC va vb (.map (some bm)) (.pointer none) v37 (.slice none 0 0) (List.replicate 4096 false))) hF 3 rfl rfl) ?_
   rintro _ w54 ⟨Cw54, bw54, rfl, hs, hsb, hF⟩
   refine ⟨(hR.trans hs (by simp)).ext, ?_⟩
   replace hT := hT.t hs; replace ha := ha.t hs; replace hb := hb.t hs; replace hl := hl.t hs; replace hR := hR.t hs; replace hc := hc.t hs; replace hst := hst.t hs; replace hbm := hbm.t hs; replace hB := hB.t hs
   obtain ⟨sb, sbe⟩ : ∃ x, x = bw54 := ⟨_, rfl⟩
   rw [← sbe] at hsb
   rw [← sbe]
   clear sbe
   refine Sch.free rfl ?_
   refine aN (k0 (.store 56 (.tmp 14) (.tmp 39))) rfl (a_storeAll (vs := [.pointer (some ⟨sb, 0, none⟩)]) (n := 1) rfl rfl (by kernel_rfl) rfl rfl (by intro u hu2; rw [List.mem_singleton.1 hu2]; rfl) hc rfl) ?_
   rintro _ w55 ⟨rfl, hs, hc⟩
   refine ⟨trivial, ?_⟩
   replace hF := hF.st hs
   replace hT := hT.t hs; replace ha := ha.t hs; replace hb := hb.t hs; replace hl := hl.t hs; replace hst := hst.t hs; replace hbm := hbm.t hs; replace hB := hB.t hs; replace hsb := hsb.t hs
   refine Sch.nil ?_
   refine kp (sub_cons 0 rfl rfl (sub_cons 4 rfl rfl (sub_cons 14 rfl rfl (sub_nil _)))) (join5004 (bm, mm, sb, cx, v37, (List.replicate 4096 false), Cw54) _ ⟨List.length_replicate, hF, hT, hsb, hst, ha, hb, hl, hbm, hB, hc⟩)
end Go.Proofs.Ytognfmeffnjijaa
