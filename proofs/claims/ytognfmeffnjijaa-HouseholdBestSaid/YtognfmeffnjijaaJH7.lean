/- Steps through functions of the program. -/
import Derived.Test.YtognfmeffnjijaaJH5
import Derived.Test.YtognfmeffnjijaaJTA
set_option linter.unusedVariables false
set_option linter.unusedSimpArgs false
set_option maxRecDepth 100000
set_option maxHeartbeats 4000000
namespace Go.Proofs.Ytognfmeffnjijaa
open Go.K Go.K.Rep

namespace F28
noncomputable def c0 := bodyOf Try.f28
noncomputable def o1 := rops (cl (cr c0))
noncomputable def c8 := (cl (cl (cr (cr (cr c0)))))
noncomputable def c9 := (cr (cl (cr (cr (cr c0)))))
noncomputable def c15 := (cl (cr (cr (cr (cr c0)))))
noncomputable def o5 := rops c15
noncomputable def c16 := (cr (cr (cr (cr (cr c0)))))
noncomputable def o6 := rops (cl (cl c16))
noncomputable def o8 := rops (cl (cr c16))
end F28
/-- 'try'. -/
theorem try_ok {w₀ : World} {C : Nat → Nat} {n m sb bm ob : Nat} {l : List K.Edge} {al bl : List Nat} {va vb vst vhs : Value} {mm : List (Couple × Option Nat)} {ogr : Gr} {U V : Nat → Int} {stl hou : List Int} {opl : List Bool} {i j : Nat} (hF : Lim w₀ C) (hV : VE n m l) (hH : HH n m al bl) (hsb : OwnB w₀ C 3 sb (.cells (seC va vb (.map (some bm)) (.pointer (some ⟨ob, 0, none⟩)) vst vhs opl).toArray 63)) (hst : OwnL w₀ C 4 3 vst stl) (hhs : OwnL w₀ C 5 3 vhs hou) (ha : RV w₀ (Mc C) al va) (hb : RV w₀ (Mc C) bl vb) (hbm : RM w₀ (Mc C) kvC vvP mm (.map (some bm))) (hB : BlkM w₀ C n m (pos (edW l)) (gN al) (gN bl) mm) (hob : RA w₀ (Mc C) ogr ob 0) (hG : GrIs 64 64 (Tb n m (pos (edW l)) (gN al) (gN bl)) U V ogr) (hsl : stl.length = n) (hhl : hou.length = 64) (hop : opl.length = 4096) (hSI : SI 64 n m (pos (edW l)) (gN al) (gN bl) (gI stl) (gI hou) (opB opl) i) (hi : i < n) (hj : j < m) :
    Calls Try.prog 28 #[.pointer (some ⟨sb, 0, none⟩), .int .i64 i, .int .i64 j] w₀ (Ret fun v w' => ∃ (b : Bool) (stl' hou' : List Int), v = .bool b ∧ Stp [4, 5] w₀ C w' C ∧ OwnL w' C 4 3 vst stl' ∧ OwnL w' C 5 3 vhs hou' ∧
      (b = true → stl' = stl.set i (j : Int) ∧ hou' = hou.set (gN al i) (gN bl j : Int) ∧ (gI hou (gN al i) = -2 ∨ gI hou (gN al i) = (gN bl j : Nat)) ∧ ∃ f, OpC 64 n m (pos (edW l)) (gN al) (gN bl) f ∧ Fits n m (setF (gI stl) i j) f) ∧
      (b = false → stl' = stl ∧ hou' = hou ∧ ∀ f, OpC 64 n m (pos (edW l)) (gN al) (gN bl) f → Fits n m (gI stl) f → f i ≠ j)) := by
 have hF0 := hF
 have hsb0 := hsb
 have hst0 := hst
 have hhs0 := hhs
 have hn1 := hV.n1
 have hm1 := hV.m1
 have hla := hH.la
 have hlb := hH.lb
 have hT := Stp.refl [4, 5, 7] w₀ (colE C)
 replace hF := hF.colE
 replace hsb := hsb.colE (by decide)
 replace hst := hst.colE (by decide)
 replace hhs := hhs.colE (by decide)
 replace ha : RV w₀ (Mc (colE C)) al va := by rw [Mc_colE]; exact ha
 replace hb : RV w₀ (Mc (colE C)) bl vb := by rw [Mc_colE]; exact hb
 replace hbm : RM w₀ (Mc (colE C)) kvC vvP mm (.map (some bm)) := by rw [Mc_colE]; exact hbm
 replace hob : RA w₀ (Mc (colE C)) ogr ob 0 := by rw [Mc_colE]; exact hob
 replace hB := hB.mc (Mc_colE C)
 refine calls_start (c := F28.c0) (N := 99) [.pointer (some ⟨sb, 0, none⟩), .int .i64 i, .int .i64 j] Try.func28 (by kernel_rfl) (by kernel_rfl) (by kernel_rfl) ?_
 show Run _ _ _ _ [(0, .pointer (some ⟨sb, 0, none⟩)), (1, .int .i64 i), (2, .int .i64 j)] _ _
 refine run_sq ?_
 refine run_pl [nn 0, yy 1] ?_
 refine aS (kq 3 (.box 56 (.tmp 0))) rfl rfl (a_box (cs := [.pointer (some ⟨sb, 0, none⟩)]) hF 7 rfl rfl) ?_
 rintro _ w1 ⟨Cw1, bw1, rfl, hs, hc3, hF⟩
 refine ⟨trivial, ?_⟩
 replace hsb := hsb.t hs; replace hst := hst.t hs; replace hhs := hhs.t hs; replace ha := ha.t hs; replace hb := hb.t hs; replace hbm := hbm.t hs; replace hB := hB.t hs; replace hob := hob.t hs; replace hT := hT.t hs
 obtain ⟨cx, hcxe⟩ : ∃ x, x = bw1 := ⟨_, rfl⟩
 rw [← hcxe] at hc3
 rw [← hcxe]
 clear hcxe
 refine yAc 6 (.bool false) ?_
 refine Sch.nil ?_
 have hga : gN al i = al[i]'(by omega) := getD_in _
 have hgb : gN bl j = bl[j]'(by omega) := getD_in _
 have hp64 : gN al i < 64 := hH.ga hi
 have hq64 : gN bl j < 64 := hH.gb hj
 have hu := hSI.gi.und i (Nat.le_refl _) hi
 have hsgi : gI stl i = stl[i]'(by omega) := getD_in _
 have hhg : gI hou (gN al i) = hou[gN al i]'(by omega) := getD_in _
 refine run_sq ?_
 refine run_draw (id := 1) (ops := F28.o1) [] (Cw1) [yy 0, yy 1, yy 2, yy 3, yy 4, yy 5, yy 6, yy 7, yy 8, yy 9, yy 10, yy 11, yy 12, yy 13, yy 14, yy 15] Try_mixed (by kernel_rfl) (by kernel_rfl) (by kernel_rfl) ?_
 intro w2 hs
 replace hsb := hsb.t hs; replace hst := hst.t hs; replace hhs := hhs.t hs; replace ha := ha.t hs; replace hb := hb.t hs; replace hbm := hbm.t hs; replace hB := hB.t hs; replace hob := hob.t hs
 replace hF := hF.st hs
 replace hT := hT.t hs; replace hc3 := hc3.t hs
 refine yS (kq 10 (.load 56 (.tmp 3))) rfl rfl (fun w' hS => val_loadOwn (hc3.sy hS) (by kernel_rfl) rfl rfl) ?_
 refine yN 11 10 ?_
 refine yF 12 63 11 0 0 ?_
 refine yS (kq 13 (.load 22 (.tmp 12))) rfl rfl (fun w' hS => val_loadOwn (hsb.sy hS) (by kernel_rfl) rfl rfl) ?_
 refine yM 14 1 ?_
 refine iS (e := 3) (kq 15 (.indexAddr 22 (.tmp 13) (.tmp 14))) rfl rfl ha rfl (by kernel_rfl) rfl (by omega) (by omega) ?_
 intro b15 o15 h15
 try simp only [Int.toNat_natCast] at h15
 refine lS (kq 16 (.load 3 (.tmp 15))) rfl rfl (fun w' hS => h15.sy hS) h15 (by kernel_rfl) rfl rfl ?_
 intro v16 g16
 first | (obtain rfl := rv_nat.1 g16) | (obtain rfl := rv_int.1 g16)
 rw [← hga]
 refine yS (kq 17 (.load 56 (.tmp 3))) rfl rfl (fun w' hS => val_loadOwn (hc3.sy hS) (by kernel_rfl) rfl rfl) ?_
 refine yN 18 17 ?_
 refine yF 19 63 18 1 1 ?_
 refine yS (kq 20 (.load 22 (.tmp 19))) rfl rfl (fun w' hS => val_loadOwn (hsb.sy hS) (by kernel_rfl) rfl rfl) ?_
 refine yM 21 2 ?_
 refine iS (e := 3) (kq 22 (.indexAddr 22 (.tmp 20) (.tmp 21))) rfl rfl hb rfl (by kernel_rfl) rfl (by omega) (by omega) ?_
 intro b22 o22 h22
 try simp only [Int.toNat_natCast] at h22
 refine lS (kq 23 (.load 3 (.tmp 22))) rfl rfl (fun w' hS => h22.sy hS) h22 (by kernel_rfl) rfl rfl ?_
 intro v23 g23
 first | (obtain rfl := rv_nat.1 g23) | (obtain rfl := rv_int.1 g23)
 rw [← hgb]
 refine yA 7 16 ?_
 refine yA 8 23 ?_
 refine Sch.nil ?_
 refine run_sq ?_
 refine run_pl [nn 0, yy 1, yy 2, nn 3, yy 4, yy 5, nn 6, yy 7] ?_
 refine nS (kq 24 (.load 56 (.tmp 3))) rfl rfl trivial (val_loadOwn hc3.at_ (by kernel_rfl) rfl rfl) ?_
 refine yN 25 24 ?_
 refine yF 26 63 25 5 5 ?_
 refine nS (kq 27 (.load 22 (.tmp 26))) rfl rfl trivial (val_loadOwn hsb.at_ (by kernel_rfl) rfl rfl) ?_
 refine yM 28 7 ?_
 refine oI (e' := 3) (kq 29 (.indexAddr 22 (.tmp 27) (.tmp 28))) rfl rfl hhs rfl (by kernel_rfl) rfl (by omega) (by omega) ?_
 intro g29 hg29
 try simp only [Int.toNat_natCast]
 refine oN (kq 30 (.load 3 (.tmp 29))) rfl rfl trivial hhs hg29 (by omega) (by kernel_rfl) rfl rfl ?_
 intro v30 g30
 try simp only [Int.toNat_natCast] at g30
 first | (obtain rfl := rv_nat.1 g30) | (obtain rfl := rv_int.1 g30)
 rw [← hhg]
 refine yA 9 30 ?_
 refine Sch.nil ?_
 refine run_sq ?_
 refine run_sq ?_
 refine run_cut 55 (decide (TryBad al bl (Tb n m (pos (edW l)) (gN al) (gN bl)) U V stl hou i j)) (Cw1) ?_ ?_
 ·
  intro hcut
  by_cases hA : 0 ≤ gI hou (gN al i)
  ·
   by_cases hD : gI hou (gN al i) ≠ ((gN bl j) : Nat)
   ·
    refine run_pl [yy 0, yy 1, yy 2, yy 3, yy 4, yy 5, yy 6, yy 7, nn 8, yy 9, yy 10, nn 11, yy 12, nn 13, yy 14, yy 15, nn 16, yy 17, yy 18, nn 19, yy 20, yy 21, nn 22, yy 23, yy 24] ?_
    have hcs := Stp.reflF hF
    refine yM 31 9 ?_
    refine yV (kq 32 (.binOp .geq 3 (.tmp 31) (.const (.int .i64 0)) 3)) (fun _ => val_T (val_geq rfl rfl) hA) ?_
    refine yM 33 32 ?_
    refine yMg 34 9 2 true ?_
    refine yMg 35 8 2 true ?_
    refine yV (kg 36 (.binOp .neq 3 (.tmp 34) (.tmp 35) 3) 2 true) (fun _ => val_T (val_neq rfl rfl) hD) ?_
    refine yAt 37 33 36 ?_
    refine yM 38 37 ?_
    refine pW (kg 39 (.load 56 (.tmp 3)) 7 false) rfl rfl trivial ?_
    refine pX 40 7 false ?_
    refine pX 41 7 false ?_
    refine pW (kg 42 (.load 22 (.tmp 41)) 7 false) rfl rfl trivial ?_
    refine pX 43 7 false ?_
    refine pW (kg 44 (.call { callee := .value (.func 42), args := #[(.tmp 42), (.tmp 43)], argTypes := #[22, 3] }) 7 false) rfl rfl trivial ?_
    refine yOt 45 38 44 ?_
    refine yM 46 45 ?_
    refine pW (kg 47 (.load 56 (.tmp 3)) 15 false) rfl rfl trivial ?_
    refine pX 48 15 false ?_
    refine pX 49 15 false ?_
    refine pW (kg 50 (.load 59 (.tmp 49)) 15 false) rfl rfl trivial ?_
    refine pX 51 15 false ?_
    refine pX 52 15 false ?_
    refine pW (kg 53 (.call { callee := .value (.func 33), args := #[(.tmp 50), (.tmp 51), (.tmp 52)], argTypes := #[59, 3, 3] }) 15 false) rfl rfl trivial ?_
    refine pX 54 15 false ?_
    refine yOt 55 46 54 ?_
    exact Sch.nil (hcut _ _ _ hcs rfl (by rw [decide_eq_true (show TryBad al bl (Tb n m (pos (edW l)) (gN al) (gN bl)) U V stl hou i j from .inl ⟨hA, hD⟩)]) (sk 25))
   ·
    by_cases hJ : (j : Int) ∈ stl
    ·
     refine run_pl [yy 0, yy 1, yy 2, yy 3, yy 4, yy 5, yy 6, yy 7, nn 8, yy 9, yy 10, nn 11, yy 12, nn 13, yy 14, yy 15, nn 16, yy 17, yy 18, nn 19, yy 20, yy 21, nn 22, yy 23, yy 24] ?_
     have hcs := Stp.reflF hF
     refine yM 31 9 ?_
     refine yV (kq 32 (.binOp .geq 3 (.tmp 31) (.const (.int .i64 0)) 3)) (fun _ => val_T (val_geq rfl rfl) hA) ?_
     refine yM 33 32 ?_
     refine yMg 34 9 2 true ?_
     refine yMg 35 8 2 true ?_
     refine yV (kg 36 (.binOp .neq 3 (.tmp 34) (.tmp 35) 3) 2 true) (fun _ => val_F (val_neq rfl rfl) hD) ?_
     refine yAt 37 33 36 ?_
     refine yM 38 37 ?_
     refine nS (kg 39 (.load 56 (.tmp 3)) 7 false) rfl rfl trivial (val_loadOwn hc3.at_ (by kernel_rfl) rfl rfl) ?_
     refine yV (kg 40 (.nilCheck (.tmp 39)) 7 false) (fun _ => val_nilCheck rfl) ?_
     refine yFg 41 63 40 4 4 7 false ?_
     refine nS (kg 42 (.load 22 (.tmp 41)) 7 false) rfl rfl trivial (val_loadOwn hsb.at_ (by kernel_rfl) rfl rfl) ?_
     refine yMg 43 2 7 false ?_
     refine cS (kg 44 (.call { callee := .value (.func 42), args := #[(.tmp 42), (.tmp 43)], argTypes := #[22, 3] }) 7 false) rfl rfl (ent Try.call42 rfl) (containsI_ok (hst.frz (n := 4) (by decide) (by omega))) ?_
     rintro vw3 w3 ⟨rfl, rfl⟩
     rw [decide_eq_true hJ]
     refine ⟨trivial, ?_⟩
     refine yOf 45 38 44 ?_
     refine yM 46 45 ?_
     refine pW (kg 47 (.load 56 (.tmp 3)) 15 false) rfl rfl trivial ?_
     refine pX 48 15 false ?_
     refine pX 49 15 false ?_
     refine pW (kg 50 (.load 59 (.tmp 49)) 15 false) rfl rfl trivial ?_
     refine pX 51 15 false ?_
     refine pX 52 15 false ?_
     refine pW (kg 53 (.call { callee := .value (.func 33), args := #[(.tmp 50), (.tmp 51), (.tmp 52)], argTypes := #[59, 3, 3] }) 15 false) rfl rfl trivial ?_
     refine pX 54 15 false ?_
     refine yOt 55 46 54 ?_
     exact Sch.nil (hcut _ _ _ hcs rfl (by rw [decide_eq_true (show TryBad al bl (Tb n m (pos (edW l)) (gN al) (gN bl)) U V stl hou i j from .inr (.inl hJ))]) (sk 25))
    ·
     by_cases hC : edgeB (Tb n m (pos (edW l)) (gN al) (gN bl)) U V (gN al i) (gN bl j) = true
     ·
      refine run_pl [yy 0, yy 1, yy 2, yy 3, yy 4, yy 5, yy 6, yy 7, nn 8, yy 9, yy 10, nn 11, yy 12, nn 13, yy 14, yy 15, nn 16, yy 17, yy 18, nn 19, yy 20, yy 21, nn 22, yy 23, yy 24] ?_
      have hcs := Stp.reflF hF
      refine yM 31 9 ?_
      refine yV (kq 32 (.binOp .geq 3 (.tmp 31) (.const (.int .i64 0)) 3)) (fun _ => val_T (val_geq rfl rfl) hA) ?_
      refine yM 33 32 ?_
      refine yMg 34 9 2 true ?_
      refine yMg 35 8 2 true ?_
      refine yV (kg 36 (.binOp .neq 3 (.tmp 34) (.tmp 35) 3) 2 true) (fun _ => val_F (val_neq rfl rfl) hD) ?_
      refine yAt 37 33 36 ?_
      refine yM 38 37 ?_
      refine nS (kg 39 (.load 56 (.tmp 3)) 7 false) rfl rfl trivial (val_loadOwn hc3.at_ (by kernel_rfl) rfl rfl) ?_
      refine yV (kg 40 (.nilCheck (.tmp 39)) 7 false) (fun _ => val_nilCheck rfl) ?_
      refine yFg 41 63 40 4 4 7 false ?_
      refine nS (kg 42 (.load 22 (.tmp 41)) 7 false) rfl rfl trivial (val_loadOwn hsb.at_ (by kernel_rfl) rfl rfl) ?_
      refine yMg 43 2 7 false ?_
      refine cS (kg 44 (.call { callee := .value (.func 42), args := #[(.tmp 42), (.tmp 43)], argTypes := #[22, 3] }) 7 false) rfl rfl (ent Try.call42 rfl) (containsI_ok (hst.frz (n := 4) (by decide) (by omega))) ?_
      rintro vw4 w4 ⟨rfl, rfl⟩
      rw [decide_eq_false hJ]
      refine ⟨trivial, ?_⟩
      refine yOf 45 38 44 ?_
      refine yM 46 45 ?_
      refine nS (kg 47 (.load 56 (.tmp 3)) 15 false) rfl rfl trivial (val_loadOwn hc3.at_ (by kernel_rfl) rfl rfl) ?_
      refine yV (kg 48 (.nilCheck (.tmp 47)) 15 false) (fun _ => val_nilCheck rfl) ?_
      refine yFg 49 63 48 3 3 15 false ?_
      refine nS (kg 50 (.load 59 (.tmp 49)) 15 false) rfl rfl trivial (val_loadOwn hsb.at_ (by kernel_rfl) rfl rfl) ?_
      refine yMg 51 7 15 false ?_
      refine yMg 52 8 15 false ?_
      refine cS (kg 53 (.call { callee := .value (.func 33), args := #[(.tmp 50), (.tmp 51), (.tmp 52)], argTypes := #[59, 3, 3] }) 15 false) rfl rfl (ent Try.call33 rfl) (edge_ok hob hG hp64 hq64) ?_
      rintro vw5 w5 ⟨rfl, rfl⟩
      rw [hC]
      refine ⟨trivial, ?_⟩
      refine yV (kg 54 (.unOp .not 4 (.tmp 53)) 15 false) (fun _ => val_not rfl) ?_
      refine yOf 55 46 54 ?_
      exact Sch.nil (hcut _ _ _ hcs rfl (by rw [decide_eq_false (show ¬ TryBad al bl (Tb n m (pos (edW l)) (gN al) (gN bl)) U V stl hou i j from fun e => e.elim (fun e => hD e.2) (fun e => e.elim hJ (fun e => by rw [hC] at e; cases e)))]; rfl) (sk 25))
     ·
      refine run_pl [yy 0, yy 1, yy 2, yy 3, yy 4, yy 5, yy 6, yy 7, nn 8, yy 9, yy 10, nn 11, yy 12, nn 13, yy 14, yy 15, nn 16, yy 17, yy 18, nn 19, yy 20, yy 21, nn 22, yy 23, yy 24] ?_
      have hcs := Stp.reflF hF
      refine yM 31 9 ?_
      refine yV (kq 32 (.binOp .geq 3 (.tmp 31) (.const (.int .i64 0)) 3)) (fun _ => val_T (val_geq rfl rfl) hA) ?_
      refine yM 33 32 ?_
      refine yMg 34 9 2 true ?_
      refine yMg 35 8 2 true ?_
      refine yV (kg 36 (.binOp .neq 3 (.tmp 34) (.tmp 35) 3) 2 true) (fun _ => val_F (val_neq rfl rfl) hD) ?_
      refine yAt 37 33 36 ?_
      refine yM 38 37 ?_
      refine nS (kg 39 (.load 56 (.tmp 3)) 7 false) rfl rfl trivial (val_loadOwn hc3.at_ (by kernel_rfl) rfl rfl) ?_
      refine yV (kg 40 (.nilCheck (.tmp 39)) 7 false) (fun _ => val_nilCheck rfl) ?_
      refine yFg 41 63 40 4 4 7 false ?_
      refine nS (kg 42 (.load 22 (.tmp 41)) 7 false) rfl rfl trivial (val_loadOwn hsb.at_ (by kernel_rfl) rfl rfl) ?_
      refine yMg 43 2 7 false ?_
      refine cS (kg 44 (.call { callee := .value (.func 42), args := #[(.tmp 42), (.tmp 43)], argTypes := #[22, 3] }) 7 false) rfl rfl (ent Try.call42 rfl) (containsI_ok (hst.frz (n := 4) (by decide) (by omega))) ?_
      rintro vw6 w6 ⟨rfl, rfl⟩
      rw [decide_eq_false hJ]
      refine ⟨trivial, ?_⟩
      refine yOf 45 38 44 ?_
      refine yM 46 45 ?_
      refine nS (kg 47 (.load 56 (.tmp 3)) 15 false) rfl rfl trivial (val_loadOwn hc3.at_ (by kernel_rfl) rfl rfl) ?_
      refine yV (kg 48 (.nilCheck (.tmp 47)) 15 false) (fun _ => val_nilCheck rfl) ?_
      refine yFg 49 63 48 3 3 15 false ?_
      refine nS (kg 50 (.load 59 (.tmp 49)) 15 false) rfl rfl trivial (val_loadOwn hsb.at_ (by kernel_rfl) rfl rfl) ?_
      refine yMg 51 7 15 false ?_
      refine yMg 52 8 15 false ?_
      refine cS (kg 53 (.call { callee := .value (.func 33), args := #[(.tmp 50), (.tmp 51), (.tmp 52)], argTypes := #[59, 3, 3] }) 15 false) rfl rfl (ent Try.call33 rfl) (edge_ok hob hG hp64 hq64) ?_
      rintro vw7 w7 ⟨rfl, rfl⟩
      rw [Bool.eq_false_iff.2 hC]
      refine ⟨trivial, ?_⟩
      refine yV (kg 54 (.unOp .not 4 (.tmp 53)) 15 false) (fun _ => val_not rfl) ?_
      refine yOf 55 46 54 ?_
      exact Sch.nil (hcut _ _ _ hcs rfl (by rw [decide_eq_true (show TryBad al bl (Tb n m (pos (edW l)) (gN al) (gN bl)) U V stl hou i j from .inr (.inr (Bool.eq_false_iff.2 hC)))]; rfl) (sk 25))
  ·
   by_cases hJ : (j : Int) ∈ stl
   ·
    refine run_pl [yy 0, yy 1, yy 2, yy 3, yy 4, yy 5, yy 6, yy 7, nn 8, yy 9, yy 10, nn 11, yy 12, nn 13, yy 14, yy 15, nn 16, yy 17, yy 18, nn 19, yy 20, yy 21, nn 22, yy 23, yy 24] ?_
    have hcs := Stp.reflF hF
    refine yM 31 9 ?_
    refine yV (kq 32 (.binOp .geq 3 (.tmp 31) (.const (.int .i64 0)) 3)) (fun _ => val_F (val_geq rfl rfl) hA) ?_
    refine yM 33 32 ?_
    refine pX 34 2 true ?_
    refine pX 35 2 true ?_
    refine pX 36 2 true ?_
    refine yAf 37 33 36 ?_
    refine yM 38 37 ?_
    refine nS (kg 39 (.load 56 (.tmp 3)) 7 false) rfl rfl trivial (val_loadOwn hc3.at_ (by kernel_rfl) rfl rfl) ?_
    refine yV (kg 40 (.nilCheck (.tmp 39)) 7 false) (fun _ => val_nilCheck rfl) ?_
    refine yFg 41 63 40 4 4 7 false ?_
    refine nS (kg 42 (.load 22 (.tmp 41)) 7 false) rfl rfl trivial (val_loadOwn hsb.at_ (by kernel_rfl) rfl rfl) ?_
    refine yMg 43 2 7 false ?_
    refine cS (kg 44 (.call { callee := .value (.func 42), args := #[(.tmp 42), (.tmp 43)], argTypes := #[22, 3] }) 7 false) rfl rfl (ent Try.call42 rfl) (containsI_ok (hst.frz (n := 4) (by decide) (by omega))) ?_
    rintro vw8 w8 ⟨rfl, rfl⟩
    rw [decide_eq_true hJ]
    refine ⟨trivial, ?_⟩
    refine yOf 45 38 44 ?_
    refine yM 46 45 ?_
    refine pW (kg 47 (.load 56 (.tmp 3)) 15 false) rfl rfl trivial ?_
    refine pX 48 15 false ?_
    refine pX 49 15 false ?_
    refine pW (kg 50 (.load 59 (.tmp 49)) 15 false) rfl rfl trivial ?_
    refine pX 51 15 false ?_
    refine pX 52 15 false ?_
    refine pW (kg 53 (.call { callee := .value (.func 33), args := #[(.tmp 50), (.tmp 51), (.tmp 52)], argTypes := #[59, 3, 3] }) 15 false) rfl rfl trivial ?_
    refine pX 54 15 false ?_
    refine yOt 55 46 54 ?_
    exact Sch.nil (hcut _ _ _ hcs rfl (by rw [decide_eq_true (show TryBad al bl (Tb n m (pos (edW l)) (gN al) (gN bl)) U V stl hou i j from .inr (.inl hJ))]) (sk 25))
   ·
    by_cases hC : edgeB (Tb n m (pos (edW l)) (gN al) (gN bl)) U V (gN al i) (gN bl j) = true
    ·
     refine run_pl [yy 0, yy 1, yy 2, yy 3, yy 4, yy 5, yy 6, yy 7, nn 8, yy 9, yy 10, nn 11, yy 12, nn 13, yy 14, yy 15, nn 16, yy 17, yy 18, nn 19, yy 20, yy 21, nn 22, yy 23, yy 24] ?_
     have hcs := Stp.reflF hF
     refine yM 31 9 ?_
     refine yV (kq 32 (.binOp .geq 3 (.tmp 31) (.const (.int .i64 0)) 3)) (fun _ => val_F (val_geq rfl rfl) hA) ?_
     refine yM 33 32 ?_
     refine pX 34 2 true ?_
     refine pX 35 2 true ?_
     refine pX 36 2 true ?_
     refine yAf 37 33 36 ?_
     refine yM 38 37 ?_
     refine nS (kg 39 (.load 56 (.tmp 3)) 7 false) rfl rfl trivial (val_loadOwn hc3.at_ (by kernel_rfl) rfl rfl) ?_
     refine yV (kg 40 (.nilCheck (.tmp 39)) 7 false) (fun _ => val_nilCheck rfl) ?_
     refine yFg 41 63 40 4 4 7 false ?_
     refine nS (kg 42 (.load 22 (.tmp 41)) 7 false) rfl rfl trivial (val_loadOwn hsb.at_ (by kernel_rfl) rfl rfl) ?_
     refine yMg 43 2 7 false ?_
     refine cS (kg 44 (.call { callee := .value (.func 42), args := #[(.tmp 42), (.tmp 43)], argTypes := #[22, 3] }) 7 false) rfl rfl (ent Try.call42 rfl) (containsI_ok (hst.frz (n := 4) (by decide) (by omega))) ?_
     rintro vw9 w9 ⟨rfl, rfl⟩
     rw [decide_eq_false hJ]
     refine ⟨trivial, ?_⟩
     refine yOf 45 38 44 ?_
     refine yM 46 45 ?_
     refine nS (kg 47 (.load 56 (.tmp 3)) 15 false) rfl rfl trivial (val_loadOwn hc3.at_ (by kernel_rfl) rfl rfl) ?_
     refine yV (kg 48 (.nilCheck (.tmp 47)) 15 false) (fun _ => val_nilCheck rfl) ?_
     refine yFg 49 63 48 3 3 15 false ?_
     refine nS (kg 50 (.load 59 (.tmp 49)) 15 false) rfl rfl trivial (val_loadOwn hsb.at_ (by kernel_rfl) rfl rfl) ?_
     refine yMg 51 7 15 false ?_
     refine yMg 52 8 15 false ?_
     refine cS (kg 53 (.call { callee := .value (.func 33), args := #[(.tmp 50), (.tmp 51), (.tmp 52)], argTypes := #[59, 3, 3] }) 15 false) rfl rfl (ent Try.call33 rfl) (edge_ok hob hG hp64 hq64) ?_
     rintro vw10 w10 ⟨rfl, rfl⟩
     rw [hC]
     refine ⟨trivial, ?_⟩
     refine yV (kg 54 (.unOp .not 4 (.tmp 53)) 15 false) (fun _ => val_not rfl) ?_
     refine yOf 55 46 54 ?_
     exact Sch.nil (hcut _ _ _ hcs rfl (by rw [decide_eq_false (show ¬ TryBad al bl (Tb n m (pos (edW l)) (gN al) (gN bl)) U V stl hou i j from fun e => e.elim (fun e => hA e.1) (fun e => e.elim hJ (fun e => by rw [hC] at e; cases e)))]; rfl) (sk 25))
    ·
     refine run_pl [yy 0, yy 1, yy 2, yy 3, yy 4, yy 5, yy 6, yy 7, nn 8, yy 9, yy 10, nn 11, yy 12, nn 13, yy 14, yy 15, nn 16, yy 17, yy 18, nn 19, yy 20, yy 21, nn 22, yy 23, yy 24] ?_
     have hcs := Stp.reflF hF
     refine yM 31 9 ?_
     refine yV (kq 32 (.binOp .geq 3 (.tmp 31) (.const (.int .i64 0)) 3)) (fun _ => val_F (val_geq rfl rfl) hA) ?_
     refine yM 33 32 ?_
     refine pX 34 2 true ?_
     refine pX 35 2 true ?_
     refine pX 36 2 true ?_
     refine yAf 37 33 36 ?_
     refine yM 38 37 ?_
     refine nS (kg 39 (.load 56 (.tmp 3)) 7 false) rfl rfl trivial (val_loadOwn hc3.at_ (by kernel_rfl) rfl rfl) ?_
     refine yV (kg 40 (.nilCheck (.tmp 39)) 7 false) (fun _ => val_nilCheck rfl) ?_
     refine yFg 41 63 40 4 4 7 false ?_
     refine nS (kg 42 (.load 22 (.tmp 41)) 7 false) rfl rfl trivial (val_loadOwn hsb.at_ (by kernel_rfl) rfl rfl) ?_
     refine yMg 43 2 7 false ?_
     refine cS (kg 44 (.call { callee := .value (.func 42), args := #[(.tmp 42), (.tmp 43)], argTypes := #[22, 3] }) 7 false) rfl rfl (ent Try.call42 rfl) (containsI_ok (hst.frz (n := 4) (by decide) (by omega))) ?_
     rintro vw11 w11 ⟨rfl, rfl⟩
     rw [decide_eq_false hJ]
     refine ⟨trivial, ?_⟩
     refine yOf 45 38 44 ?_
     refine yM 46 45 ?_
     refine nS (kg 47 (.load 56 (.tmp 3)) 15 false) rfl rfl trivial (val_loadOwn hc3.at_ (by kernel_rfl) rfl rfl) ?_
     refine yV (kg 48 (.nilCheck (.tmp 47)) 15 false) (fun _ => val_nilCheck rfl) ?_
     refine yFg 49 63 48 3 3 15 false ?_
     refine nS (kg 50 (.load 59 (.tmp 49)) 15 false) rfl rfl trivial (val_loadOwn hsb.at_ (by kernel_rfl) rfl rfl) ?_
     refine yMg 51 7 15 false ?_
     refine yMg 52 8 15 false ?_
     refine cS (kg 53 (.call { callee := .value (.func 33), args := #[(.tmp 50), (.tmp 51), (.tmp 52)], argTypes := #[59, 3, 3] }) 15 false) rfl rfl (ent Try.call33 rfl) (edge_ok hob hG hp64 hq64) ?_
     rintro vw12 w12 ⟨rfl, rfl⟩
     rw [Bool.eq_false_iff.2 hC]
     refine ⟨trivial, ?_⟩
     refine yV (kg 54 (.unOp .not 4 (.tmp 53)) 15 false) (fun _ => val_not rfl) ?_
     refine yOf 55 46 54 ?_
     exact Sch.nil (hcut _ _ _ hcs rfl (by rw [decide_eq_true (show TryBad al bl (Tb n m (pos (edW l)) (gN al) (gN bl)) U V stl hou i j from .inr (.inr (Bool.eq_false_iff.2 hC)))]; rfl) (sk 25))
 intro w13 hs
 replace hsb := hsb.t hs; replace hst := hst.t hs; replace hhs := hhs.t hs; replace ha := ha.t hs; replace hb := hb.t hs; replace hbm := hbm.t hs; replace hB := hB.t hs; replace hob := hob.t hs
 replace hF := hF.st hs
 replace hT := hT.t hs; replace hc3 := hc3.t hs; replace h15 := h15.t hs; replace h22 := h22.t hs
 refine run_i 55 rfl (fun h55 => ?_) (fun h55 => ?_)
 ·
  refine run_sq ?_
  refine run_pl [yy 0] ?_
  refine yAc 6 (.bool false) ?_
  refine Sch.nil ?_
  refine run_ret1 (by kernel_rfl) Try.func28 Try.results28 rfl ?_
  exact ⟨false, stl, hou, rfl, hT.outJ (by decide), hst.back hst0 hT hF0, hhs.back hhs0 hT hF0, fun e => (by cases e), fun _ => ⟨rfl, rfl, fun f hf hff => try_bad hH hG hSI hi hj hsl h55 hf hff⟩⟩
 ·
  have hgo := try_go hSI hi hH h55
  have htb : 0 < Tb n m (pos (edW l)) (gN al) (gN bl) (gN al i) (gN bl j) := by
    have e : edgeB (Tb n m (pos (edW l)) (gN al) (gN bl)) U V (gN al i) (gN bl j) = true := by
      cases e : edgeB (Tb n m (pos (edW l)) (gN al) (gN bl)) U V (gN al i) (gN bl j) with
      | true => rfl
      | false => exact absurd (.inr (.inr e)) h55
    have := (edgeB_iff.1 e).1
    rwa [pos_tb] at this
  refine run_sk ?_
  refine run_sq ?_
  refine run_draw (id := 5) (ops := F28.o5) [4] (Cw1) [yy 0, yy 1, yy 2, yy 3, yy 4, yy 5, yy 6, yy 7, yy 8, yy 9, yy 10, yy 11, yy 12, nn 13, yy 14, nn 15] Try_mixed (by kernel_rfl) (by kernel_rfl) (by kernel_rfl) ?_
  intro w14 hs
  replace hsb := hsb.t hs; replace hst := hst.t hs; replace hhs := hhs.t hs; replace ha := ha.t hs; replace hb := hb.t hs; replace hbm := hbm.t hs; replace hB := hB.t hs; replace hob := hob.t hs
  replace hF := hF.st hs
  replace hT := hT.t hs; replace hc3 := hc3.t hs; replace h15 := h15.t hs; replace h22 := h22.t hs
  have hR := Stp.refl [4] w14 (Cw1)
  refine yS (kq 56 (.load 56 (.tmp 3))) rfl rfl (fun w' hS => val_loadOwn (hc3.sy hS) (by kernel_rfl) rfl rfl) ?_
  refine yN 57 56 ?_
  refine yF 58 63 57 4 4 ?_
  refine yS (kq 59 (.load 22 (.tmp 58))) rfl rfl (fun w' hS => val_loadOwn (hsb.sy hS) (by kernel_rfl) rfl rfl) ?_
  refine yM 60 1 ?_
  refine yS (kq 61 (.load 56 (.tmp 3))) rfl rfl (fun w' hS => val_loadOwn (hc3.sy hS) (by kernel_rfl) rfl rfl) ?_
  refine yN 62 61 ?_
  refine yF 63 63 62 5 5 ?_
  refine yS (kq 64 (.load 22 (.tmp 63))) rfl rfl (fun w' hS => val_loadOwn (hsb.sy hS) (by kernel_rfl) rfl rfl) ?_
  refine yM 65 7 ?_
  refine yM 66 2 ?_
  refine yM 67 8 ?_
  refine oI (e' := 3) (kq 68 (.indexAddr 22 (.tmp 59) (.tmp 60))) rfl rfl hst rfl (by kernel_rfl) rfl (by omega) (by omega) ?_
  intro g68 hg68
  try simp only [Int.toNat_natCast]
  refine aN (k0 (.store 3 (.tmp 68) (.tmp 66))) rfl (a_storeO hst hg68 (by omega) rfl rfl (by kernel_rfl) (rv_int.2 rfl)) ?_
  rintro _ w15 ⟨rfl, hs, hst⟩
  refine ⟨(hR.trans hs (by simp)).ext, ?_⟩
  replace hsb := hsb.t hs; replace hhs := hhs.t hs; replace ha := ha.t hs; replace hb := hb.t hs; replace hbm := hbm.t hs; replace hB := hB.t hs; replace hob := hob.t hs
  replace hF := hF.st hs
  replace hT := hT.t hs; replace hc3 := hc3.t hs; replace h15 := h15.t hs; replace h22 := h22.t hs; replace hR := hR.t hs
  refine oI (e' := 3) (kq 69 (.indexAddr 22 (.tmp 64) (.tmp 65))) rfl rfl hhs rfl (by kernel_rfl) rfl (by omega) (by omega) ?_
  intro g69 hg69
  try simp only [Int.toNat_natCast]
  refine Sch.free rfl ?_
  refine aN (k0 (.store 3 (.tmp 69) (.tmp 67))) rfl (a_storeO hhs hg69 (by omega) rfl rfl (by kernel_rfl) (rv_int.2 rfl)) ?_
  rintro _ w16 ⟨rfl, hs, hhs⟩
  refine ⟨trivial, ?_⟩
  replace hsb := hsb.t hs; replace hst := hst.t hs; replace ha := ha.t hs; replace hb := hb.t hs; replace hbm := hbm.t hs; replace hB := hB.t hs; replace hob := hob.t hs
  replace hF := hF.st hs
  replace hT := hT.t hs; replace hc3 := hc3.t hs; replace h15 := h15.t hs; replace h22 := h22.t hs
  refine Sch.nil ?_
  have e1 : gI (stl.set i (j : Int)) = setF (gI stl) i j := gI_set (by omega)
  have e2 : gI (hou.set (gN al i) ((gN bl j) : Int)) = setF (gI hou) (gN al i) ((gN bl j) : Nat) := gI_set (by omega)
  obtain ⟨stl2, hst2⟩ : ∃ x, x = stl.set i (j : Int) := ⟨_, rfl⟩
  obtain ⟨hou2, hho2⟩ : ∃ x, x = hou.set (gN al i) ((gN bl j) : Int) := ⟨_, rfl⟩
  rw [← hst2] at e1 hst
  rw [← hho2] at e2 hhs
  have hsl2 : stl2.length = n := by rw [hst2, List.length_set]; exact hsl
  have hhl2 : hou2.length = 64 := by rw [hho2, List.length_set]; exact hhl
  have hpre := try_pre hSI.hh hi hj hH hu hgo
  rw [← e1] at hpre
  refine run_sq ?_
  refine run_sq ?_
  by_cases hP1 : 0 < Tb n m (pos (edW l)) (gN al) (gN bl) (gN al i) (gN bl j) ∧ FitP n m (pos (edW l)) (gN al) (gN bl) (gI stl2) (gN al i) (gN bl j)
  ·
   refine run_draw (id := 6) (ops := F28.o6) [] (Cw1) [yy 0, yy 1, yy 2, nn 3, yy 4, yy 5, yy 6, yy 7, yy 8, yy 9, yy 10, yy 11, yy 12, yy 13, nn 14, yy 15] Try_mixed (by kernel_rfl) (by kernel_rfl) (by kernel_rfl) ?_
   intro w17 hs
   replace hsb := hsb.t hs; replace hst := hst.t hs; replace hhs := hhs.t hs; replace ha := ha.t hs; replace hb := hb.t hs; replace hbm := hbm.t hs; replace hB := hB.t hs; replace hob := hob.t hs
   replace hF := hF.st hs
   replace hT := hT.t hs; replace hc3 := hc3.t hs; replace h15 := h15.t hs; replace h22 := h22.t hs
   have hR := Stp.refl [] w17 (Cw1)
   have hc3b := hc3
   have hsbb := hsb
   refine yS (kq 70 (.load 56 (.tmp 3))) rfl rfl (fun w' hS => val_loadOwn (hc3b.sy hS) (by kernel_rfl) rfl rfl) ?_
   refine yM 71 7 ?_
   refine yM 72 8 ?_
   refine cS (kq 73 (.call { callee := .value (.func 41), args := #[(.tmp 70), (.tmp 71), (.tmp 72)], argTypes := #[56, 3, 3] })) rfl rfl (ent Try.call41 rfl) (fits_ok (stl := stl2) (hou := hou2) (p := (gN al i)) (q := (gN bl j)) hF hV hH hsb hst hhs ha hb hbm hB hob hG hsl2 hhl2 hop hpre) ?_
   rintro vw18 w18 ⟨bb1, rfl, hs, hbb1⟩
   obtain rfl : bb1 = true := hbb1.2 hP1
   refine ⟨(hR.trans hs (by simp)).ext, ?_⟩
   replace hsb := hsb.t hs; replace hst := hst.t hs; replace hhs := hhs.t hs; replace ha := ha.t hs; replace hb := hb.t hs; replace hbm := hbm.t hs; replace hB := hB.t hs; replace hob := hob.t hs
   replace hF := hF.st hs
   replace hT := hT.t hs; replace hc3 := hc3.t hs; replace h15 := h15.t hs; replace h22 := h22.t hs; replace hR := hR.t hs
   refine yM 74 73 ?_
   refine yS (kg 75 (.load 56 (.tmp 3)) 4 true) rfl rfl (fun w' hS => val_loadOwn (hc3b.sy hS) (by kernel_rfl) rfl rfl) ?_
   refine yV (kg 76 (.nilCheck (.tmp 75)) 4 true) (fun _ => val_nilCheck rfl) ?_
   refine yFg 77 63 76 3 3 4 true ?_
   refine yS (kg 78 (.load 59 (.tmp 77)) 4 true) rfl rfl (fun w' hS => val_loadOwn (hsbb.sy hS) (by kernel_rfl) rfl rfl) ?_
   refine yS (kg 79 (.load 56 (.tmp 3)) 4 true) rfl rfl (fun w' hS => val_loadOwn (hc3b.sy hS) (by kernel_rfl) rfl rfl) ?_
   refine yV (kg 80 (.nilCheck (.tmp 79)) 4 true) (fun _ => val_nilCheck rfl) ?_
   refine yFg 81 63 80 5 5 4 true ?_
   refine yS (kg 82 (.load 22 (.tmp 81)) 4 true) rfl rfl (fun w' hS => val_loadOwn (hsbb.sy hS) (by kernel_rfl) rfl rfl) ?_
   refine yV (kg 83 (.makeFunc (.func 43) #[] #[(.tmp 3)]) 4 true) (fun _ => val_makeFunc rfl rfl) ?_
   have hS2 := hSI.hh.set hi hj (fun i hi => hH.ga hi) (fun j hj => hH.gb hj) hu hgo
   rw [← e2] at hS2
   have hb2a : ∀ p, p < 64 → -2 ≤ gI hou2 p := fun p hp => by have := hS2.hrng p hp; omega
   have hb2b : ∀ p, p < 64 → gI hou2 p < (64 : Nat) := fun p hp => by have := hS2.hrng p hp; omega
   have hpm : ∀ w1, Stp [] _ (K.frz 3 (Cw1)) w1 (K.frz 3 (Cw1)) → ∀ p q : Nat, p < 64 → q < 64 → Calls Try.prog 43 ([Value.int .i64 p, Value.int .i64 q] ++ #[Value.pointer (some ⟨cx, 0, none⟩)].toList).toArray w1 (Ret fun v w2 => v = .bool (opB opl p q) ∧ Stp [] w1 (K.frz 3 (Cw1)) w2 (K.frz 3 (Cw1))) := fun w1 hs1 p q hp hq => by
     have hcr := hc3.frzA (n := 3) (by decide) rfl
     refine (open_ok (RA.st hcr hs1 (by decide)) ((hsb.frz0 (n := 3) (by decide)).st hs1 (by decide)) hop hp hq).mono (Ret.mono fun v w2 h => ⟨h.1, ?_⟩)
     rw [h.2]; exact Stp.refl _ _ _
   refine cS (kg 84 (.call { callee := .value (.func 34), args := #[(.tmp 78), (.tmp 82), (.tmp 83)], argTypes := #[59, 22, 76] }) 4 true) rfl rfl (ent Try.call34 rfl) (feasibleP_ok (n := 64) (m := 64) (stl := hou2) (pm := fun p q => opB opl p q) (hF.frz 3) hG (hob.frz 3) (hhs.frz (n := 3) (by decide) (by omega)) hhl2 hb2a hb2b (by decide) (by decide) (fun args w => Try.call43 args w) hpm) ?_
   rintro vw19 w19 ⟨bb2, rfl, hs0, hbb2⟩
   have hs := hs0.unfrz (Cw1)
   refine ⟨(hR.trans hs (by simp)).ext, ?_⟩
   replace hsb := hsb.t hs; replace hst := hst.t hs; replace hhs := hhs.t hs; replace ha := ha.t hs; replace hb := hb.t hs; replace hbm := hbm.t hs; replace hB := hB.t hs; replace hob := hob.t hs
   replace hF := hF.st hs
   replace hT := hT.t hs; replace hc3 := hc3.t hs; replace h15 := h15.t hs; replace h22 := h22.t hs; replace hR := hR.t hs
   refine yAt 85 74 84 ?_
   refine Sch.nil ?_
   clear hc3b hsbb
   refine run_c 85 rfl (fun h85 => ?_) (fun h85 => ?_)
   ·
    refine run_sq ?_
    refine run_pl [yy 0] ?_
    refine yAc 6 (.bool true) ?_
    refine Sch.nil ?_
    refine run_ret1 (by kernel_rfl) Try.func28 Try.results28 rfl ?_
    exact ⟨true, stl2, hou2, rfl, hT.outJ (by decide), hst.back hst0 hT hF0, hhs.back hhs0 hT hF0, fun _ => ⟨hst2, hho2, hgo, (try_law hH hG hSI hi hj hgo e1 e2 htb (b1 := true) (b2 := bb2) ⟨fun _ => hP1, fun _ => rfl⟩ (fun _ => hbb2)).1 ⟨rfl, h85⟩⟩, fun e => (by cases e)⟩
   ·
    refine run_sk ?_
    refine run_sq ?_
    refine run_draw (id := 8) (ops := F28.o8) [4] (Cw1) [yy 0, yy 1, yy 2, yy 3, yy 4, yy 5, yy 6, yy 7, yy 8, yy 9, yy 10, yy 11, nn 12, yy 13, nn 14] Try_mixed (by kernel_rfl) (by kernel_rfl) (by kernel_rfl) ?_
    intro w20 hs
    replace hsb := hsb.t hs; replace hst := hst.t hs; replace hhs := hhs.t hs; replace ha := ha.t hs; replace hb := hb.t hs; replace hbm := hbm.t hs; replace hB := hB.t hs; replace hob := hob.t hs
    replace hF := hF.st hs
    replace hT := hT.t hs; replace hc3 := hc3.t hs; replace h15 := h15.t hs; replace h22 := h22.t hs
    have hR := Stp.refl [4] w20 (Cw1)
    refine yS (kq 86 (.load 56 (.tmp 3))) rfl rfl (fun w' hS => val_loadOwn (hc3.sy hS) (by kernel_rfl) rfl rfl) ?_
    refine yN 87 86 ?_
    refine yF 88 63 87 4 4 ?_
    refine yS (kq 89 (.load 22 (.tmp 88))) rfl rfl (fun w' hS => val_loadOwn (hsb.sy hS) (by kernel_rfl) rfl rfl) ?_
    refine yM 90 1 ?_
    refine yS (kq 91 (.load 56 (.tmp 3))) rfl rfl (fun w' hS => val_loadOwn (hc3.sy hS) (by kernel_rfl) rfl rfl) ?_
    refine yN 92 91 ?_
    refine yF 93 63 92 5 5 ?_
    refine yS (kq 94 (.load 22 (.tmp 93))) rfl rfl (fun w' hS => val_loadOwn (hsb.sy hS) (by kernel_rfl) rfl rfl) ?_
    refine yM 95 7 ?_
    refine yM 96 9 ?_
    refine oI (e' := 3) (kq 97 (.indexAddr 22 (.tmp 89) (.tmp 90))) rfl rfl hst rfl (by kernel_rfl) rfl (by omega) (by omega) ?_
    intro g97 hg97
    try simp only [Int.toNat_natCast]
    refine aN (k0 (.store 3 (.tmp 97) (.const (.int .i64 (-2))))) rfl (a_storeO hst hg97 (by omega) rfl rfl (by kernel_rfl) (rv_int.2 rfl)) ?_
    rintro _ w21 ⟨rfl, hs, hst⟩
    refine ⟨(hR.trans hs (by simp)).ext, ?_⟩
    replace hsb := hsb.t hs; replace hhs := hhs.t hs; replace ha := ha.t hs; replace hb := hb.t hs; replace hbm := hbm.t hs; replace hB := hB.t hs; replace hob := hob.t hs
    replace hF := hF.st hs
    replace hT := hT.t hs; replace hc3 := hc3.t hs; replace h15 := h15.t hs; replace h22 := h22.t hs; replace hR := hR.t hs
    refine oI (e' := 3) (kq 98 (.indexAddr 22 (.tmp 94) (.tmp 95))) rfl rfl hhs rfl (by kernel_rfl) rfl (by omega) (by omega) ?_
    intro g98 hg98
    try simp only [Int.toNat_natCast]
    refine Sch.free rfl ?_
    refine aN (k0 (.store 3 (.tmp 98) (.tmp 96))) rfl (a_storeO hhs hg98 (by omega) rfl rfl (by kernel_rfl) (rv_int.2 rfl)) ?_
    rintro _ w22 ⟨rfl, hs, hhs⟩
    refine ⟨trivial, ?_⟩
    replace hsb := hsb.t hs; replace hst := hst.t hs; replace ha := ha.t hs; replace hb := hb.t hs; replace hbm := hbm.t hs; replace hB := hB.t hs; replace hob := hob.t hs
    replace hF := hF.st hs
    replace hT := hT.t hs; replace hc3 := hc3.t hs; replace h15 := h15.t hs; replace h22 := h22.t hs
    refine Sch.nil ?_
    rw [hst2, set_undo (by omega) (hsgi.symm.trans hu)] at hst
    rw [hho2, set_undo (by omega) hhg.symm] at hhs
    refine run_sq ?_
    refine run_pl [yy 0] ?_
    refine yAc 6 (.bool false) ?_
    refine Sch.nil ?_
    refine run_ret1 (by kernel_rfl) Try.func28 Try.results28 rfl ?_
    exact ⟨false, stl, hou, rfl, hT.outJ (by decide), hst.back hst0 hT hF0, hhs.back hhs0 hT hF0, fun e => (by cases e), fun _ => ⟨rfl, rfl, (try_law hH hG hSI hi hj hgo e1 e2 htb (b1 := true) (b2 := bb2) ⟨fun _ => hP1, fun _ => rfl⟩ (fun _ => hbb2)).2 (fun e => by rw [h85] at e; cases e.2)⟩⟩
  ·
   refine run_draw (id := 6) (ops := F28.o6) [] (Cw1) [yy 0, yy 1, yy 2, nn 3, yy 4, yy 5, yy 6, yy 7, yy 8, yy 9, yy 10, yy 11, yy 12, yy 13, nn 14, yy 15] Try_mixed (by kernel_rfl) (by kernel_rfl) (by kernel_rfl) ?_
   intro w23 hs
   replace hsb := hsb.t hs; replace hst := hst.t hs; replace hhs := hhs.t hs; replace ha := ha.t hs; replace hb := hb.t hs; replace hbm := hbm.t hs; replace hB := hB.t hs; replace hob := hob.t hs
   replace hF := hF.st hs
   replace hT := hT.t hs; replace hc3 := hc3.t hs; replace h15 := h15.t hs; replace h22 := h22.t hs
   have hR := Stp.refl [] w23 (Cw1)
   have hc3b := hc3
   have hsbb := hsb
   refine yS (kq 70 (.load 56 (.tmp 3))) rfl rfl (fun w' hS => val_loadOwn (hc3b.sy hS) (by kernel_rfl) rfl rfl) ?_
   refine yM 71 7 ?_
   refine yM 72 8 ?_
   refine cS (kq 73 (.call { callee := .value (.func 41), args := #[(.tmp 70), (.tmp 71), (.tmp 72)], argTypes := #[56, 3, 3] })) rfl rfl (ent Try.call41 rfl) (fits_ok (stl := stl2) (hou := hou2) (p := (gN al i)) (q := (gN bl j)) hF hV hH hsb hst hhs ha hb hbm hB hob hG hsl2 hhl2 hop hpre) ?_
   rintro vw24 w24 ⟨bb1, rfl, hs, hbb1⟩
   obtain rfl : bb1 = false := Bool.eq_false_iff.2 fun e => hP1 (hbb1.1 e)
   refine ⟨(hR.trans hs (by simp)).ext, ?_⟩
   replace hsb := hsb.t hs; replace hst := hst.t hs; replace hhs := hhs.t hs; replace ha := ha.t hs; replace hb := hb.t hs; replace hbm := hbm.t hs; replace hB := hB.t hs; replace hob := hob.t hs
   replace hF := hF.st hs
   replace hT := hT.t hs; replace hc3 := hc3.t hs; replace h15 := h15.t hs; replace h22 := h22.t hs; replace hR := hR.t hs
   refine yM 74 73 ?_
   refine pX 75 4 true ?_
   refine pX 76 4 true ?_
   refine pX 77 4 true ?_
   refine pX 78 4 true ?_
   refine pX 79 4 true ?_
   refine pX 80 4 true ?_
   refine pX 81 4 true ?_
   refine pX 82 4 true ?_
   refine pX 83 4 true ?_
   refine pW (kg 84 (.call { callee := .value (.func 34), args := #[(.tmp 78), (.tmp 82), (.tmp 83)], argTypes := #[59, 22, 76] }) 4 true) rfl rfl hR.ext ?_
   refine yAf 85 74 84 ?_
   refine Sch.nil ?_
   clear hc3b hsbb
   refine run_cF 85 ?_
   refine run_sk ?_
   refine run_sq ?_
   refine run_draw (id := 8) (ops := F28.o8) [4] (Cw1) [yy 0, yy 1, yy 2, yy 3, yy 4, yy 5, yy 6, yy 7, yy 8, yy 9, yy 10, yy 11, nn 12, yy 13, nn 14] Try_mixed (by kernel_rfl) (by kernel_rfl) (by kernel_rfl) ?_
   intro w25 hs
   replace hsb := hsb.t hs; replace hst := hst.t hs; replace hhs := hhs.t hs; replace ha := ha.t hs; replace hb := hb.t hs; replace hbm := hbm.t hs; replace hB := hB.t hs; replace hob := hob.t hs
   replace hF := hF.st hs
   replace hT := hT.t hs; replace hc3 := hc3.t hs; replace h15 := h15.t hs; replace h22 := h22.t hs
   have hR := Stp.refl [4] w25 (Cw1)
   refine yS (kq 86 (.load 56 (.tmp 3))) rfl rfl (fun w' hS => val_loadOwn (hc3.sy hS) (by kernel_rfl) rfl rfl) ?_
   refine yN 87 86 ?_
   refine yF 88 63 87 4 4 ?_
   refine yS (kq 89 (.load 22 (.tmp 88))) rfl rfl (fun w' hS => val_loadOwn (hsb.sy hS) (by kernel_rfl) rfl rfl) ?_
   refine yM 90 1 ?_
   refine yS (kq 91 (.load 56 (.tmp 3))) rfl rfl (fun w' hS => val_loadOwn (hc3.sy hS) (by kernel_rfl) rfl rfl) ?_
   refine yN 92 91 ?_
   refine yF 93 63 92 5 5 ?_
   refine yS (kq 94 (.load 22 (.tmp 93))) rfl rfl (fun w' hS => val_loadOwn (hsb.sy hS) (by kernel_rfl) rfl rfl) ?_
   refine yM 95 7 ?_
   refine yM 96 9 ?_
   refine oI (e' := 3) (kq 97 (.indexAddr 22 (.tmp 89) (.tmp 90))) rfl rfl hst rfl (by kernel_rfl) rfl (by omega) (by omega) ?_
   intro g97 hg97
   try simp only [Int.toNat_natCast]
   refine aN (k0 (.store 3 (.tmp 97) (.const (.int .i64 (-2))))) rfl (a_storeO hst hg97 (by omega) rfl rfl (by kernel_rfl) (rv_int.2 rfl)) ?_
   rintro _ w26 ⟨rfl, hs, hst⟩
   refine ⟨(hR.trans hs (by simp)).ext, ?_⟩
   replace hsb := hsb.t hs; replace hhs := hhs.t hs; replace ha := ha.t hs; replace hb := hb.t hs; replace hbm := hbm.t hs; replace hB := hB.t hs; replace hob := hob.t hs
   replace hF := hF.st hs
   replace hT := hT.t hs; replace hc3 := hc3.t hs; replace h15 := h15.t hs; replace h22 := h22.t hs; replace hR := hR.t hs
   refine oI (e' := 3) (kq 98 (.indexAddr 22 (.tmp 94) (.tmp 95))) rfl rfl hhs rfl (by kernel_rfl) rfl (by omega) (by omega) ?_
   intro g98 hg98
   try simp only [Int.toNat_natCast]
   refine Sch.free rfl ?_
   refine aN (k0 (.store 3 (.tmp 98) (.tmp 96))) rfl (a_storeO hhs hg98 (by omega) rfl rfl (by kernel_rfl) (rv_int.2 rfl)) ?_
   rintro _ w27 ⟨rfl, hs, hhs⟩
   refine ⟨trivial, ?_⟩
   replace hsb := hsb.t hs; replace hst := hst.t hs; replace ha := ha.t hs; replace hb := hb.t hs; replace hbm := hbm.t hs; replace hB := hB.t hs; replace hob := hob.t hs
   replace hF := hF.st hs
   replace hT := hT.t hs; replace hc3 := hc3.t hs; replace h15 := h15.t hs; replace h22 := h22.t hs
   refine Sch.nil ?_
   rw [hst2, set_undo (by omega) (hsgi.symm.trans hu)] at hst
   rw [hho2, set_undo (by omega) hhg.symm] at hhs
   refine run_sq ?_
   refine run_pl [yy 0] ?_
   refine yAc 6 (.bool false) ?_
   refine Sch.nil ?_
   refine run_ret1 (by kernel_rfl) Try.func28 Try.results28 rfl ?_
   exact ⟨false, stl, hou, rfl, hT.outJ (by decide), hst.back hst0 hT hF0, hhs.back hhs0 hT hF0, fun e => (by cases e), fun _ => ⟨rfl, rfl, (try_law hH hG hSI hi hj hgo e1 e2 htb (b1 := false) (b2 := false) ⟨fun e => (by cases e), fun e => absurd e hP1⟩ (fun e => by cases e)).2 (fun e => by cases e.1)⟩⟩
end Go.Proofs.Ytognfmeffnjijaa
