/- Steps through functions of the program. -/
import Derived.Test.YtognfmeffnjijaaJH5
set_option linter.unusedVariables false
set_option linter.unusedSimpArgs false
set_option maxRecDepth 100000
set_option maxHeartbeats 4000000
namespace Go.Proofs.Ytognfmeffnjijaa
open Go.K Go.K.Rep

namespace F29
noncomputable def c0 := bodyOf Try.f29
end F29
/-- 'leave'. -/
theorem leave_ok {w₀ : World} {C : Nat → Nat} {n m sb bm ob : Nat} {l : List K.Edge} {al bl : List Nat} {va vb vst vhs : Value} {mm : List (Couple × Option Nat)} {ogr : Gr} {U V : Nat → Int} {stl hou : List Int} {opl : List Bool} {i : Nat} (hF : Lim w₀ C) (hV : VE n m l) (hH : HH n m al bl) (hsb : OwnB w₀ C 3 sb (.cells (seC va vb (.map (some bm)) (.pointer (some ⟨ob, 0, none⟩)) vst vhs opl).toArray 63)) (hst : OwnL w₀ C 4 3 vst stl) (hhs : OwnL w₀ C 5 3 vhs hou) (ha : RV w₀ (Mc C) al va) (hb : RV w₀ (Mc C) bl vb) (hbm : RM w₀ (Mc C) kvC vvP mm (.map (some bm))) (hB : BlkM w₀ C n m (pos (edW l)) (gN al) (gN bl) mm) (hob : RA w₀ (Mc C) ogr ob 0) (hG : GrIs 64 64 (Tb n m (pos (edW l)) (gN al) (gN bl)) U V ogr) (hsl : stl.length = n) (hhl : hou.length = 64) (hop : opl.length = 4096) (hHS : HS 64 n m (gN al) (gN bl) (gI stl) (gI hou)) (hi : i < n) :
    Calls Try.prog 29 #[.pointer (some ⟨sb, 0, none⟩), .int .i64 i] w₀ (Ret fun v w' => ∃ op1 : List Bool, v = .tuple #[] ∧ Stp [3, 4] w₀ C w' C ∧ OwnL w' C 4 3 vst (stl.set i (-1)) ∧ OwnB w' C 3 sb (.cells (seC va vb (.map (some bm)) (.pointer (some ⟨ob, 0, none⟩)) vst vhs op1).toArray 63) ∧ op1.length = 4096 ∧
      ∀ p', p' < 64 → gI hou p' = -2 → ∀ q, q < 64 → (opB op1 p' q = true ↔ if p' = gN al i then 0 < Tb n m (pos (edW l)) (gN al) (gN bl) p' q ∧ FitP n m (pos (edW l)) (gN al) (gN bl) (setF (gI stl) i (-1)) p' q else opB opl p' q = true)) := by
 have hF0 := hF
 have hsb0 := hsb
 have hst0 := hst
 have hhs0 := hhs
 have hn1 := hV.n1
 have hm1 := hV.m1
 have hla := hH.la
 have hlb := hH.lb
 have hT := Stp.refl [3, 4, 7] w₀ (colE C)
 replace hF := hF.colE
 replace hsb := hsb.colE (by decide)
 replace hst := hst.colE (by decide)
 replace hhs := hhs.colE (by decide)
 replace ha : RV w₀ (Mc (colE C)) al va := by rw [Mc_colE]; exact ha
 replace hb : RV w₀ (Mc (colE C)) bl vb := by rw [Mc_colE]; exact hb
 replace hbm : RM w₀ (Mc (colE C)) kvC vvP mm (.map (some bm)) := by rw [Mc_colE]; exact hbm
 replace hob : RA w₀ (Mc (colE C)) ogr ob 0 := by rw [Mc_colE]; exact hob
 replace hB := hB.mc (Mc_colE C)
 refine calls_start (c := F29.c0) (N := 29) [.pointer (some ⟨sb, 0, none⟩), .int .i64 i] Try.func29 (by kernel_rfl) (by kernel_rfl) (by kernel_rfl) ?_
 show Run _ _ _ _ [(0, .pointer (some ⟨sb, 0, none⟩)), (1, .int .i64 i)] _ _
 refine run_sq ?_
 refine run_pl [yy 0, yy 1, yy 2, nn 3, yy 4, yy 5, nn 6] ?_
 have hga : gN al i = al[i]'(by omega) := getD_in _
 have hp64 : gN al i < 64 := hH.ga hi
 have hhg : gI hou (gN al i) = hou[gN al i]'(by omega) := getD_in _
 have e1 : gI (stl.set i (-1)) = setF (gI stl) i (-1) := gI_set (by omega)
 refine yM 5 0 ?_
 refine yN 6 5 ?_
 refine yF 7 63 6 4 4 ?_
 refine nS (kq 8 (.load 22 (.tmp 7))) rfl rfl trivial (val_loadOwn hsb.at_ (by kernel_rfl) rfl rfl) ?_
 refine yM 9 1 ?_
 refine oI (e' := 3) (kq 10 (.indexAddr 22 (.tmp 8) (.tmp 9))) rfl rfl hst rfl (by kernel_rfl) rfl (by omega) (by omega) ?_
 intro g10 hg10
 try simp only [Int.toNat_natCast]
 refine aN (k0 (.store 3 (.tmp 10) (.const (.int .i64 (-1))))) rfl (a_storeO hst hg10 (by omega) rfl rfl (by kernel_rfl) (rv_int.2 rfl)) ?_
 rintro _ w1 ⟨rfl, hs, hst⟩
 refine ⟨trivial, ?_⟩
 replace hsb := hsb.t hs; replace hhs := hhs.t hs; replace ha := ha.t hs; replace hb := hb.t hs; replace hbm := hbm.t hs; replace hB := hB.t hs; replace hob := hob.t hs
 replace hF := hF.st hs
 replace hT := hT.t hs
 refine Sch.nil ?_
 refine run_sq ?_
 refine run_pl [yy 0, yy 1, yy 2, nn 3, yy 4, yy 5, nn 6, yy 7] ?_
 refine yM 11 0 ?_
 refine yN 12 11 ?_
 refine yF 13 63 12 0 0 ?_
 refine nS (kq 14 (.load 22 (.tmp 13))) rfl rfl trivial (val_loadOwn hsb.at_ (by kernel_rfl) rfl rfl) ?_
 refine yM 15 1 ?_
 refine iS (e := 3) (kq 16 (.indexAddr 22 (.tmp 14) (.tmp 15))) rfl rfl ha rfl (by kernel_rfl) rfl (by omega) (by omega) ?_
 intro b16 o16 h16
 try simp only [Int.toNat_natCast] at h16
 refine lN (kq 17 (.load 3 (.tmp 16))) rfl rfl trivial h16 (by kernel_rfl) rfl rfl ?_
 intro v17 g17
 first | (obtain rfl := rv_nat.1 g17) | (obtain rfl := rv_int.1 g17)
 rw [← hga]
 refine yA 4 17 ?_
 refine Sch.nil ?_
 refine run_sq ?_
 refine run_pl [yy 0, yy 1, yy 2, nn 3, yy 4, yy 5, nn 6, yy 7] ?_
 refine yM 18 0 ?_
 refine yN 19 18 ?_
 refine yF 20 63 19 5 5 ?_
 refine nS (kq 21 (.load 22 (.tmp 20))) rfl rfl trivial (val_loadOwn hsb.at_ (by kernel_rfl) rfl rfl) ?_
 refine yM 22 4 ?_
 refine oI (e' := 3) (kq 23 (.indexAddr 22 (.tmp 21) (.tmp 22))) rfl rfl hhs rfl (by kernel_rfl) rfl (by omega) (by omega) ?_
 intro g23 hg23
 try simp only [Int.toNat_natCast]
 refine oN (kq 24 (.load 3 (.tmp 23))) rfl rfl trivial hhs hg23 (by omega) (by kernel_rfl) rfl rfl ?_
 intro v24 g24
 try simp only [Int.toNat_natCast] at g24
 first | (obtain rfl := rv_nat.1 g24) | (obtain rfl := rv_int.1 g24)
 rw [← hhg]
 refine yV (kq 25 (.binOp .lss 3 (.tmp 24) (.const (.int .i64 0)) 3)) (fun _ => val_lss rfl rfl) ?_
 refine Sch.nil ?_
 refine run_i 25 rfl (fun h25 => ?_) (fun h25 => ?_)
 ·
  refine run_pl [yy 0, yy 1, nn 2] ?_
  refine yM 26 0 ?_
  refine yM 27 4 ?_
  have hpre := leave_pre (i := i) hHS h25
  rw [← e1] at hpre
  refine cS (kq 28 (.call { callee := .value (.func 27), args := #[(.tmp 26), (.tmp 27)], argTypes := #[56, 3] })) rfl rfl (ent Try.call27 rfl) (look_ok (stl := stl.set i (-1)) hF hV hH hsb hst hhs ha hb hbm hB hob hG (by rw [List.length_set]; exact hsl) hhl hop hp64 hpre) ?_
  rintro vw2 w2 ⟨op1, rfl, hs, hsb, hL⟩
  refine ⟨trivial, ?_⟩
  replace hst := hst.t hs; replace hhs := hhs.t hs; replace ha := ha.t hs; replace hb := hb.t hs; replace hbm := hbm.t hs; replace hB := hB.t hs; replace hob := hob.t hs
  replace hF := hF.st hs
  replace hT := hT.t hs; replace h16 := h16.t hs
  refine Sch.nil ?_
  refine run_end0 Try.func29 rfl ?_
  refine ⟨op1, rfl, hT.outJ (by decide), hst.back hst0 hT hF0, hsb.back hsb0, hL.1, fun p' hp' _ q hq => ?_⟩
  rw [hL.2 p' q hp' hq, e1]
  by_cases e : p' = gN al i
  · rw [if_pos ⟨e, hq⟩, if_pos e, e]
  · rw [if_neg (fun h => e h.1), if_neg e]
 ·
  refine run_sk ?_
  refine run_end0 Try.func29 rfl ?_
  refine ⟨opl, rfl, hT.outJ (by decide), hst.back hst0 hT hF0, hsb.back hsb0, hop, fun p' hp' hun q hq => ?_⟩
  rw [if_neg (fun e => by subst e; exact h25 (by rw [hun]; decide))]
end Go.Proofs.Ytognfmeffnjijaa
