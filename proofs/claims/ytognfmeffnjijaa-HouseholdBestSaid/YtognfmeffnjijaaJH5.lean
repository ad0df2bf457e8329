/- Steps through functions of the program. -/
import Derived.Test.YtognfmeffnjijaaJH4
set_option linter.unusedVariables false
set_option linter.unusedSimpArgs false
set_option maxRecDepth 100000
set_option maxHeartbeats 4000000
namespace Go.Proofs.Ytognfmeffnjijaa
open Go.K Go.K.Rep

namespace F27
noncomputable def c0 := bodyOf Try.f27
noncomputable def c7 := (cl (cr (cl (cl (cr c0)))))
noncomputable def c10 := (cr (cr (cl (cl (cr c0)))))
noncomputable def o3 := rops (cr (cl (cl c10)))
end F27
/-- 'look'. -/
theorem look_ok {w₀ : World} {C : Nat → Nat} {n m sb bm ob : Nat} {l : List K.Edge} {al bl : List Nat} {va vb vst vhs : Value} {mm : List (Couple × Option Nat)} {ogr : Gr} {U V : Nat → Int} {stl hou : List Int} {opl : List Bool} {p : Nat} (hF : Lim w₀ C) (hV : VE n m l) (hH : HH n m al bl) (hsb : OwnB w₀ C 3 sb (.cells (seC va vb (.map (some bm)) (.pointer (some ⟨ob, 0, none⟩)) vst vhs opl).toArray 63)) (hst : OwnL w₀ C 4 3 vst stl) (hhs : OwnL w₀ C 5 3 vhs hou) (ha : RV w₀ (Mc C) al va) (hb : RV w₀ (Mc C) bl vb) (hbm : RM w₀ (Mc C) kvC vvP mm (.map (some bm))) (hB : BlkM w₀ C n m (pos (edW l)) (gN al) (gN bl) mm) (hob : RA w₀ (Mc C) ogr ob 0) (hG : GrIs 64 64 (Tb n m (pos (edW l)) (gN al) (gN bl)) U V ogr) (hsl : stl.length = n) (hhl : hou.length = 64) (hop : opl.length = 4096) (hp : p < 64) (hpre : ∀ q i, i < n → gN al i = p → -2 ≤ gI stl i ∧ (0 ≤ gI stl i → (gI stl i).toNat < m ∧ gN bl (gI stl i).toNat = q)) :
    Calls Try.prog 27 #[.pointer (some ⟨sb, 0, none⟩), .int .i64 p] w₀ (Ret fun v w' => ∃ op1 : List Bool, v = .tuple #[] ∧ Stp [3] w₀ C w' C ∧ OwnB w' C 3 sb (.cells (seC va vb (.map (some bm)) (.pointer (some ⟨ob, 0, none⟩)) vst vhs op1).toArray 63) ∧ LookI n m (pos (edW l)) (gN al) (gN bl) (gI stl) opl p 64 op1) := by
 have hF0 := hF
 have hsb0 := hsb
 have hst0 := hst
 have hhs0 := hhs
 have hn1 := hV.n1
 have hm1 := hV.m1
 have hla := hH.la
 have hlb := hH.lb
 have hT := Stp.refl [3, 7] w₀ (colE C)
 replace hF := hF.colE
 replace hsb := hsb.colE (by decide)
 replace hst := hst.colE (by decide)
 replace hhs := hhs.colE (by decide)
 replace ha : RV w₀ (Mc (colE C)) al va := by rw [Mc_colE]; exact ha
 replace hb : RV w₀ (Mc (colE C)) bl vb := by rw [Mc_colE]; exact hb
 replace hbm : RM w₀ (Mc (colE C)) kvC vvP mm (.map (some bm)) := by rw [Mc_colE]; exact hbm
 replace hob : RA w₀ (Mc (colE C)) ogr ob 0 := by rw [Mc_colE]; exact hob
 replace hB := hB.mc (Mc_colE C)
 refine calls_start (c := F27.c0) (N := 20) [.pointer (some ⟨sb, 0, none⟩), .int .i64 p] Try.func27 (by kernel_rfl) (by kernel_rfl) (by kernel_rfl) ?_
 show Run _ _ _ _ [(0, .pointer (some ⟨sb, 0, none⟩)), (1, .int .i64 p)] _ _
 refine run_sq ?_
 refine run_pl [yy 0] ?_
 refine yV (kq 5 (.move (.const (.int .i64 0)))) (fun _ => val_move rfl) ?_
 refine Sch.nil ?_
 refine run_bk 0 ?_
 
 refine run_lp (ι := Nat × (List Bool) × (Nat → Nat)) (I := fun x w => x.1 ≤ 64 ∧ LookI n m (pos (edW l)) (gN al) (gN bl) (gI stl) opl p x.1 x.2.1 ∧ Lim w x.2.2 ∧ Stp [3, 7] w₀ (colE C) w x.2.2 ∧ OwnB w x.2.2 3 sb (.cells (seC va vb (.map (some bm)) (.pointer (some ⟨ob, 0, none⟩)) vst vhs x.2.1).toArray 63) ∧ OwnL w x.2.2 4 3 vst stl ∧ OwnL w x.2.2 5 3 vhs hou ∧ RV w (Mc x.2.2) al va ∧ RV w (Mc x.2.2) bl vb ∧ RM w (Mc x.2.2) kvC vvP mm (.map (some bm)) ∧ BlkM w x.2.2 n m (pos (edW l)) (gN al) (gN bl) mm ∧ RA w (Mc x.2.2) ogr ob 0) (e := fun x => [(0, .pointer (some ⟨sb, 0, none⟩)), (1, .int .i64 p), (5, .int .i64 x.1)]) (m := fun x => 64 - x.1) (x₀ := (0, opl, colE C)) (sr 0 (sr 1 (sr 5 (sub_nil _)))) ?_ ?_
 · exact ⟨Nat.zero_le _, (LookI.start hop), hF, hT, hsb, hst, hhs, ha, hb, hbm, hB, hob⟩
 intro ⟨q, op1, C1⟩ w1 hI next
 obtain ⟨hq, hL, hF, hT, hsb, hst, hhs, ha, hb, hbm, hB, hob⟩ := hI
 try simp only at hq hL hF hT hsb hst hhs ha hb hbm hB hob
 have next1 := next
 clear next
 show Run _ _ _ _ [(0, .pointer (some ⟨sb, 0, none⟩)), (1, .int .i64 p), (5, .int .i64 q)] _ _
 refine run_sq ?_
 refine run_pl [yy 0] ?_
 refine yV (kq 6 (.binOp .lss 3 (.tmp 5) (.const (.int .i64 64)) 3)) (fun _ => val_lss rfl rfl) ?_
 refine Sch.nil ?_
 refine run_sq ?_
 refine run_i 6 rfl (fun h6 => ?_) (fun h6 => ?_)
 ·
  have hq64 : q < 64 := by omega
  refine run_sk ?_
  refine run_sq ?_
  refine run_bk 1 ?_
  refine run_sq ?_
  refine run_pl [yy 0, yy 1] ?_
  refine yM 7 5 ?_
  refine yA 4 7 ?_
  refine Sch.nil ?_
  refine run_draw (id := 3) (ops := F27.o3) [] (C1) [yy 0, yy 1, yy 2, yy 3, yy 4, yy 5, yy 7, yy 8, yy 9, nn 6, yy 10, nn 11] Try_mixed (by kernel_rfl) (by kernel_rfl) (by kernel_rfl) ?_
  intro w2 hs
  replace hF := hF.st hs
  replace hT := hT.t hs; replace hsb := hsb.t hs; replace hst := hst.t hs; replace hhs := hhs.t hs; replace ha := ha.t hs; replace hb := hb.t hs; replace hbm := hbm.t hs; replace hB := hB.t hs; replace hob := hob.t hs
  have hR := Stp.refl [] w2 (C1)
  refine yM 8 0 ?_
  refine yM 9 1 ?_
  refine yM 10 4 ?_
  refine yM 11 0 ?_
  refine yM 12 1 ?_
  refine yM 13 4 ?_
  refine yN 15 8 ?_
  refine yF 16 63 15 6 6 ?_
  refine yV (kq 17 (.indexAddr 61 (.tmp 16) (.tmp 9))) (fun _ => val_indexArr (n := 64) (o' := 6 + p * 64) Try.underlying61 (by kernel_rfl) rfl rfl (by omega) (by omega) (by omega)) ?_
  refine cS (kq 14 (.call { callee := .value (.func 41), args := #[(.tmp 11), (.tmp 12), (.tmp 13)], argTypes := #[56, 3, 3] })) rfl rfl (ent Try.call41 rfl) (fits_ok (opl := op1) hF hV hH hsb hst hhs ha hb hbm hB hob hG hsl hhl hL.1 (hpre q)) ?_
  rintro vw3 w3 ⟨bb, rfl, hs, hbb⟩
  refine ⟨(hR.trans hs (by simp)).ext, ?_⟩
  replace hF := hF.st hs
  replace hT := hT.t hs; replace hsb := hsb.t hs; replace hst := hst.t hs; replace hhs := hhs.t hs; replace ha := ha.t hs; replace hb := hb.t hs; replace hbm := hbm.t hs; replace hB := hB.t hs; replace hob := hob.t hs; replace hR := hR.t hs
  refine yV (kq 18 (.indexAddr 60 (.tmp 17) (.tmp 10))) (fun _ => val_indexArr (n := 1) (o' := 6 + (p * 64 + q)) Try.underlying60 (by kernel_rfl) rfl rfl (by omega) (by omega) (by omega)) ?_
  refine Sch.free rfl ?_
  have hol := hL.1
  refine aN (k0 (.store 4 (.tmp 18) (.tmp 14))) rfl (a_store1 rfl rfl (by kernel_rfl) rfl rfl hsb (by rw [seC_len]; omega)) ?_
  rintro _ w4 ⟨rfl, hs, hsb⟩
  refine ⟨trivial, ?_⟩
  rw [seC_set] at hsb
  replace hF := hF.st hs
  replace hT := hT.t hs; replace hst := hst.t hs; replace hhs := hhs.t hs; replace ha := ha.t hs; replace hb := hb.t hs; replace hbm := hbm.t hs; replace hB := hB.t hs; replace hob := hob.t hs
  refine Sch.nil ?_
  refine run_inBlock ?_
  refine run_pl [yy 0, yy 1] ?_
  refine yV (kq 19 (.binOp .add 3 (.tmp 5) (.const (.int .i64 1)) 3)) (fun _ => val_addi rfl rfl (by omega) (by omega)) ?_
  refine yM 5 19 ?_
  refine Sch.nil ?_
  refine kp (sub_cons 0 rfl rfl (sub_cons 1 rfl rfl (sub_cons 5 rfl (eq_int (by simp)) (sub_nil _)))) (next1 (q + 1, op1.set (p * 64 + q) bb, C1) _ ⟨(by first | omega | (simp only; omega)), (hL.next hp hq64 hbb), hF, hT, hsb, hst, hhs, ha, hb, hbm, hB, hob⟩ (by first | omega | (simp only; omega)))
 ·
  have hq64 : q = 64 := by omega
  refine run_ex 0 ?_
  refine run_end0 Try.func27 rfl ?_
  subst hq64
  exact ⟨op1, rfl, hT.outJ (by decide), hsb.back hsb0, hL⟩
namespace F43
noncomputable def c0 := bodyOf Try.f43
end F43
theorem open_ok {w : World} {C : Nat → Nat} {j b2 sb bm ob p q : Nat} {va vb vst vhs : Value} {opl : List Bool} (h2 : RA w (Mc C) (⟨.pointer (some ⟨sb, 0, none⟩)⟩ : Sv) b2 0) (hsb : OwnB w C j sb (.cells (seC va vb (.map (some bm)) (.pointer (some ⟨ob, 0, none⟩)) vst vhs opl).toArray 63)) (hop : opl.length = 4096) (hp : p < 64) (hq : q < 64) :
    Calls Try.prog 43 #[.int .i64 p, .int .i64 q, .pointer (some ⟨b2, 0, none⟩)] w (Ret fun v w' => v = .bool (opB opl p q) ∧ w' = w) := by
 refine calls_start (c := F43.c0) (N := 14) [.int .i64 p, .int .i64 q, .pointer (some ⟨b2, 0, none⟩)] Try.func43 (by kernel_rfl) (by kernel_rfl) (by kernel_rfl) ?_
 show Run _ _ _ _ [(0, .int .i64 p), (1, .int .i64 q), (2, .pointer (some ⟨b2, 0, none⟩))] _ _
 refine run_sq ?_
 refine run_pl [yy 0] ?_
 refine yAc 5 (.bool false) ?_
 refine Sch.nil ?_
 refine run_sq ?_
 refine run_pl [nn 0, yy 1, yy 2, yy 3, yy 4, yy 5, yy 6, nn 7, yy 8] ?_
 refine lN (kq 6 (.load 56 (.tmp 2))) rfl rfl trivial h2 (by kernel_rfl) rfl rfl ?_
 intro v6 g6
 obtain ⟨e6, _⟩ := rv_sv.1 g6
 subst e6
 refine yM 7 0 ?_
 refine yM 8 1 ?_
 refine yN 9 6 ?_
 refine yF 10 63 9 6 6 ?_
 refine yV (kq 11 (.indexAddr 61 (.tmp 10) (.tmp 7))) (fun _ => val_indexArr (n := 64) (o' := 6 + p * 64) Try.underlying61 (by kernel_rfl) rfl rfl (by omega) (by omega) (by omega)) ?_
 refine yV (kq 12 (.indexAddr 60 (.tmp 11) (.tmp 8))) (fun _ => val_indexArr (n := 1) (o' := 6 + (p * 64 + q)) Try.underlying60 (by kernel_rfl) rfl rfl (by omega) (by omega) (by omega)) ?_
 refine nS (kq 13 (.load 4 (.tmp 12))) rfl rfl trivial (val_loadOwn hsb.at_ (by kernel_rfl) (seC_at (k := p * 64 + q) (by omega)) rfl) ?_
 refine yA 5 13 ?_
 refine Sch.nil ?_
 refine run_ret1 (by kernel_rfl) Try.func43 Try.results43 rfl ?_
 exact ⟨by rw [show opB opl p q = opl[p * 64 + q]'(by omega) from getD_in _], rfl⟩
namespace F25
noncomputable def c0 := bodyOf Try.f25
noncomputable def c8 := (cl (cr (cr (cl (cr c0)))))
end F25
/-- The gain of two households. -/
theorem gain_ok {w : World} {C : Nat → Nat} {j b2 sb bm n m p q : Nat} {l : List K.Edge} {al bl : List Nat} {va vb vo vst vhs : Value} {mm : List (Couple × Option Nat)} {opl : List Bool} (h2 : RA w (Mc C) (⟨.pointer (some ⟨sb, 0, none⟩)⟩ : Sv) b2 0) (hsb : OwnB w C j sb (.cells (seC va vb (.map (some bm)) vo vst vhs opl).toArray 63))
    (hbm : RM w (Mc C) kvC vvP mm (.map (some bm))) (hB : BlkM w C n m (pos (edW l)) (gN al) (gN bl) mm) :
    Calls Try.prog 25 #[.int .i64 p, .int .i64 q, .pointer (some ⟨b2, 0, none⟩)] w (Ret fun v w' => v = .int .i64 (Tb n m (pos (edW l)) (gN al) (gN bl) p q) ∧ w' = w) := by
 refine calls_start (c := F25.c0) (N := 24) [.int .i64 p, .int .i64 q, .pointer (some ⟨b2, 0, none⟩)] Try.func25 (by kernel_rfl) (by kernel_rfl) (by kernel_rfl) ?_
 show Run _ _ _ _ [(0, .int .i64 p), (1, .int .i64 q), (2, .pointer (some ⟨b2, 0, none⟩))] _ _
 refine run_sq ?_
 refine run_pl [yy 0] ?_
 refine yAc 5 (.int .i64 0) ?_
 refine Sch.nil ?_
 refine run_sq ?_
 refine run_sq ?_
 by_cases hA : 0 < Tb n m (pos (edW l)) (gN al) (gN bl) p q
 ·
  refine run_pl [nn 0, yy 1, yy 2, nn 3, yy 4, yy 5, yy 6, nn 7, yy 8] ?_
  obtain ⟨o0, ho0⟩ := Option.isSome_iff_exists.1 ((hB.key p q).2 hA)
  obtain ⟨bx, rfl⟩ := Option.isSome_iff_exists.1 (hB.some_ p q o0 ho0)
  have hBx : mget mm (⟨p, q⟩ : Couple) = some (some bx) := ho0
  obtain ⟨gr, Ub, Vb, hx, hGb⟩ := hB.blk p q bx ho0
  refine lN (kq 7 (.load 56 (.tmp 2))) rfl rfl trivial h2 (by kernel_rfl) rfl rfl ?_
  intro v7 g7
  obtain ⟨e7, _⟩ := rv_sv.1 g7
  subst e7
  refine yN 8 7 ?_
  refine yF 9 63 8 2 2 ?_
  refine nS (kq 10 (.load 57 (.tmp 9))) rfl rfl trivial (val_loadOwn hsb.at_ (by kernel_rfl) rfl rfl) ?_
  refine yM 11 0 ?_
  refine yM 12 1 ?_
  refine yV (kq 13 (.build 67 #[(0, (.tmp 11)), (1, (.tmp 12))])) (fun _ => val_build (zs := [.int .i64 0, .int .i64 0]) (ps := [(0, 1), (1, 1)]) (qs := [(0, [.int .i64 p]), (1, [.int .i64 q])]) (cs := [.int .i64 p, .int .i64 q]) (by kernel_rfl) (by kernel_rfl) (by exact ⟨rfl, ⟨_, rfl, rfl⟩, rfl, ⟨_, rfl, rfl⟩, trivial⟩) rfl) ?_
  refine nS (kq 14 (.lookup 57 (.tmp 10) (.tmp 13) false)) rfl rfl trivial (val_is (hbm.lookup (z0 := (none : Option Nat)) (k := (⟨p, q⟩ : Couple)) Try.underlying57 (keyOK_couple Try.underlying67 (by decide) (by decide) (by kernel_rfl) Try.underlying3) Try.zeroValue65 rfl rfl) (show _ = Value.pointer (some ⟨bx, 0, none⟩) from by rw [hBx]; rfl)) ?_
  refine yA 6 14 ?_
  refine Sch.nil ?_
  refine run_sq ?_
  refine run_pl [yy 0, yy 1] ?_
  refine yM 15 6 ?_
  refine yV (kq 16 (.binOp .neq 65 (.tmp 15) (.const (.pointer none)) 65)) (fun _ => val_ptrNotNil rfl ⟨_, Try.underlying65⟩) ?_
  refine Sch.nil ?_
  refine run_cT 16 ?_
  refine run_sq ?_
  refine run_pl [yy 0, yy 1, yy 2, nn 3, yy 4, yy 5, nn 6, yy 7] ?_
  refine yM 17 6 ?_
  refine yN 18 17 ?_
  have h19 := RA.bg hx
  refine yF 19 72 18 2 2 ?_
  refine lN (kq 20 (.load 59 (.tmp 19))) rfl rfl trivial h19 (by kernel_rfl) rfl rfl ?_
  intro v20 g20
  obtain ⟨bhgb, rfl, hgb⟩ := rv_ptr.1 g20
  refine yN 21 20 ?_
  have h22 := RA.gT hgb
  refine yF 22 70 21 4 4 ?_
  refine lN (kq 23 (.load 3 (.tmp 22))) rfl rfl trivial h22 (by kernel_rfl) rfl rfl ?_
  intro v23 g23
  first | (obtain rfl := rv_nat.1 g23) | (obtain rfl := rv_int.1 g23)
  have hgt := hGb.top
  rw [pos_bw] at hgt
  rw [show gr.tot = Tb n m (pos (edW l)) (gN al) (gN bl) p q from hgt]
  refine yA 5 23 ?_
  refine Sch.nil ?_
  refine run_ret1 (by kernel_rfl) Try.func25 Try.results25 rfl ?_
  exact ⟨rfl, rfl⟩
 ·
  refine run_pl [nn 0, yy 1, yy 2, nn 3, yy 4, yy 5, yy 6, nn 7, yy 8] ?_
  have hBn : mget mm (⟨p, q⟩ : Couple) = none := by
    cases e : mget mm (⟨p, q⟩ : Couple) with
    | none => rfl
    | some o0 => exact absurd ((hB.key p q).1 (by rw [e]; rfl)) hA
  refine lN (kq 7 (.load 56 (.tmp 2))) rfl rfl trivial h2 (by kernel_rfl) rfl rfl ?_
  intro v7 g7
  obtain ⟨e7, _⟩ := rv_sv.1 g7
  subst e7
  refine yN 8 7 ?_
  refine yF 9 63 8 2 2 ?_
  refine nS (kq 10 (.load 57 (.tmp 9))) rfl rfl trivial (val_loadOwn hsb.at_ (by kernel_rfl) rfl rfl) ?_
  refine yM 11 0 ?_
  refine yM 12 1 ?_
  refine yV (kq 13 (.build 67 #[(0, (.tmp 11)), (1, (.tmp 12))])) (fun _ => val_build (zs := [.int .i64 0, .int .i64 0]) (ps := [(0, 1), (1, 1)]) (qs := [(0, [.int .i64 p]), (1, [.int .i64 q])]) (cs := [.int .i64 p, .int .i64 q]) (by kernel_rfl) (by kernel_rfl) (by exact ⟨rfl, ⟨_, rfl, rfl⟩, rfl, ⟨_, rfl, rfl⟩, trivial⟩) rfl) ?_
  refine nS (kq 14 (.lookup 57 (.tmp 10) (.tmp 13) false)) rfl rfl trivial (val_is (hbm.lookup (z0 := (none : Option Nat)) (k := (⟨p, q⟩ : Couple)) Try.underlying57 (keyOK_couple Try.underlying67 (by decide) (by decide) (by kernel_rfl) Try.underlying3) Try.zeroValue65 rfl rfl) (show _ = Value.pointer none from by rw [hBn]; rfl)) ?_
  refine yA 6 14 ?_
  refine Sch.nil ?_
  refine run_sq ?_
  refine run_pl [yy 0, yy 1] ?_
  refine yM 15 6 ?_
  refine yV (kq 16 (.binOp .neq 65 (.tmp 15) (.const (.pointer none)) 65)) (fun _ => val_ptrNotNil rfl ⟨_, Try.underlying65⟩) ?_
  refine Sch.nil ?_
  refine run_cF 16 ?_
  refine run_sk ?_
  refine run_sq ?_
  refine run_pl [yy 0] ?_
  refine yAc 5 (.int .i64 0) ?_
  refine Sch.nil ?_
  refine run_ret1 (by kernel_rfl) Try.func25 Try.results25 rfl ?_
  have h0 := tb_nonneg (N := n) (M := m) (p := p) (q := q) (w := pos (edW l)) (ha := gN al) (hb := gN bl)
  exact ⟨by rw [show Tb n m (pos (edW l)) (gN al) (gN bl) p q = 0 from by omega], rfl⟩
end Go.Proofs.Ytognfmeffnjijaa
