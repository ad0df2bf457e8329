/- Steps through functions of the program. -/
import Derived.Test.YtognfmeffnjijaaJH3
import Derived.Test.YtognfmeffnjijaaL2
import Derived.Test.YtognfmeffnjijaaJT8
set_option linter.unusedVariables false
set_option linter.unusedSimpArgs false
set_option maxRecDepth 100000
set_option maxHeartbeats 4000000
namespace Go.Proofs.Ytognfmeffnjijaa
open Go.K Go.K.Rep

namespace F41
noncomputable def c0 := bodyOf Try.f41
noncomputable def c8 := (cl (cr (cl (cr (cr c0)))))
noncomputable def c15 := (cl (cr (cr (cr (cr c0)))))
noncomputable def c22 := (cl (cr (cl (cl (cr c15)))))
noncomputable def c25 := (cr (cr (cl (cl (cr c15)))))
noncomputable def c32 := (cl (cr (cr (cl (cl c25)))))
noncomputable def c42 := (cr (cr (cr (cr (cr c0)))))
end F41
/-- 'fits'. -/
theorem fits_ok {w₀ : World} {C : Nat → Nat} {n m sb bm ob : Nat} {l : List K.Edge} {al bl : List Nat} {va vb vst vhs : Value} {mm : List (Couple × Option Nat)} {ogr : Gr} {U V : Nat → Int} {stl hou : List Int} {opl : List Bool} {p q : Nat} (hF : Lim w₀ C) (hV : VE n m l) (hH : HH n m al bl) (hsb : OwnB w₀ C 3 sb (.cells (seC va vb (.map (some bm)) (.pointer (some ⟨ob, 0, none⟩)) vst vhs opl).toArray 63)) (hst : OwnL w₀ C 4 3 vst stl) (hhs : OwnL w₀ C 5 3 vhs hou) (ha : RV w₀ (Mc C) al va) (hb : RV w₀ (Mc C) bl vb) (hbm : RM w₀ (Mc C) kvC vvP mm (.map (some bm))) (hB : BlkM w₀ C n m (pos (edW l)) (gN al) (gN bl) mm) (hob : RA w₀ (Mc C) ogr ob 0) (hG : GrIs 64 64 (Tb n m (pos (edW l)) (gN al) (gN bl)) U V ogr) (hsl : stl.length = n) (hhl : hou.length = 64) (hop : opl.length = 4096) (hpre : ∀ i, i < n → gN al i = p → -2 ≤ gI stl i ∧ (0 ≤ gI stl i → (gI stl i).toNat < m ∧ gN bl (gI stl i).toNat = q)) :
    Calls Try.prog 41 #[.pointer (some ⟨sb, 0, none⟩), .int .i64 p, .int .i64 q] w₀ (Ret fun v w' => ∃ b : Bool, v = .bool b ∧ Stp [] w₀ C w' C ∧ (b = true ↔ 0 < Tb n m (pos (edW l)) (gN al) (gN bl) p q ∧ FitP n m (pos (edW l)) (gN al) (gN bl) (gI stl) p q)) := by
 have hF0 := hF
 have hsb0 := hsb
 have hst0 := hst
 have hhs0 := hhs
 have hn1 := hV.n1
 have hm1 := hV.m1
 have hla := hH.la
 have hlb := hH.lb
 have hT := Stp.refl [7] w₀ (colE C)
 replace hF := hF.colE
 replace hsb := hsb.colE (by decide)
 replace hst := hst.colE (by decide)
 replace hhs := hhs.colE (by decide)
 replace ha : RV w₀ (Mc (colE C)) al va := by rw [Mc_colE]; exact ha
 replace hb : RV w₀ (Mc (colE C)) bl vb := by rw [Mc_colE]; exact hb
 replace hbm : RM w₀ (Mc (colE C)) kvC vvP mm (.map (some bm)) := by rw [Mc_colE]; exact hbm
 replace hob : RA w₀ (Mc (colE C)) ogr ob 0 := by rw [Mc_colE]; exact hob
 replace hB := hB.mc (Mc_colE C)
 refine calls_start (c := F41.c0) (N := 69) [.pointer (some ⟨sb, 0, none⟩), .int .i64 p, .int .i64 q] Try.func41 (by kernel_rfl) (by kernel_rfl) (by kernel_rfl) ?_
 show Run _ _ _ _ [(0, .pointer (some ⟨sb, 0, none⟩)), (1, .int .i64 p), (2, .int .i64 q)] _ _
 refine run_sq ?_
 refine run_pl [yy 0] ?_
 refine yAc 6 (.bool false) ?_
 refine Sch.nil ?_
 refine run_sq ?_
 by_cases hA : 0 < Tb n m (pos (edW l)) (gN al) (gN bl) p q
 ·
  refine run_pl [yy 0, yy 1, yy 2, nn 3, yy 4, yy 5, yy 6, nn 7, yy 8] ?_
  obtain ⟨o0, ho0⟩ := Option.isSome_iff_exists.1 ((hB.key p q).2 hA)
  obtain ⟨bx, rfl⟩ := Option.isSome_iff_exists.1 (hB.some_ p q o0 ho0)
  have hBx : mget mm (⟨p, q⟩ : Couple) = some (some bx) := ho0
  obtain ⟨gr, Ub, Vb, hx, hGb⟩ := hB.blk p q bx ho0
  refine yM 12 0 ?_
  refine yN 13 12 ?_
  refine yF 14 63 13 2 2 ?_
  refine nS (kq 15 (.load 57 (.tmp 14))) rfl rfl trivial (val_loadOwn hsb.at_ (by kernel_rfl) rfl rfl) ?_
  refine yM 16 1 ?_
  refine yM 17 2 ?_
  refine yV (kq 18 (.build 67 #[(0, (.tmp 16)), (1, (.tmp 17))])) (fun _ => val_build (zs := [.int .i64 0, .int .i64 0]) (ps := [(0, 1), (1, 1)]) (qs := [(0, [.int .i64 p]), (1, [.int .i64 q])]) (cs := [.int .i64 p, .int .i64 q]) (by kernel_rfl) (by kernel_rfl) (by exact ⟨rfl, ⟨_, rfl, rfl⟩, rfl, ⟨_, rfl, rfl⟩, trivial⟩) rfl) ?_
  refine nS (kq 19 (.lookup 57 (.tmp 15) (.tmp 18) false)) rfl rfl trivial (val_is (hbm.lookup (z0 := (none : Option Nat)) (k := (⟨p, q⟩ : Couple)) Try.underlying57 (keyOK_couple Try.underlying67 (by decide) (by decide) (by kernel_rfl) Try.underlying3) Try.zeroValue65 rfl rfl) (show _ = Value.pointer (some ⟨bx, 0, none⟩) from by rw [hBx]; rfl)) ?_
  refine yA 7 19 ?_
  refine Sch.nil ?_
  refine run_sq ?_
  refine run_sq ?_
  refine run_pl [yy 0, yy 1] ?_
  refine yM 20 7 ?_
  refine yV (kq 21 (.binOp .eql 65 (.tmp 20) (.const (.pointer none)) 65)) (fun _ => val_ptrNil rfl ⟨_, Try.underlying65⟩) ?_
  refine Sch.nil ?_
  refine run_cF 21 ?_
  refine run_sk ?_
  refine run_sq ?_
  refine run_pl [yy 0, yy 1, yy 2, nn 3, nn 4, yy 5] ?_
  refine yM 22 7 ?_
  refine yN 23 22 ?_
  have h24 := RA.bg hx
  refine yF 24 72 23 2 2 ?_
  refine lN (kq 25 (.load 59 (.tmp 24))) rfl rfl trivial h24 (by kernel_rfl) rfl rfl ?_
  intro v25 g25
  obtain ⟨bhgb, rfl, hgb⟩ := rv_ptr.1 g25
  have hml1 := memb_len (gN al) p n
  have hml2 := memb_len (gN bl) q m
  refine cS (kq 26 (.call { callee := .value (.func 26), args := #[(.tmp 25)], argTypes := #[59] })) rfl rfl (ent Try.call26 rfl) (begin_own hF hgb hGb (by omega) 7 (by decide)) ?_
  rintro vin w1 ⟨Cb, hs, hF, hin⟩
  refine ⟨trivial, ?_⟩
  replace hsb := hsb.t hs; replace hst := hst.t hs; replace hhs := hhs.t hs; replace ha := ha.t hs; replace hb := hb.t hs; replace hbm := hbm.t hs; replace hB := hB.t hs; replace hob := hob.t hs; replace hT := hT.t hs; replace hx := hx.t hs; replace h24 := h24.t hs; replace hgb := hgb.t hs
  refine yA 8 26 ?_
  refine Sch.nil ?_
  refine run_sq ?_
  refine run_sq ?_
  refine run_pl [yy 0, yy 1, yy 2, nn 3, yy 4, yy 5] ?_
  refine yM 27 7 ?_
  refine yN 28 27 ?_
  have h29 := RA.ba hx
  refine yF 29 72 28 0 0 ?_
  refine lN (kq 30 (.load 22 (.tmp 29))) rfl rfl trivial h29 (by kernel_rfl) rfl rfl ?_
  intro v30 g30
  refine yS (kq 31 (.call { callee := .builtin .len, args := #[(.tmp 30)], argTypes := #[22] })) rfl rfl (fun w' hS => g30.lenV rfl Try.underlying22 w' ) ?_
  refine yV (kq 32 (.move (.const (.int .i64 0)))) (fun _ => val_move rfl) ?_
  refine Sch.nil ?_
  refine run_bk 0 ?_
  
  refine run_lp (ι := Nat × (List Int) × (Nat → Nat)) (I := fun x w => x.1 ≤ (memb (gN al) p n).length ∧ x.2.1.length = (memb (gN al) p n).length ∧ (∀ k, k < (memb (gN al) p n).length → gI x.2.1 k = if k < x.1 then innS (memb (gN al) p n) (memb (gN bl) q m) (gI stl) k else -2) ∧ Lim w x.2.2 ∧ Stp [7] w₀ (colE C) w x.2.2 ∧ OwnB w x.2.2 3 sb (.cells (seC va vb (.map (some bm)) (.pointer (some ⟨ob, 0, none⟩)) vst vhs opl).toArray 63) ∧ OwnL w x.2.2 4 3 vst stl ∧ OwnL w x.2.2 5 3 vhs hou ∧ RV w (Mc x.2.2) al va ∧ RV w (Mc x.2.2) bl vb ∧ RM w (Mc x.2.2) kvC vvP mm (.map (some bm)) ∧ BlkM w x.2.2 n m (pos (edW l)) (gN al) (gN bl) mm ∧ RA w (Mc x.2.2) ogr ob 0 ∧ RA w (Mc x.2.2) (⟨memb (gN al) p n, memb (gN bl) q m, ⟨gr⟩⟩ : Blk) bx 0 ∧ RV w (Mc x.2.2) (memb (gN al) p n) v30 ∧ OwnL w x.2.2 7 3 vin x.2.1) (e := fun x => [(0, .pointer (some ⟨sb, 0, none⟩)), (7, .pointer (some ⟨bx, 0, none⟩)), (8, vin), (30, v30), (31, .int .i64 (memb (gN al) p n).length), (32, .int .i64 x.1)]) (m := fun x => (memb (gN al) p n).length - x.1) (x₀ := (0, List.replicate (memb (gN al) p n).length (-2), Cb)) (sr 0 (sr 7 (sr 8 (sr 30 (sr 31 (sr 32 (sub_nil _))))))) ?_ ?_
  · exact ⟨Nat.zero_le _, List.length_replicate, (fun k hk => by rw [if_neg (by omega)]; exact gI_rep hk), hF, hT, hsb, hst, hhs, ha, hb, hbm, hB, hob, hx, g30, hin⟩
  intro ⟨i, inl, C1⟩ w2 hI next
  obtain ⟨hi, hil, hin2, hF, hT, hsb, hst, hhs, ha, hb, hbm, hB, hob, hx, g30, hin⟩ := hI
  try simp only at hi hil hin2 hF hT hsb hst hhs ha hb hbm hB hob hx g30 hin
  have next1 := next
  clear next
  show Run _ _ _ _ [(0, .pointer (some ⟨sb, 0, none⟩)), (7, .pointer (some ⟨bx, 0, none⟩)), (8, vin), (30, v30), (31, .int .i64 (memb (gN al) p n).length), (32, .int .i64 i)] _ _
  have hle := g30.le
  refine run_sq ?_
  refine run_pl [yy 0] ?_
  refine yV (kq 33 (.binOp .lss 3 (.tmp 32) (.tmp 31) 3)) (fun _ => val_lss rfl rfl) ?_
  refine Sch.nil ?_
  refine run_sq ?_
  refine run_i 33 rfl (fun h33 => ?_) (fun h33 => ?_)
  ·
   have hiA : i < (memb (gN al) p n).length := by omega
   have hgA : gN (memb (gN al) p n) i = (memb (gN al) p n)[i]'hiA := getD_in hiA
   obtain ⟨hnd, hnp⟩ := memb_at hiA
   have hpr := hpre _ hnd hnp
   have hsg : gI stl (gN (memb (gN al) p n) i) = stl[gN (memb (gN al) p n) i]'(by omega) := getD_in _
   refine run_sk ?_
   refine run_sq ?_
   refine run_bk 1 ?_
   refine run_sq ?_
   refine run_pl [yy 0, yy 1, nn 2, yy 3, yy 4] ?_
   refine yM 34 32 ?_
   refine iS (e := 3) (kq 35 (.indexAddr 22 (.tmp 30) (.tmp 32))) rfl rfl g30 rfl (by kernel_rfl) rfl (by omega) (by omega) ?_
   intro b35 o35 h35
   try simp only [Int.toNat_natCast] at h35
   refine lN (kq 36 (.load 3 (.tmp 35))) rfl rfl trivial h35 (by kernel_rfl) rfl rfl ?_
   intro v36 g36
   first | (obtain rfl := rv_nat.1 g36) | (obtain rfl := rv_int.1 g36)
   rw [← hgA]
   refine yA 9 34 ?_
   refine yA 10 36 ?_
   refine Sch.nil ?_
   refine run_sq ?_
   refine run_pl [yy 0, yy 1, yy 2, nn 3, yy 4, yy 5, nn 6, yy 7] ?_
   refine yM 37 0 ?_
   refine yN 38 37 ?_
   refine yF 39 63 38 4 4 ?_
   refine nS (kq 40 (.load 22 (.tmp 39))) rfl rfl trivial (val_loadOwn hsb.at_ (by kernel_rfl) rfl rfl) ?_
   refine yM 41 10 ?_
   refine oI (e' := 3) (kq 42 (.indexAddr 22 (.tmp 40) (.tmp 41))) rfl rfl hst rfl (by kernel_rfl) rfl (by omega) (by omega) ?_
   intro g42 hg42
   try simp only [Int.toNat_natCast]
   refine oN (kq 43 (.load 3 (.tmp 42))) rfl rfl trivial hst hg42 (by omega) (by kernel_rfl) rfl rfl ?_
   intro v43 g43
   try simp only [Int.toNat_natCast] at g43
   first | (obtain rfl := rv_nat.1 g43) | (obtain rfl := rv_int.1 g43)
   rw [← hsg]
   obtain ⟨s, hs0⟩ : ∃ s, s = gI stl (gN (memb (gN al) p n) i) := ⟨_, rfl⟩
   rw [← hs0] at hpr
   rw [← hs0]
   have hss : innS (memb (gN al) p n) (memb (gN bl) q m) (gI stl) i = if 0 ≤ s then (((memb (gN bl) q m).idxOf s.toNat : Nat) : Int) else s := by unfold innS; rw [← hs0]
   refine yA 11 43 ?_
   refine Sch.nil ?_
   refine run_bk 2 ?_
   refine run_sq ?_
   refine run_pl [yy 0, yy 1, yy 2] ?_
   refine yM 45 11 ?_
   refine yV (kq 46 (.binOp .geq 3 (.tmp 45) (.const (.int .i64 0)) 3)) (fun _ => val_geq rfl rfl) ?_
   refine yA 44 46 ?_
   refine Sch.nil ?_
   refine run_i 44 rfl (fun h44 => ?_) (fun h44 => ?_)
   ·
    have hmq : s.toNat ∈ memb (gN bl) q m := memb_mem.2 (hpr.2 h44)
    have hss2 : (((memb (gN bl) q m).idxOf s.toNat : Nat) : Int) = innS (memb (gN al) p n) (memb (gN bl) q m) (gI stl) i := by rw [hss, if_pos h44]
    refine run_pl [yy 0, yy 1, yy 2, yy 3, yy 4, nn 5, yy 6, nn 7, yy 8, nn 9] ?_
    refine yM 47 8 ?_
    refine yM 48 9 ?_
    refine yM 49 7 ?_
    refine yN 50 49 ?_
    have h51 := RA.bb hx
    refine yF 51 72 50 1 1 ?_
    refine lN (kq 52 (.load 22 (.tmp 51))) rfl rfl trivial h51 (by kernel_rfl) rfl rfl ?_
    intro v52 g52
    refine yM 53 11 ?_
    refine cS (kq 54 (.call { callee := .value (.func 55), args := #[(.tmp 52), (.tmp 53)], argTypes := #[22, 3] })) rfl rfl (ent Try.call55 rfl) (indexI_ok g52.ints) ?_
    rintro vw3 w3 ⟨rfl, rfl⟩
    rw [show s = ((s.toNat : Nat) : Int) from by omega, ixI_nat hmq]
    refine ⟨trivial, ?_⟩
    refine oI (e' := 3) (kq 55 (.indexAddr 22 (.tmp 47) (.tmp 48))) rfl rfl hin rfl (by kernel_rfl) rfl (by omega) (by omega) ?_
    intro g55 hg55
    try simp only [Int.toNat_natCast]
    refine aN (k0 (.store 3 (.tmp 55) (.tmp 54))) rfl (a_storeO hin hg55 (by omega) rfl rfl (by kernel_rfl) (rv_int.2 rfl)) ?_
    rintro _ w4 ⟨rfl, hs, hin⟩
    refine ⟨trivial, ?_⟩
    replace hF := hF.st hs
    replace hT := hT.t hs; replace hsb := hsb.t hs; replace hst := hst.t hs; replace hhs := hhs.t hs; replace ha := ha.t hs; replace hb := hb.t hs; replace hbm := hbm.t hs; replace hB := hB.t hs; replace hob := hob.t hs; replace hx := hx.t hs; replace g30 := g30.t hs; replace h35 := h35.t hs; replace h51 := h51.t hs; replace g52 := g52.t hs
    refine Sch.nil ?_
    refine run_inBlock ?_
    refine run_inBlock ?_
    refine run_pl [yy 0, yy 1] ?_
    refine yV (kq 62 (.binOp .add 3 (.tmp 32) (.const (.int .i64 1)) 3)) (fun _ => val_addi rfl rfl (by omega) (by omega)) ?_
    refine yM 32 62 ?_
    refine Sch.nil ?_
    refine kp (sub_cons 0 rfl rfl (sub_cons 7 rfl rfl (sub_cons 8 rfl rfl (sub_cons 30 rfl rfl (sub_cons 31 rfl rfl (sub_cons 32 rfl (eq_int (by simp)) (sub_nil _))))))) (next1 (i + 1, inl.set i (((memb (gN bl) q m).idxOf s.toNat : Nat) : Int), C1) _ ⟨(by first | omega | (simp only; omega)), (by simp only [List.length_set]; exact hil), (inn_set hil hiA hin2 hss2), hF, hT, hsb, hst, hhs, ha, hb, hbm, hB, hob, hx, g30, hin⟩ (by first | omega | (simp only; omega)))
   ·
    refine run_sq ?_
    refine run_pl [yy 0, yy 1, yy 2] ?_
    refine yM 57 11 ?_
    refine yV (kq 58 (.binOp .eql 3 (.tmp 57) (.const (.int .i64 (-1))) 3)) (fun _ => val_eql rfl rfl) ?_
    refine yA 56 58 ?_
    refine Sch.nil ?_
    refine run_i 56 rfl (fun h56 => ?_) (fun h56 => ?_)
    ·
     have hss2 : (-1 : Int) = innS (memb (gN al) p n) (memb (gN bl) q m) (gI stl) i := by rw [hss, if_neg h44]; omega
     refine run_pl [yy 0, yy 1, yy 2, nn 3] ?_
     refine yM 59 8 ?_
     refine yM 60 9 ?_
     refine oI (e' := 3) (kq 61 (.indexAddr 22 (.tmp 59) (.tmp 60))) rfl rfl hin rfl (by kernel_rfl) rfl (by omega) (by omega) ?_
     intro g61 hg61
     try simp only [Int.toNat_natCast]
     refine aN (k0 (.store 3 (.tmp 61) (.const (.int .i64 (-1))))) rfl (a_storeO hin hg61 (by omega) rfl rfl (by kernel_rfl) (rv_int.2 rfl)) ?_
     rintro _ w5 ⟨rfl, hs, hin⟩
     refine ⟨trivial, ?_⟩
     replace hF := hF.st hs
     replace hT := hT.t hs; replace hsb := hsb.t hs; replace hst := hst.t hs; replace hhs := hhs.t hs; replace ha := ha.t hs; replace hb := hb.t hs; replace hbm := hbm.t hs; replace hB := hB.t hs; replace hob := hob.t hs; replace hx := hx.t hs; replace g30 := g30.t hs; replace h35 := h35.t hs
     refine Sch.nil ?_
     refine run_inBlock ?_
     refine run_inBlock ?_
     refine run_pl [yy 0, yy 1] ?_
     refine yV (kq 62 (.binOp .add 3 (.tmp 32) (.const (.int .i64 1)) 3)) (fun _ => val_addi rfl rfl (by omega) (by omega)) ?_
     refine yM 32 62 ?_
     refine Sch.nil ?_
     refine kp (sub_cons 0 rfl rfl (sub_cons 7 rfl rfl (sub_cons 8 rfl rfl (sub_cons 30 rfl rfl (sub_cons 31 rfl rfl (sub_cons 32 rfl (eq_int (by simp)) (sub_nil _))))))) (next1 (i + 1, inl.set i (-1), C1) _ ⟨(by first | omega | (simp only; omega)), (by simp only [List.length_set]; exact hil), (inn_set hil hiA hin2 hss2), hF, hT, hsb, hst, hhs, ha, hb, hbm, hB, hob, hx, g30, hin⟩ (by first | omega | (simp only; omega)))
    ·
     have hss2 : innS (memb (gN al) p n) (memb (gN bl) q m) (gI stl) i = -2 := by rw [hss, if_neg h44]; have := hpr.1; omega
     refine run_sk ?_
     refine run_inBlock ?_
     refine run_inBlock ?_
     refine run_pl [yy 0, yy 1] ?_
     refine yV (kq 62 (.binOp .add 3 (.tmp 32) (.const (.int .i64 1)) 3)) (fun _ => val_addi rfl rfl (by omega) (by omega)) ?_
     refine yM 32 62 ?_
     refine Sch.nil ?_
     refine kp (sub_cons 0 rfl rfl (sub_cons 7 rfl rfl (sub_cons 8 rfl rfl (sub_cons 30 rfl rfl (sub_cons 31 rfl rfl (sub_cons 32 rfl (eq_int (by simp)) (sub_nil _))))))) (next1 (i + 1, inl, C1) _ ⟨(by first | omega | (simp only; omega)), (by first | omega | (simp only; omega)), (inn_same hiA hin2 hss2), hF, hT, hsb, hst, hhs, ha, hb, hbm, hB, hob, hx, g30, hin⟩ (by first | omega | (simp only; omega)))
  ·
   have hiA : i = (memb (gN al) p n).length := by omega
   refine run_ex 0 ?_
   refine run_sq ?_
   refine run_pl [yy 0, yy 1, yy 2, nn 3, yy 4, nn 5, yy 6] ?_
   refine yM 63 7 ?_
   refine yN 64 63 ?_
   have h65 := RA.bg hx
   refine yF 65 72 64 2 2 ?_
   refine lN (kq 66 (.load 59 (.tmp 65))) rfl rfl trivial h65 (by kernel_rfl) rfl rfl ?_
   intro v66 g66
   obtain ⟨bhgc, rfl, hgc⟩ := rv_ptr.1 g66
   refine yM 67 8 ?_
   have hin3 : ∀ k, k < (memb (gN al) p n).length → gI inl k = innS (memb (gN al) p n) (memb (gN bl) q m) (gI stl) k := fun k hk => by rw [hin2 k hk, if_pos (by omega)]
   have hbnd : ∀ k, k < (memb (gN al) p n).length → -2 ≤ gI inl k ∧ gI inl k < (memb (gN bl) q m).length := fun k hk => by
     obtain ⟨h1, h2⟩ := memb_at hk
     have h3 := hpre _ h1 h2
     rw [hin3 k hk]; unfold innS
     split
     · rename_i h0
       have := idx_lt (memb_mem.2 (h3.2 h0))
       omega
     · omega
   have hml1 := memb_len (gN al) p n
   have hml2 := memb_len (gN bl) q m
   refine cS (kq 68 (.call { callee := .value (.func 34), args := #[(.tmp 66), (.tmp 67), (.const .nilFunc)], argTypes := #[59, 22, 76] })) rfl rfl (ent Try.call34 rfl) (feasible_ok (hF.frz 7) hGb (hgc.frz 7) (hin.frz (n := 7) (by decide) (by omega)) hil (fun k hk => (hbnd k hk).1) (fun k hk => (hbnd k hk).2) (by omega) (by omega)) ?_
   rintro vw6 w6 ⟨bb, rfl, hs0, hbb⟩
   have hs := hs0.unfrz (C1)
   refine ⟨trivial, ?_⟩
   replace hF := hF.st hs
   replace hT := hT.t hs; replace hsb := hsb.t hs; replace hst := hst.t hs; replace hhs := hhs.t hs; replace ha := ha.t hs; replace hb := hb.t hs; replace hbm := hbm.t hs; replace hB := hB.t hs; replace hob := hob.t hs; replace hx := hx.t hs; replace g30 := g30.t hs; replace hin := hin.t hs; replace h65 := h65.t hs; replace hgc := hgc.t hs
   refine yA 6 68 ?_
   refine Sch.nil ?_
   refine run_ret1 (by kernel_rfl) Try.func41 Try.results41 rfl ?_
   exact ⟨bb, rfl, hT.outJ (by decide), ⟨fun e => ⟨hA, (fit_ask hGb hpre hin3).1 (hbb.1 e)⟩, fun e => hbb.2 ((fit_ask hGb hpre hin3).2 e.2)⟩⟩
 ·
  refine run_pl [yy 0, yy 1, yy 2, nn 3, yy 4, yy 5, yy 6, nn 7, yy 8] ?_
  have hBn : mget mm (⟨p, q⟩ : Couple) = none := by
    cases e : mget mm (⟨p, q⟩ : Couple) with
    | none => rfl
    | some o0 => exact absurd ((hB.key p q).1 (by rw [e]; rfl)) hA
  refine yM 12 0 ?_
  refine yN 13 12 ?_
  refine yF 14 63 13 2 2 ?_
  refine nS (kq 15 (.load 57 (.tmp 14))) rfl rfl trivial (val_loadOwn hsb.at_ (by kernel_rfl) rfl rfl) ?_
  refine yM 16 1 ?_
  refine yM 17 2 ?_
  refine yV (kq 18 (.build 67 #[(0, (.tmp 16)), (1, (.tmp 17))])) (fun _ => val_build (zs := [.int .i64 0, .int .i64 0]) (ps := [(0, 1), (1, 1)]) (qs := [(0, [.int .i64 p]), (1, [.int .i64 q])]) (cs := [.int .i64 p, .int .i64 q]) (by kernel_rfl) (by kernel_rfl) (by exact ⟨rfl, ⟨_, rfl, rfl⟩, rfl, ⟨_, rfl, rfl⟩, trivial⟩) rfl) ?_
  refine nS (kq 19 (.lookup 57 (.tmp 15) (.tmp 18) false)) rfl rfl trivial (val_is (hbm.lookup (z0 := (none : Option Nat)) (k := (⟨p, q⟩ : Couple)) Try.underlying57 (keyOK_couple Try.underlying67 (by decide) (by decide) (by kernel_rfl) Try.underlying3) Try.zeroValue65 rfl rfl) (show _ = Value.pointer none from by rw [hBn]; rfl)) ?_
  refine yA 7 19 ?_
  refine Sch.nil ?_
  refine run_sq ?_
  refine run_sq ?_
  refine run_pl [yy 0, yy 1] ?_
  refine yM 20 7 ?_
  refine yV (kq 21 (.binOp .eql 65 (.tmp 20) (.const (.pointer none)) 65)) (fun _ => val_ptrNil rfl ⟨_, Try.underlying65⟩) ?_
  refine Sch.nil ?_
  refine run_cT 21 ?_
  refine run_sq ?_
  refine run_pl [yy 0] ?_
  refine yAc 6 (.bool false) ?_
  refine Sch.nil ?_
  refine run_ret1 (by kernel_rfl) Try.func41 Try.results41 rfl ?_
  exact ⟨false, rfl, hT.outJ (by decide), ⟨fun e => (by cases e), fun e => absurd e.1 hA⟩⟩
end Go.Proofs.Ytognfmeffnjijaa
