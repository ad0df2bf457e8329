/- Steps through functions of the program. -/
import Derived.Test.YtgooehopkmbkfaaJD3
import Derived.Test.YtgooehopkmbkfaaL2
set_option linter.unusedVariables false
set_option linter.unusedSimpArgs false
set_option maxRecDepth 100000
set_option maxHeartbeats 4000000
namespace Go.Proofs.Ytgooehopkmbkfaa
open Go.K Go.K.Rep

/-- The reference's solver and its lists. -/
structure SQ (w : World) (C : Nat → Nat) (sb k : Nat) (xk xu xv xr : Value) (kl : List (List Int)) (ul vl : List Int) (rl : List Nat) : Prop where
  hsb : OwnB w C 3 sb (.cells [.int .i64 k, xk, xu, xv, xr].toArray 80)
  hW : RV w (Mc C) kl xk
  hu : OwnL w C 4 3 xu ul
  hv : OwnL w C 5 3 xv vl
  hr : OwnL w C 6 3 xr rl
  lens : ul.length = k + 1 ∧ vl.length = k + 1 ∧ rl.length = k + 1

namespace F54
noncomputable def c0 := bodyOf Try.f54
noncomputable def c9 := (cl (cr (cr (cr (cr c0)))))
noncomputable def c10 := (cr (cr (cr (cr (cr c0)))))
noncomputable def c16 := (cl (cl (cl (cr (cl c10)))))
noncomputable def c21 := (cr (cl (cl (cr (cl c10)))))
noncomputable def c29 := (cl (cl (cl (cl (cr c10)))))
noncomputable def c34 := (cr (cl (cl (cl (cr c10)))))
noncomputable def c42 := (cl (cr (cr (cr (cl c34)))))
noncomputable def c48 := (cl (cl (cl (cl (cr c42)))))
noncomputable def c49 := (cr (cl (cl (cl (cr c42)))))
noncomputable def c53 := (cl (cr (cl (cl (cr c42)))))
noncomputable def o17 := rops (cl (cr (cl c53)))
noncomputable def c64 := (cl (cl (cr (cr (cl c53)))))
noncomputable def c65 := (cr (cl (cr (cr (cl c53)))))
noncomputable def c69 := (cl (cr (cr (cr (cl c53)))))
noncomputable def c70 := (cr (cr (cr (cr (cl c53)))))
noncomputable def c73 := (cr (cr (cl (cl (cr c42)))))
noncomputable def c74 := (cr (cr (cr (cr (cl c34)))))
noncomputable def c75 := (cl c74)
noncomputable def c81 := (cl (cl (cl (cl (cr c75)))))
noncomputable def c82 := (cr (cl (cl (cl (cr c75)))))
noncomputable def c86 := (cl (cr (cl (cl (cr c75)))))
noncomputable def o26 := rops (cl (cl (cr (cl c86))))
noncomputable def c94 := (cr (cr (cl (cl (cr c75)))))
noncomputable def c99 := (cl (cl (cl (cr (cr c10)))))
noncomputable def c104 := (cr (cl (cl (cr (cr c10)))))
noncomputable def o31 := rops (cl (cl c104))
end F54
/-- The nearest column is looked for. -/
theorem sscan {κ : List Item} {R : Value → World → Prop} {w₀ : World} {C : Nat → Nat} {sb k n a i0 T : Nat} {xk xu xv xr v26 v32 v38 : Value} {kl : List (List Int)} {ul1 vl1 : List Int} {rl1 yl1 : List Nat} {cl3 : List Bool} {W : Int} {rk : Nat → Nat} {ll2 : List Int} (hF : Lim w₀ C) (hsb : OwnB w₀ C 3 sb (.cells [.int .i64 k, xk, xu, xv, xr].toArray 80)) (hW : RV w₀ (Mc C) kl xk) (hu : OwnL w₀ C 4 3 xu ul1) (hv : OwnL w₀ C 5 3 xv vl1) (hr : OwnL w₀ C 6 3 xr rl1) (hl : OwnL w₀ C 8 3 v26 ll2) (hy : OwnL w₀ C 7 3 v32 yl1) (hcc : OwnL w₀ C 9 4 v38 cl3) (hk : kl.length = k) (hkb : k ≤ 1000000) (s1 : ul1.length = k + 1) (s2 : vl1.length = k + 1) (hlr : rl1.length = k + 1) (s3 : yl1.length = k + 1) (s4 : ll2.length = k + 1) (hl3 : cl3.length = k + 1) (hrows : ∀ r ∈ kl, r.length = k) (hi2 : i0 + 1 ≤ k) (hak : a ≤ k) (hbu : ∀ r, r ≤ k → -288230376151711744 ≤ gI ul1 r ∧ gI ul1 r ≤ 0) (hbv : ∀ j, j ≤ k → -288230376151711744 ≤ gI vl1 j ∧ gI vl1 j ≤ 288230376151711744) (hLB : ∀ q, 1 ≤ q → q ≤ k → gB cl3 q = false → -288230376151711744 ≤ lS1 (cK kl) (gI ul1) (gI vl1) (gI ll2) (i0 + 1) q ∧ lS1 (cK kl) (gI ul1) (gI vl1) (gI ll2) (i0 + 1) q ≤ 576460752303423488 ∧ -288230376151711744 ≤ dS (cK kl) (gI ul1) (gI vl1) (i0 + 1) q ∧ dS (cK kl) (gI ul1) (gI vl1) (i0 + 1) q ≤ 576460752303423488)
    (hcB : ∀ r j, 1 ≤ r → r ≤ k → 1 ≤ j → j ≤ k → -288230376151711744 ≤ cK kl r j ∧ cK kl r j ≤ 0) (hLF : ∀ q, 1 ≤ q → q ≤ k → gB cl3 q = false → lS1 (cK kl) (gI ul1) (gI vl1) (gI ll2) (i0 + 1) q < 1099511627776)
    (hnext : ∀ (yl2 : List Nat) (ll3 : List Int) (dl : Int) (nx : Nat) (w' : World), Stp [7, 8] w₀ C w' C → Lim w' C → OwnB w' C 3 sb (.cells [.int .i64 k, xk, xu, xv, xr].toArray 80) → RV w' (Mc C) kl xk → OwnL w' C 4 3 xu ul1 → OwnL w' C 5 3 xv vl1 → OwnL w' C 6 3 xr rl1 → OwnL w' C 8 3 v26 ll3 → OwnL w' C 7 3 v32 yl2 → OwnL w' C 9 4 v38 cl3 → yl2.length = k + 1 → ll3.length = k + 1 → RL1 (cK kl) (gI ul1) (gI vl1) (gB cl3) (gI ll2) (gN yl1) (i0 + 1) a k (k + 1) (gI ll3) (gN yl2) → RLD (gB cl3) (lS1 (cK kl) (gI ul1) (gI vl1) (gI ll2) (i0 + 1)) 1099511627776 (k + 1) dl nx → Run Try.prog 54 201 κ [(0, .pointer (some ⟨sb, 0, none⟩)), (4, .int .i64 (a : Nat)), (5, v26), (6, v32), (7, v38), (10, .int .i64 dl), (11, .int .i64 nx)] w' R) :
    Run Try.prog 54 201 (.code F54.c42 :: κ) [(0, .pointer (some ⟨sb, 0, none⟩)), (4, .int .i64 (a : Nat)), (5, v26), (6, v32), (7, v38), (9, .int .i64 ((i0 + 1 : Nat) : Int)), (10, .int .i64 1099511627776), (11, .int .i64 0)] w₀ R := by
 have hT := Stp.refl [7, 8] w₀ C
 have hui := hbu (i0 + 1) hi2
 rw [show gI ul1 (i0 + 1) = ul1[i0 + 1]'(by omega) from getD_in _] at hui
 refine run_sq ?_
 refine run_pl [yy 0] ?_
 refine yAc 12 (.int .i64 1) ?_
 refine Sch.nil ?_
 refine run_bk 4 ?_
 
 refine run_lp (ι := Nat × (List Nat) × (List Int) × Int × Nat) (I := fun x w => x.1 ≤ k ∧ x.2.1.length = k + 1 ∧ x.2.2.1.length = k + 1 ∧ RL1 (cK kl) (gI ul1) (gI vl1) (gB cl3) (gI ll2) (gN yl1) (i0 + 1) a k (x.1 + 1) (gI x.2.2.1) (gN x.2.1) ∧ RLD (gB cl3) (lS1 (cK kl) (gI ul1) (gI vl1) (gI ll2) (i0 + 1)) 1099511627776 (x.1 + 1) x.2.2.2.1 x.2.2.2.2 ∧ Lim w C ∧ Stp [7, 8] w₀ C w C ∧ OwnB w C 3 sb (.cells [.int .i64 k, xk, xu, xv, xr].toArray 80) ∧ RV w (Mc C) kl xk ∧ OwnL w C 4 3 xu ul1 ∧ OwnL w C 5 3 xv vl1 ∧ OwnL w C 6 3 xr rl1 ∧ OwnL w C 8 3 v26 x.2.2.1 ∧ OwnL w C 7 3 v32 x.2.1 ∧ OwnL w C 9 4 v38 cl3) (e := fun x => [(0, .pointer (some ⟨sb, 0, none⟩)), (4, .int .i64 a), (5, v26), (6, v32), (7, v38), (9, .int .i64 ((i0 + 1 : Nat) : Int)), (10, .int .i64 x.2.2.2.1), (11, .int .i64 x.2.2.2.2), (12, .int .i64 ((x.1 + 1 : Nat) : Int))]) (m := fun x => k - x.1) (x₀ := (0, yl1, ll2, 1099511627776, 0)) (sr 0 (sr 4 (sr 5 (sr 6 (sr 7 (sr 9 (sr 10 (sr 11 (sr 12 (sub_nil _)))))))))) ?_ ?_
 · exact ⟨Nat.zero_le _, (by simp only; omega), (by simp only; omega), RL1.start, RLD.start, hF, hT, hsb, hW, hu, hv, hr, hl, hy, hcc⟩
 intro ⟨j0, yl2, ll3, dl, nx⟩ w1 hI next
 obtain ⟨hj, hly, hll3, hR, hD, hF, hT, hsb, hW, hu, hv, hr, hl, hy, hcc⟩ := hI
 try simp only at hj hly hll3 hR hD hF hT hsb hW hu hv hr hl hy hcc
 have next1 := next
 clear next
 show Run _ _ _ _ [(0, .pointer (some ⟨sb, 0, none⟩)), (4, .int .i64 a), (5, v26), (6, v32), (7, v38), (9, .int .i64 ((i0 + 1 : Nat) : Int)), (10, .int .i64 dl), (11, .int .i64 nx), (12, .int .i64 ((j0 + 1 : Nat) : Int))] _ _
 refine run_sq ?_
 refine run_sq ?_
 refine run_pl [yy 0, yy 1, yy 2, yy 3, nn 4, yy 5] ?_
 refine yM 68 12 ?_
 refine yM 69 0 ?_
 refine yN 70 69 ?_
 refine yF 71 80 70 0 0 ?_
 refine nS (kq 72 (.load 3 (.tmp 71))) rfl rfl trivial (val_loadOwn hsb.at_ (by kernel_rfl) rfl rfl) ?_
 refine yV (kq 73 (.binOp .leq 3 (.tmp 68) (.tmp 72) 3)) (fun _ => val_leq rfl rfl) ?_
 refine Sch.nil ?_
 refine run_i 73 rfl (fun h73 => ?_) (fun h73 => ?_)
 ·
  have hjk : j0 + 1 ≤ k := by omega
  refine run_sk ?_
  refine run_sq ?_
  refine run_bk 5 ?_
  refine run_sq ?_
  refine run_sq ?_
  refine run_pl [yy 0, yy 1, yy 2, nn 3] ?_
  refine yM 76 7 ?_
  refine yM 77 12 ?_
  refine oI (e' := 4) (kq 78 (.indexAddr 48 (.tmp 76) (.tmp 77))) rfl rfl hcc rfl (by kernel_rfl) rfl (by omega) (by omega) ?_
  intro g78 hg78
  try simp only [Int.toNat_natCast]
  refine oN (kq 79 (.load 4 (.tmp 78))) rfl rfl trivial hcc hg78 (by omega) (by kernel_rfl) rfl rfl ?_
  intro v79 g79
  try simp only [Int.toNat_natCast] at g79
  obtain rfl := rv_bool.1 g79
  refine Sch.nil ?_
  refine run_c 79 rfl (fun h79 => ?_) (fun h79 => ?_)
  ·
   have hcj : gB cl3 (j0 + 1) = true := (getD_in (by omega)).trans h79
   refine run_ex 5 ?_
   refine run_pl [yy 0, yy 1, yy 2] ?_
   refine yM 74 12 ?_
   refine yV (kq 75 (.binOp .add 3 (.tmp 74) (.const (.int .i64 1)) 3)) (fun _ => val_addi rfl rfl (by omega) (by omega)) ?_
   refine yA 12 75 ?_
   refine Sch.nil ?_
   refine kp (sub_cons 0 rfl rfl (sub_cons 4 rfl rfl (sub_cons 5 rfl rfl (sub_cons 6 rfl rfl (sub_cons 7 rfl rfl (sub_cons 9 rfl rfl (sub_cons 10 rfl rfl (sub_cons 11 rfl rfl (sub_cons 12 rfl (eq_int (by omega)) (sub_nil _)))))))))) (next1 (j0 + 1, yl2, ll3, dl, nx) _ ⟨(by first | omega | (simp only; omega)), (by first | omega | (simp only; omega)), (by first | omega | (simp only; omega)), (hR.skip hcj), (hD.skip hcj), hF, hT, hsb, hW, hu, hv, hr, hl, hy, hcc⟩ (by first | omega | (simp only; omega)))
  ·
   have hcj : gB cl3 (j0 + 1) = false := (getD_in (by omega)).trans h79
   have hvj := hbv (j0 + 1) hjk
   rw [show gI vl1 (j0 + 1) = vl1[j0 + 1]'(by omega) from getD_in _] at hvj
   have hlb := hLB (j0 + 1) (by omega) hjk hcj
   have hlf2 := hLF (j0 + 1) (by omega) hjk hcj
   have hkil : i0 < kl.length := by omega
   have hrl : (kl[i0]'hkil).length = k := hrows _ (List.getElem_mem _)
   refine run_sk ?_
   refine run_sq ?_
   refine run_draw (id := 17) (ops := F54.o17) [] (C) [yy 0, yy 1, yy 2, yy 3, yy 4, yy 5, yy 6, yy 7, yy 8, yy 9, yy 10, yy 11, yy 12, yy 13, yy 14, yy 15, yy 16, yy 17, yy 18, yy 19, yy 20, yy 21, yy 22, yy 23, yy 24, yy 25, yy 26, yy 27, yy 28] Try_mixed (by kernel_rfl) (by kernel_rfl) (by kernel_rfl) ?_
   intro w2 hs
   replace hF := hF.st hs
   replace hT := hT.t hs; replace hsb := hsb.t hs; replace hW := hW.t hs; replace hu := hu.t hs; replace hv := hv.t hs; replace hr := hr.t hs; replace hl := hl.t hs; replace hy := hy.t hs; replace hcc := hcc.t hs
   refine yM 80 0 ?_
   refine yN 81 80 ?_
   refine yF 82 80 81 1 1 ?_
   refine yS (kq 83 (.load 70 (.tmp 82))) rfl rfl (fun w' hS => val_loadOwn (hsb.sy hS) (by kernel_rfl) rfl rfl) ?_
   refine yM 84 9 ?_
   refine yV (kq 85 (.binOp .sub 3 (.tmp 84) (.const (.int .i64 1)) 3)) (fun _ => val_subi rfl rfl (by omega) (by omega)) ?_
   refine iS (e := 22) (kq 86 (.indexAddr 70 (.tmp 83) (.tmp 85))) rfl rfl hW rfl (by kernel_rfl) rfl (by omega) (by omega) ?_
   intro b86 o86 h86
   try simp only [Int.toNat_natCast] at h86
   simp only [show (((i0 + 1 : Nat) : Int) - 1).toNat = i0 from by omega] at h86
   refine lS (kq 87 (.load 22 (.tmp 86))) rfl rfl (fun w' hS => h86.sy hS) h86 (by kernel_rfl) rfl rfl ?_
   intro v87 g87
   refine yM 88 12 ?_
   refine yV (kq 89 (.binOp .sub 3 (.tmp 88) (.const (.int .i64 1)) 3)) (fun _ => val_subi rfl rfl (by omega) (by omega)) ?_
   refine iS (e := 3) (kq 90 (.indexAddr 22 (.tmp 87) (.tmp 89))) rfl rfl g87 rfl (by kernel_rfl) rfl (by omega) (by omega) ?_
   intro b90 o90 h90
   try simp only [Int.toNat_natCast] at h90
   simp only [show (((j0 + 1 : Nat) : Int) - 1).toNat = j0 from by omega] at h90
   refine lS (kq 91 (.load 3 (.tmp 90))) rfl rfl (fun w' hS => h90.sy hS) h90 (by kernel_rfl) rfl rfl ?_
   intro v91 g91
   first | (obtain rfl := rv_nat.1 g91) | (obtain rfl := rv_int.1 g91)
   obtain ⟨x, hx⟩ : ∃ x, x = (kl[i0]'hkil)[j0]'(by omega) := ⟨_, rfl⟩
   rw [← hx]
   have hcx : cK kl (i0 + 1) (j0 + 1) = x := by rw [hx]; exact cK_at (r := i0 + 1) (j := j0 + 1) (by simp only [Nat.add_sub_cancel]; omega) (by simp only [Nat.add_sub_cancel]; omega)
   have hcb := hcB (i0 + 1) (j0 + 1) (by omega) hi2 (by omega) hjk
   rw [hcx] at hcb
   refine yM 92 0 ?_
   refine yN 93 92 ?_
   refine yF 94 80 93 2 2 ?_
   refine yS (kq 95 (.load 22 (.tmp 94))) rfl rfl (fun w' hS => val_loadOwn (hsb.sy hS) (by kernel_rfl) rfl rfl) ?_
   refine yM 96 9 ?_
   refine oI (e' := 3) (kq 97 (.indexAddr 22 (.tmp 95) (.tmp 96))) rfl rfl hu rfl (by kernel_rfl) rfl (by omega) (by omega) ?_
   intro g97 hg97
   try simp only [Int.toNat_natCast]
   refine oS (I := []) (kq 98 (.load 3 (.tmp 97))) rfl rfl hu hg97 (fun w' hS => hu.sy hg97 hS) (by omega) (by kernel_rfl) rfl rfl ?_
   intro v98 g98
   try simp only [Int.toNat_natCast] at g98
   first | (obtain rfl := rv_nat.1 g98) | (obtain rfl := rv_int.1 g98)
   refine yV (kq 99 (.binOp .sub 3 (.tmp 91) (.tmp 98) 3)) (fun _ => val_subi rfl rfl (by omega) (by omega)) ?_
   refine yM 100 0 ?_
   refine yN 101 100 ?_
   refine yF 102 80 101 3 3 ?_
   refine yS (kq 103 (.load 22 (.tmp 102))) rfl rfl (fun w' hS => val_loadOwn (hsb.sy hS) (by kernel_rfl) rfl rfl) ?_
   refine yM 104 12 ?_
   refine oI (e' := 3) (kq 105 (.indexAddr 22 (.tmp 103) (.tmp 104))) rfl rfl hv rfl (by kernel_rfl) rfl (by omega) (by omega) ?_
   intro g105 hg105
   try simp only [Int.toNat_natCast]
   refine oS (I := []) (kq 106 (.load 3 (.tmp 105))) rfl rfl hv hg105 (fun w' hS => hv.sy hg105 hS) (by omega) (by kernel_rfl) rfl rfl ?_
   intro v106 g106
   try simp only [Int.toNat_natCast] at g106
   first | (obtain rfl := rv_nat.1 g106) | (obtain rfl := rv_int.1 g106)
   refine yV (kq 107 (.binOp .sub 3 (.tmp 99) (.tmp 106) 3)) (fun _ => val_subi rfl rfl (by omega) (by omega)) ?_
   refine yA 13 107 ?_
   refine Sch.nil ?_
   have hd : x - ul1[i0 + 1]'(by omega) - vl1[j0 + 1]'(by omega) = dS (cK kl) (gI ul1) (gI vl1) (i0 + 1) (j0 + 1) := by
     unfold dS; rw [hcx, show gI ul1 (i0 + 1) = ul1[i0 + 1]'(by omega) from getD_in _, show gI vl1 (j0 + 1) = vl1[j0 + 1]'(by omega) from getD_in _]
   rw [hd]
   clear hd hcx hcb hx hvj
   have hcur := hR.cur (by omega) hjk hcj
   rw [show gI ll3 (j0 + 1) = ll3[j0 + 1]'(by omega) from getD_in _] at hcur
   obtain ⟨d, hd⟩ : ∃ d, d = dS (cK kl) (gI ul1) (gI vl1) (i0 + 1) (j0 + 1) := ⟨_, rfl⟩
   rw [← hd]
   rw [← hd] at hlb
   obtain ⟨lm, hlm⟩ : ∃ lm, lm = lS1 (cK kl) (gI ul1) (gI vl1) (gI ll2) (i0 + 1) (j0 + 1) := ⟨_, rfl⟩
   rw [← hlm] at hlb hlf2
   refine run_sq ?_
   refine run_sq ?_
   refine run_pl [yy 0, yy 1, yy 2, yy 3, nn 4, yy 5] ?_
   refine yM 108 13 ?_
   refine yM 109 5 ?_
   refine yM 110 12 ?_
   refine oI (e' := 3) (kq 111 (.indexAddr 22 (.tmp 109) (.tmp 110))) rfl rfl hl rfl (by kernel_rfl) rfl (by omega) (by omega) ?_
   intro g111 hg111
   try simp only [Int.toNat_natCast]
   refine oN (kq 112 (.load 3 (.tmp 111))) rfl rfl trivial hl hg111 (by omega) (by kernel_rfl) rfl rfl ?_
   intro v112 g112
   try simp only [Int.toNat_natCast] at g112
   first | (obtain rfl := rv_nat.1 g112) | (obtain rfl := rv_int.1 g112)
   refine yV (kq 113 (.binOp .lss 3 (.tmp 108) (.tmp 112) 3)) (fun _ => val_lss rfl rfl) ?_
   refine Sch.nil ?_
   refine run_i 113 rfl (fun h113 => ?_) (fun h113 => ?_)
   ·
    have hlt : dS (cK kl) (gI ul1) (gI vl1) (i0 + 1) (j0 + 1) < gI ll2 (j0 + 1) := by rw [← hd, ← hcur]; exact h113
    have hR2 := hR.upd hcj hlt (least2 := gI (ll3.set (j0 + 1) d)) (way2 := gN (yl2.set (j0 + 1) a)) (fun q => by rw [← hd]; exact getD_set (by omega)) (fun q => getD_set (by omega))
    have hnl : (ll3.set (j0 + 1) d).length = k + 1 := by rw [List.length_set]; exact hll3
    have hny : (yl2.set (j0 + 1) a).length = k + 1 := by rw [List.length_set]; exact hly
    have hv2 : (ll3.set (j0 + 1) d)[j0 + 1]'(by omega) = lm := by rw [List.getElem_set_self, hlm]; unfold lS1; rw [if_pos hlt]; exact hd
    refine run_pl [yy 0, yy 1, yy 2, yy 3, yy 4, yy 5, yy 6, nn 7, yy 8, nn 9] ?_
    refine yM 114 5 ?_
    refine yM 115 12 ?_
    refine yM 116 6 ?_
    refine yM 117 12 ?_
    refine yM 118 13 ?_
    refine yM 119 4 ?_
    refine oI (e' := 3) (kq 120 (.indexAddr 22 (.tmp 114) (.tmp 115))) rfl rfl hl rfl (by kernel_rfl) rfl (by omega) (by omega) ?_
    intro g120 hg120
    try simp only [Int.toNat_natCast]
    refine aN (k0 (.store 3 (.tmp 120) (.tmp 118))) rfl (a_storeO hl hg120 (by omega) rfl rfl (by kernel_rfl) (rv_int.2 rfl)) ?_
    rintro _ w3 ⟨rfl, hs, hl⟩
    refine ⟨trivial, ?_⟩
    replace hF := hF.st hs
    replace hT := hT.t hs; replace hsb := hsb.t hs; replace hW := hW.t hs; replace hu := hu.t hs; replace hv := hv.t hs; replace hr := hr.t hs; replace hy := hy.t hs; replace hcc := hcc.t hs; replace h86 := h86.t hs; replace g87 := g87.t hs; replace h90 := h90.t hs
    refine oI (e' := 3) (kq 121 (.indexAddr 22 (.tmp 116) (.tmp 117))) rfl rfl hy rfl (by kernel_rfl) rfl (by omega) (by omega) ?_
    intro g121 hg121
    try simp only [Int.toNat_natCast]
    refine aN (k0 (.store 3 (.tmp 121) (.tmp 119))) rfl (a_storeO hy hg121 (by omega) rfl rfl (by kernel_rfl) (rv_nat.2 rfl)) ?_
    rintro _ w4 ⟨rfl, hs, hy⟩
    refine ⟨trivial, ?_⟩
    replace hF := hF.st hs
    replace hT := hT.t hs; replace hsb := hsb.t hs; replace hW := hW.t hs; replace hu := hu.t hs; replace hv := hv.t hs; replace hr := hr.t hs; replace hl := hl.t hs; replace hcc := hcc.t hs; replace h86 := h86.t hs; replace g87 := g87.t hs; replace h90 := h90.t hs
    refine Sch.nil ?_
    refine run_sq ?_
    refine run_pl [yy 0, yy 1, yy 2, nn 3, yy 4, yy 5] ?_
    refine yM 122 5 ?_
    refine yM 123 12 ?_
    refine oI (e' := 3) (kq 124 (.indexAddr 22 (.tmp 122) (.tmp 123))) rfl rfl hl rfl (by kernel_rfl) rfl (by omega) (by omega) ?_
    intro g124 hg124
    try simp only [Int.toNat_natCast]
    refine oN (kq 125 (.load 3 (.tmp 124))) rfl rfl trivial hl hg124 (by omega) (by kernel_rfl) rfl rfl ?_
    intro v125 g125
    try simp only [Int.toNat_natCast] at g125
    first | (obtain rfl := rv_nat.1 g125) | (obtain rfl := rv_int.1 g125)
    rw [hv2]
    refine yM 126 10 ?_
    refine yV (kq 127 (.binOp .lss 3 (.tmp 125) (.tmp 126) 3)) (fun _ => val_lss rfl rfl) ?_
    refine Sch.nil ?_
    refine run_i 127 rfl (fun h127 => ?_) (fun h127 => ?_)
    ·
     refine run_pl [yy 0, yy 1, yy 2, nn 3, yy 4, yy 5, yy 6] ?_
     refine yM 128 5 ?_
     refine yM 129 12 ?_
     refine oI (e' := 3) (kq 130 (.indexAddr 22 (.tmp 128) (.tmp 129))) rfl rfl hl rfl (by kernel_rfl) rfl (by omega) (by omega) ?_
     intro g130 hg130
     try simp only [Int.toNat_natCast]
     refine oN (kq 131 (.load 3 (.tmp 130))) rfl rfl trivial hl hg130 (by omega) (by kernel_rfl) rfl rfl ?_
     intro v131 g131
     try simp only [Int.toNat_natCast] at g131
     first | (obtain rfl := rv_nat.1 g131) | (obtain rfl := rv_int.1 g131)
     rw [hv2]
     refine yM 132 12 ?_
     refine yA 10 131 ?_
     refine yA 11 132 ?_
     refine Sch.nil ?_
     refine run_inBlock ?_
     refine run_pl [yy 0, yy 1, yy 2] ?_
     refine yM 74 12 ?_
     refine yV (kq 75 (.binOp .add 3 (.tmp 74) (.const (.int .i64 1)) 3)) (fun _ => val_addi rfl rfl (by omega) (by omega)) ?_
     refine yA 12 75 ?_
     refine Sch.nil ?_
     refine kp (sub_cons 0 rfl rfl (sub_cons 4 rfl rfl (sub_cons 5 rfl rfl (sub_cons 6 rfl rfl (sub_cons 7 rfl rfl (sub_cons 9 rfl rfl (sub_cons 10 rfl rfl (sub_cons 11 rfl rfl (sub_cons 12 rfl (eq_int (by omega)) (sub_nil _)))))))))) (next1 (j0 + 1, yl2.set (j0 + 1) a, ll3.set (j0 + 1) d, lm, j0 + 1) _ ⟨(by first | omega | (simp only; omega)), hny, hnl, hR2, (by rw [hlm]; rw [hlm] at h127; exact hD.take (by omega) hcj h127), hF, hT, hsb, hW, hu, hv, hr, hl, hy, hcc⟩ (by first | omega | (simp only; omega)))
    ·
     refine run_sk ?_
     refine run_inBlock ?_
     refine run_pl [yy 0, yy 1, yy 2] ?_
     refine yM 74 12 ?_
     refine yV (kq 75 (.binOp .add 3 (.tmp 74) (.const (.int .i64 1)) 3)) (fun _ => val_addi rfl rfl (by omega) (by omega)) ?_
     refine yA 12 75 ?_
     refine Sch.nil ?_
     refine kp (sub_cons 0 rfl rfl (sub_cons 4 rfl rfl (sub_cons 5 rfl rfl (sub_cons 6 rfl rfl (sub_cons 7 rfl rfl (sub_cons 9 rfl rfl (sub_cons 10 rfl rfl (sub_cons 11 rfl rfl (sub_cons 12 rfl (eq_int (by omega)) (sub_nil _)))))))))) (next1 (j0 + 1, yl2.set (j0 + 1) a, ll3.set (j0 + 1) d, dl, nx) _ ⟨(by first | omega | (simp only; omega)), hny, hnl, hR2, (by rw [hlm] at h127 hlf2; exact hD.no (by omega) hcj h127 hlf2), hF, hT, hsb, hW, hu, hv, hr, hl, hy, hcc⟩ (by first | omega | (simp only; omega)))
   ·
    have hlt : ¬ dS (cK kl) (gI ul1) (gI vl1) (i0 + 1) (j0 + 1) < gI ll2 (j0 + 1) := by rw [← hd, ← hcur]; exact h113
    have hR2 := hR.no hlt
    have hnl := hll3
    have hny := hly
    have hv2 : ll3[j0 + 1]'(by omega) = lm := by rw [hlm]; unfold lS1; rw [if_neg hlt]; exact hcur
    refine run_sk ?_
    refine run_sq ?_
    refine run_pl [yy 0, yy 1, yy 2, nn 3, yy 4, yy 5] ?_
    refine yM 122 5 ?_
    refine yM 123 12 ?_
    refine oI (e' := 3) (kq 124 (.indexAddr 22 (.tmp 122) (.tmp 123))) rfl rfl hl rfl (by kernel_rfl) rfl (by omega) (by omega) ?_
    intro g124 hg124
    try simp only [Int.toNat_natCast]
    refine oN (kq 125 (.load 3 (.tmp 124))) rfl rfl trivial hl hg124 (by omega) (by kernel_rfl) rfl rfl ?_
    intro v125 g125
    try simp only [Int.toNat_natCast] at g125
    first | (obtain rfl := rv_nat.1 g125) | (obtain rfl := rv_int.1 g125)
    rw [hv2]
    refine yM 126 10 ?_
    refine yV (kq 127 (.binOp .lss 3 (.tmp 125) (.tmp 126) 3)) (fun _ => val_lss rfl rfl) ?_
    refine Sch.nil ?_
    refine run_i 127 rfl (fun h127 => ?_) (fun h127 => ?_)
    ·
     refine run_pl [yy 0, yy 1, yy 2, nn 3, yy 4, yy 5, yy 6] ?_
     refine yM 128 5 ?_
     refine yM 129 12 ?_
     refine oI (e' := 3) (kq 130 (.indexAddr 22 (.tmp 128) (.tmp 129))) rfl rfl hl rfl (by kernel_rfl) rfl (by omega) (by omega) ?_
     intro g130 hg130
     try simp only [Int.toNat_natCast]
     refine oN (kq 131 (.load 3 (.tmp 130))) rfl rfl trivial hl hg130 (by omega) (by kernel_rfl) rfl rfl ?_
     intro v131 g131
     try simp only [Int.toNat_natCast] at g131
     first | (obtain rfl := rv_nat.1 g131) | (obtain rfl := rv_int.1 g131)
     rw [hv2]
     refine yM 132 12 ?_
     refine yA 10 131 ?_
     refine yA 11 132 ?_
     refine Sch.nil ?_
     refine run_inBlock ?_
     refine run_pl [yy 0, yy 1, yy 2] ?_
     refine yM 74 12 ?_
     refine yV (kq 75 (.binOp .add 3 (.tmp 74) (.const (.int .i64 1)) 3)) (fun _ => val_addi rfl rfl (by omega) (by omega)) ?_
     refine yA 12 75 ?_
     refine Sch.nil ?_
     refine kp (sub_cons 0 rfl rfl (sub_cons 4 rfl rfl (sub_cons 5 rfl rfl (sub_cons 6 rfl rfl (sub_cons 7 rfl rfl (sub_cons 9 rfl rfl (sub_cons 10 rfl rfl (sub_cons 11 rfl rfl (sub_cons 12 rfl (eq_int (by omega)) (sub_nil _)))))))))) (next1 (j0 + 1, yl2, ll3, lm, j0 + 1) _ ⟨(by first | omega | (simp only; omega)), hny, hnl, hR2, (by rw [hlm]; rw [hlm] at h127; exact hD.take (by omega) hcj h127), hF, hT, hsb, hW, hu, hv, hr, hl, hy, hcc⟩ (by first | omega | (simp only; omega)))
    ·
     refine run_sk ?_
     refine run_inBlock ?_
     refine run_pl [yy 0, yy 1, yy 2] ?_
     refine yM 74 12 ?_
     refine yV (kq 75 (.binOp .add 3 (.tmp 74) (.const (.int .i64 1)) 3)) (fun _ => val_addi rfl rfl (by omega) (by omega)) ?_
     refine yA 12 75 ?_
     refine Sch.nil ?_
     refine kp (sub_cons 0 rfl rfl (sub_cons 4 rfl rfl (sub_cons 5 rfl rfl (sub_cons 6 rfl rfl (sub_cons 7 rfl rfl (sub_cons 9 rfl rfl (sub_cons 10 rfl rfl (sub_cons 11 rfl rfl (sub_cons 12 rfl (eq_int (by omega)) (sub_nil _)))))))))) (next1 (j0 + 1, yl2, ll3, dl, nx) _ ⟨(by first | omega | (simp only; omega)), hny, hnl, hR2, (by rw [hlm] at h127 hlf2; exact hD.no (by omega) hcj h127 hlf2), hF, hT, hsb, hW, hu, hv, hr, hl, hy, hcc⟩ (by first | omega | (simp only; omega)))
 ·
  have hjk : j0 = k := by omega
  subst hjk
  refine run_ex 4 ?_
  exact kp (sub_cons 0 rfl rfl (sub_cons 4 rfl rfl (sub_cons 5 rfl rfl (sub_cons 6 rfl rfl (sub_cons 7 rfl rfl (sub_cons 10 rfl rfl (sub_cons 11 rfl rfl (sub_nil _)))))))) (hnext yl2 ll3 dl nx _ hT hF hsb hW hu hv hr hl hy hcc hly hll3 hR hD)
/-- Prices are shifted. -/
theorem sshift {κ : List Item} {R : Value → World → Prop} {w₀ : World} {C : Nat → Nat} {sb k n a i0 T : Nat} {xk xu xv xr v26 v32 v38 : Value} {kl : List (List Int)} {ul1 vl1 : List Int} {rl1 yl1 : List Nat} {cl3 : List Bool} {W : Int} {rk : Nat → Nat} {ll2 ll3 : List Int} {yl2 : List Nat} {dl : Int} {nx : Nat} (hF : Lim w₀ C) (hsb : OwnB w₀ C 3 sb (.cells [.int .i64 k, xk, xu, xv, xr].toArray 80)) (hW : RV w₀ (Mc C) kl xk) (hu : OwnL w₀ C 4 3 xu ul1) (hv : OwnL w₀ C 5 3 xv vl1) (hr : OwnL w₀ C 6 3 xr rl1) (hl : OwnL w₀ C 8 3 v26 ll3) (hy : OwnL w₀ C 7 3 v32 yl2) (hcc : OwnL w₀ C 9 4 v38 cl3) (hk : kl.length = k) (hkb : k ≤ 1000000) (s1 : ul1.length = k + 1) (s2 : vl1.length = k + 1) (hlr : rl1.length = k + 1) (hly : yl2.length = k + 1) (hll3 : ll3.length = k + 1) (hl3 : cl3.length = k + 1) (hbu : ∀ r, r ≤ k → -288230376151711744 ≤ gI ul1 r ∧ gI ul1 r ≤ 0) (hbv : ∀ j, j ≤ k → -288230376151711744 ≤ gI vl1 j ∧ gI vl1 j ≤ 288230376151711744) (hLB : ∀ q, 1 ≤ q → q ≤ k → gB cl3 q = false → -288230376151711744 ≤ lS1 (cK kl) (gI ul1) (gI vl1) (gI ll2) (i0 + 1) q ∧ lS1 (cK kl) (gI ul1) (gI vl1) (gI ll2) (i0 + 1) q ≤ 576460752303423488 ∧ -288230376151711744 ≤ dS (cK kl) (gI ul1) (gI vl1) (i0 + 1) q ∧ dS (cK kl) (gI ul1) (gI vl1) (i0 + 1) q ≤ 576460752303423488)
    (hB : HB k (cK kl) W n (gI ul1) (gI vl1) (gN rl1) (gN yl1) (gB cl3) rk T) (hR : RL1 (cK kl) (gI ul1) (gI vl1) (gB cl3) (gI ll2) (gN yl1) (i0 + 1) a k (k + 1) (gI ll3) (gN yl2)) (hD : RLD (gB cl3) (lS1 (cK kl) (gI ul1) (gI vl1) (gI ll2) (i0 + 1)) 1099511627776 (k + 1) dl nx)
    (hnext : ∀ (ul2 vl2 : List Int) (ll4 : List Int) (w' : World), Stp [4, 5, 8] w₀ C w' C → Lim w' C → OwnB w' C 3 sb (.cells [.int .i64 k, xk, xu, xv, xr].toArray 80) → RV w' (Mc C) kl xk → OwnL w' C 4 3 xu ul2 → OwnL w' C 5 3 xv vl2 → OwnL w' C 6 3 xr rl1 → OwnL w' C 8 3 v26 ll4 → OwnL w' C 7 3 v32 yl2 → OwnL w' C 9 4 v38 cl3 → ul2.length = k + 1 → vl2.length = k + 1 → ll4.length = k + 1 → RL2 (gN rl1) (gB cl3) dl k (gI ul1) (gI vl1) (gI ll3) (k + 1) (gI ul2) (gI vl2) (gI ll4) → Run Try.prog 54 201 κ [(0, .pointer (some ⟨sb, 0, none⟩)), (4, .int .i64 (a : Nat)), (5, v26), (6, v32), (7, v38), (11, .int .i64 nx)] w' R) :
    Run Try.prog 54 201 (.code F54.c75 :: κ) [(0, .pointer (some ⟨sb, 0, none⟩)), (4, .int .i64 (a : Nat)), (5, v26), (6, v32), (7, v38), (10, .int .i64 dl), (11, .int .i64 nx)] w₀ R := by
 have hT := Stp.refl [4, 5, 8] w₀ C
 refine run_sq ?_
 refine run_pl [yy 0] ?_
 refine yAc 14 (.int .i64 0) ?_
 refine Sch.nil ?_
 have hdb : -288230376151711744 ≤ dl ∧ dl ≤ 576460752303423488 := by
   rcases hD with ⟨_, _, h3⟩ | ⟨n1, n2, n3, n4, n5⟩
   · exfalso
     obtain ⟨q0, f1, f2, f3⟩ := hB.free
     have := h3 q0 f1 (by omega)
     exact hB.clr q0 f1 f2 this f3
   · have := hLB nx n1 (by omega) n3
     omega
 refine run_bk 6 ?_
 
 refine run_lp (ι := Nat × (List Int) × (List Int) × (List Int)) (I := fun x w => x.1 ≤ k + 1 ∧ x.2.1.length = k + 1 ∧ x.2.2.1.length = k + 1 ∧ x.2.2.2.length = k + 1 ∧ RL2 (gN rl1) (gB cl3) dl k (gI ul1) (gI vl1) (gI ll3) x.1 (gI x.2.1) (gI x.2.2.1) (gI x.2.2.2) ∧ Lim w C ∧ Stp [4, 5, 8] w₀ C w C ∧ OwnB w C 3 sb (.cells [.int .i64 k, xk, xu, xv, xr].toArray 80) ∧ RV w (Mc C) kl xk ∧ OwnL w C 4 3 xu x.2.1 ∧ OwnL w C 5 3 xv x.2.2.1 ∧ OwnL w C 6 3 xr rl1 ∧ OwnL w C 8 3 v26 x.2.2.2 ∧ OwnL w C 7 3 v32 yl2 ∧ OwnL w C 9 4 v38 cl3) (e := fun x => [(0, .pointer (some ⟨sb, 0, none⟩)), (4, .int .i64 a), (5, v26), (6, v32), (7, v38), (10, .int .i64 dl), (11, .int .i64 nx), (14, .int .i64 x.1)]) (m := fun x => k + 1 - x.1) (x₀ := (0, ul1, vl1, ll3)) (sr 0 (sr 4 (sr 5 (sr 6 (sr 7 (sr 10 (sr 11 (sr 14 (sub_nil _))))))))) ?_ ?_
 · exact ⟨Nat.zero_le _, (by simp only; omega), (by simp only; omega), hll3, RL2.start, hF, hT, hsb, hW, hu, hv, hr, hl, hy, hcc⟩
 intro ⟨q, ul2, vl2, ll4⟩ w1 hI next
 obtain ⟨hq, hlu, hlv, hll4, hR2, hF, hT, hsb, hW, hu, hv, hr, hl, hy, hcc⟩ := hI
 try simp only at hq hlu hlv hll4 hR2 hF hT hsb hW hu hv hr hl hy hcc
 have next1 := next
 clear next
 show Run _ _ _ _ [(0, .pointer (some ⟨sb, 0, none⟩)), (4, .int .i64 a), (5, v26), (6, v32), (7, v38), (10, .int .i64 dl), (11, .int .i64 nx), (14, .int .i64 q)] _ _
 refine run_sq ?_
 refine run_sq ?_
 refine run_pl [yy 0, yy 1, yy 2, yy 3, nn 4, yy 5] ?_
 refine yM 133 14 ?_
 refine yM 134 0 ?_
 refine yN 135 134 ?_
 refine yF 136 80 135 0 0 ?_
 refine nS (kq 137 (.load 3 (.tmp 136))) rfl rfl trivial (val_loadOwn hsb.at_ (by kernel_rfl) rfl rfl) ?_
 refine yV (kq 138 (.binOp .leq 3 (.tmp 133) (.tmp 137) 3)) (fun _ => val_leq rfl rfl) ?_
 refine Sch.nil ?_
 refine run_i 138 rfl (fun h138 => ?_) (fun h138 => ?_)
 ·
  have hqk : q ≤ k := by omega
  refine run_sk ?_
  refine run_sq ?_
  refine run_bk 7 ?_
  refine run_sq ?_
  refine run_pl [yy 0, yy 1, yy 2, nn 3] ?_
  refine yM 141 7 ?_
  refine yM 142 14 ?_
  refine oI (e' := 4) (kq 143 (.indexAddr 48 (.tmp 141) (.tmp 142))) rfl rfl hcc rfl (by kernel_rfl) rfl (by omega) (by omega) ?_
  intro g143 hg143
  try simp only [Int.toNat_natCast]
  refine oN (kq 144 (.load 4 (.tmp 143))) rfl rfl trivial hcc hg143 (by omega) (by kernel_rfl) rfl rfl ?_
  intro v144 g144
  try simp only [Int.toNat_natCast] at g144
  obtain rfl := rv_bool.1 g144
  refine Sch.nil ?_
  refine run_c 144 rfl (fun h144 => ?_) (fun h144 => ?_)
  ·
   have hcq : gB cl3 q = true := (getD_in (by omega)).trans h144
   obtain ⟨p, hp0⟩ : ∃ p, p = rl1[q]'(by omega) := ⟨_, rfl⟩
   have hpg : gN rl1 q = p := by rw [hp0]; exact getD_in _
   have hpk : p ≤ k := by
     have h1 := hB.clrow hqk hcq
     have h2 := hB.nk
     rw [hpg] at h1; omega
   have hpu : ul2[p]'(by omega) = ul1[p]'(by omega) := by
     have := hR2.u2 p (fun q' a b c e => by have := hB.clinj a hqk c (by rw [e, hpg]); omega)
     rwa [show gI ul2 p = ul2[p]'(by omega) from getD_in _, show gI ul1 p = ul1[p]'(by omega) from getD_in _] at this
   have hpb := hbu p hpk
   rw [show gI ul1 p = ul1[p]'(by omega) from getD_in _, ← hpu] at hpb
   have hvq : vl2[q]'(by omega) = vl1[q]'(by omega) := by
     have := hR2.v1 q hqk hcq
     rw [if_neg (by omega)] at this
     rwa [show gI vl2 q = vl2[q]'(by omega) from getD_in _, show gI vl1 q = vl1[q]'(by omega) from getD_in _] at this
   have hvb := hbv q hqk
   rw [show gI vl1 q = vl1[q]'(by omega) from getD_in _, ← hvq] at hvb
   clear hpu hvq
   refine run_sq ?_
   refine run_draw (id := 26) (ops := F54.o26) [4] (C) [yy 0, yy 1, yy 2, yy 3, yy 4, yy 5, yy 6, yy 7, yy 8, yy 9, yy 10, yy 11, yy 13, nn 12, yy 14, yy 15, nn 16] Try_mixed (by kernel_rfl) (by kernel_rfl) (by kernel_rfl) ?_
   intro w2 hs
   replace hF := hF.st hs
   replace hT := hT.t hs; replace hsb := hsb.t hs; replace hW := hW.t hs; replace hu := hu.t hs; replace hv := hv.t hs; replace hr := hr.t hs; replace hl := hl.t hs; replace hy := hy.t hs; replace hcc := hcc.t hs
   have hR := Stp.refl [4] w2 (C)
   refine yM 145 0 ?_
   refine yN 146 145 ?_
   refine yF 147 80 146 2 2 ?_
   refine yS (kq 148 (.load 22 (.tmp 147))) rfl rfl (fun w' hS => val_loadOwn (hsb.sy hS) (by kernel_rfl) rfl rfl) ?_
   refine yM 149 0 ?_
   refine yN 150 149 ?_
   refine yF 151 80 150 4 4 ?_
   refine yS (kq 152 (.load 22 (.tmp 151))) rfl rfl (fun w' hS => val_loadOwn (hsb.sy hS) (by kernel_rfl) rfl rfl) ?_
   refine yM 153 14 ?_
   refine oI (e' := 3) (kq 154 (.indexAddr 22 (.tmp 152) (.tmp 153))) rfl rfl hr rfl (by kernel_rfl) rfl (by omega) (by omega) ?_
   intro g154 hg154
   try simp only [Int.toNat_natCast]
   refine oS (I := [4]) (kq 155 (.load 3 (.tmp 154))) rfl rfl hr hg154 (fun w' hS => hr.sy hg154 hS) (by omega) (by kernel_rfl) rfl rfl ?_
   intro v155 g155
   try simp only [Int.toNat_natCast] at g155
   first | (obtain rfl := rv_nat.1 g155) | (obtain rfl := rv_int.1 g155)
   rw [← hp0]
   refine oI (e' := 3) (kq 156 (.indexAddr 22 (.tmp 148) (.tmp 155))) rfl rfl hu rfl (by kernel_rfl) rfl (by omega) (by omega) ?_
   intro g156 hg156
   try simp only [Int.toNat_natCast]
   refine yM 158 10 ?_
   refine oN (kq 157 (.load 3 (.tmp 156))) rfl rfl hR.ext hu hg156 (by omega) (by kernel_rfl) rfl rfl ?_
   intro v157 g157
   try simp only [Int.toNat_natCast] at g157
   first | (obtain rfl := rv_nat.1 g157) | (obtain rfl := rv_int.1 g157)
   refine yV (kq 159 (.binOp .add 3 (.tmp 157) (.tmp 158) 3)) (fun _ => val_addi rfl rfl (by omega) (by omega)) ?_
   refine oI (e' := 3) (kq 160 (.indexAddr 22 (.tmp 148) (.tmp 155))) rfl rfl hu rfl (by kernel_rfl) rfl (by omega) (by omega) ?_
   intro g160 hg160
   try simp only [Int.toNat_natCast]
   refine Sch.free rfl ?_
   refine aN (k0 (.store 3 (.tmp 160) (.tmp 159))) rfl (a_storeO hu hg160 (by omega) rfl rfl (by kernel_rfl) (rv_int.2 rfl)) ?_
   rintro _ w3 ⟨rfl, hs, hu⟩
   refine ⟨trivial, ?_⟩
   replace hF := hF.st hs
   replace hT := hT.t hs; replace hsb := hsb.t hs; replace hW := hW.t hs; replace hv := hv.t hs; replace hr := hr.t hs; replace hl := hl.t hs; replace hy := hy.t hs; replace hcc := hcc.t hs
   refine Sch.nil ?_
   refine run_pl [yy 0, yy 1, yy 2, nn 3, yy 4, yy 5, nn 6, yy 7, yy 8, yy 9, nn 10] ?_
   refine yM 161 0 ?_
   refine yN 162 161 ?_
   refine yF 163 80 162 3 3 ?_
   refine nS (kq 164 (.load 22 (.tmp 163))) rfl rfl trivial (val_loadOwn hsb.at_ (by kernel_rfl) rfl rfl) ?_
   refine yM 165 14 ?_
   refine oI (e' := 3) (kq 166 (.indexAddr 22 (.tmp 164) (.tmp 165))) rfl rfl hv rfl (by kernel_rfl) rfl (by omega) (by omega) ?_
   intro g166 hg166
   try simp only [Int.toNat_natCast]
   refine oN (kq 167 (.load 3 (.tmp 166))) rfl rfl trivial hv hg166 (by omega) (by kernel_rfl) rfl rfl ?_
   intro v167 g167
   try simp only [Int.toNat_natCast] at g167
   first | (obtain rfl := rv_nat.1 g167) | (obtain rfl := rv_int.1 g167)
   refine yM 168 10 ?_
   refine yV (kq 169 (.binOp .sub 3 (.tmp 167) (.tmp 168) 3)) (fun _ => val_subi rfl rfl (by omega) (by omega)) ?_
   refine oI (e' := 3) (kq 170 (.indexAddr 22 (.tmp 164) (.tmp 165))) rfl rfl hv rfl (by kernel_rfl) rfl (by omega) (by omega) ?_
   intro g170 hg170
   try simp only [Int.toNat_natCast]
   refine aN (k0 (.store 3 (.tmp 170) (.tmp 169))) rfl (a_storeO hv hg170 (by omega) rfl rfl (by kernel_rfl) (rv_int.2 rfl)) ?_
   rintro _ w4 ⟨rfl, hs, hv⟩
   refine ⟨trivial, ?_⟩
   replace hF := hF.st hs
   replace hT := hT.t hs; replace hsb := hsb.t hs; replace hW := hW.t hs; replace hu := hu.t hs; replace hr := hr.t hs; replace hl := hl.t hs; replace hy := hy.t hs; replace hcc := hcc.t hs
   refine Sch.nil ?_
   refine run_inBlock ?_
   refine run_pl [yy 0, yy 1, yy 2] ?_
   refine yM 139 14 ?_
   refine yV (kq 140 (.binOp .add 3 (.tmp 139) (.const (.int .i64 1)) 3)) (fun _ => val_addi rfl rfl (by omega) (by omega)) ?_
   refine yA 14 140 ?_
   refine Sch.nil ?_
   refine kp (sub_cons 0 rfl rfl (sub_cons 4 rfl rfl (sub_cons 5 rfl rfl (sub_cons 6 rfl rfl (sub_cons 7 rfl rfl (sub_cons 10 rfl rfl (sub_cons 11 rfl rfl (sub_cons 14 rfl (eq_int (by simp)) (sub_nil _))))))))) (next1 (q + 1, ul2.set p (ul2[p]'(by omega) + dl), vl2.set q (vl2[q]'(by omega) - dl), ll4) _ ⟨(by first | omega | (simp only; omega)), (by simp only [List.length_set]; exact hlu), (by simp only [List.length_set]; exact hlv), (by first | omega | (simp only; omega)), (hR2.shut hqk hcq (fun q' a c e => hB.clinj a hqk c e) (fun r => by rw [hpg, show gI ul2 p = ul2[p]'(by omega) from getD_in _]; exact getD_set (by omega)) (fun r => by rw [show gI vl2 q = vl2[q]'(by omega) from getD_in _]; exact getD_set (by omega))), hF, hT, hsb, hW, hu, hv, hr, hl, hy, hcc⟩ (by first | omega | (simp only; omega)))
  ·
   have hcq : gB cl3 q = false := (getD_in (by omega)).trans h144
   have hq1 : 1 ≤ q := by
     rcases Nat.eq_zero_or_pos q with e | e
     · subst e; rw [hB.c0] at hcq; cases hcq
     · exact e
   have hlq : ll4[q]'(by omega) = lS1 (cK kl) (gI ul1) (gI vl1) (gI ll2) (i0 + 1) q := by
     have h1 := hR2.l1 q hqk hcq
     rw [if_neg (by omega), hR.l q hq1 hqk hcq, if_pos (by omega)] at h1
     rwa [show gI ll4 q = ll4[q]'(by omega) from getD_in _] at h1
   have hlb := hLB q hq1 hqk hcq
   rw [← hlq] at hlb
   clear hlq
   refine run_pl [yy 0, yy 1, yy 2, nn 3, yy 4, yy 5, yy 6, nn 7] ?_
   refine yM 171 5 ?_
   refine yM 172 14 ?_
   refine oI (e' := 3) (kq 173 (.indexAddr 22 (.tmp 171) (.tmp 172))) rfl rfl hl rfl (by kernel_rfl) rfl (by omega) (by omega) ?_
   intro g173 hg173
   try simp only [Int.toNat_natCast]
   refine oN (kq 174 (.load 3 (.tmp 173))) rfl rfl trivial hl hg173 (by omega) (by kernel_rfl) rfl rfl ?_
   intro v174 g174
   try simp only [Int.toNat_natCast] at g174
   first | (obtain rfl := rv_nat.1 g174) | (obtain rfl := rv_int.1 g174)
   refine yM 175 10 ?_
   refine yV (kq 176 (.binOp .sub 3 (.tmp 174) (.tmp 175) 3)) (fun _ => val_subi rfl rfl (by omega) (by omega)) ?_
   refine oI (e' := 3) (kq 177 (.indexAddr 22 (.tmp 171) (.tmp 172))) rfl rfl hl rfl (by kernel_rfl) rfl (by omega) (by omega) ?_
   intro g177 hg177
   try simp only [Int.toNat_natCast]
   refine aN (k0 (.store 3 (.tmp 177) (.tmp 176))) rfl (a_storeO hl hg177 (by omega) rfl rfl (by kernel_rfl) (rv_int.2 rfl)) ?_
   rintro _ w5 ⟨rfl, hs, hl⟩
   refine ⟨trivial, ?_⟩
   replace hF := hF.st hs
   replace hT := hT.t hs; replace hsb := hsb.t hs; replace hW := hW.t hs; replace hu := hu.t hs; replace hv := hv.t hs; replace hr := hr.t hs; replace hy := hy.t hs; replace hcc := hcc.t hs
   refine Sch.nil ?_
   refine run_inBlock ?_
   refine run_pl [yy 0, yy 1, yy 2] ?_
   refine yM 139 14 ?_
   refine yV (kq 140 (.binOp .add 3 (.tmp 139) (.const (.int .i64 1)) 3)) (fun _ => val_addi rfl rfl (by omega) (by omega)) ?_
   refine yA 14 140 ?_
   refine Sch.nil ?_
   refine kp (sub_cons 0 rfl rfl (sub_cons 4 rfl rfl (sub_cons 5 rfl rfl (sub_cons 6 rfl rfl (sub_cons 7 rfl rfl (sub_cons 10 rfl rfl (sub_cons 11 rfl rfl (sub_cons 14 rfl (eq_int (by simp)) (sub_nil _))))))))) (next1 (q + 1, ul2, vl2, ll4.set q (ll4[q]'(by omega) - dl)) _ ⟨(by first | omega | (simp only; omega)), (by first | omega | (simp only; omega)), (by first | omega | (simp only; omega)), (by simp only [List.length_set]; exact hll4), (hR2.op hcq (fun r => by rw [show gI ll4 q = ll4[q]'(by omega) from getD_in _]; exact getD_set (by omega)) hqk), hF, hT, hsb, hW, hu, hv, hr, hl, hy, hcc⟩ (by first | omega | (simp only; omega)))
 ·
  have hqk : q = k + 1 := by omega
  subst hqk
  refine run_ex 6 ?_
  exact kp (sub_cons 0 rfl rfl (sub_cons 4 rfl rfl (sub_cons 5 rfl rfl (sub_cons 6 rfl rfl (sub_cons 7 rfl rfl (sub_cons 11 rfl rfl (sub_nil _))))))) (hnext ul2 vl2 ll4 _ hT hF hsb hW hu hv hr hl hy hcc hlu hlv hll4 hR2)
/-- The reference's 'add'. -/
theorem sadd_ok {w₀ : World} {C : Nat → Nat} {sb k n : Nat} {xk xu xv xr : Value} {kl : List (List Int)} {ul vl : List Int} {rl : List Nat} {W : Int} (hF : Lim w₀ C) (hs : SQ w₀ C sb k xk xu xv xr kl ul vl rl)
    (hk : kl.length = k) (hrows : ∀ r ∈ kl, r.length = k) (hI : HI k (cK kl) W n (gI ul) (gI vl) (gN rl)) (hnk : n < k) (hc : ∀ r j, 1 ≤ r → r ≤ k → 1 ≤ j → j ≤ k → -W ≤ cK kl r j ∧ cK kl r j ≤ 0) (hW0 : 0 ≤ W) (hW1 : W ≤ 65536) (hWk : (k + 1) * W ≤ 288230376151711744) (hkb : k ≤ 1000000) :
    Calls Try.prog 54 #[.pointer (some ⟨sb, 0, none⟩), .int .i64 ((n + 1 : Nat) : Int)] w₀ (Ret fun v w' => ∃ (ul' vl' : List Int) (rl' : List Nat), v = .tuple #[] ∧ Stp [4, 5, 6] w₀ C w' C ∧ SQ w' C sb k xk xu xv xr kl ul' vl' rl' ∧ HI k (cK kl) W (n + 1) (gI ul') (gI vl') (gN rl')) := by
 obtain ⟨hsb, hW, hu, hv, hr, e1, e2, e3⟩ := hs
 have hF0 := hF
 have hsb0 := hsb
 have hu0 := hu
 have hv0 := hv
 have hr0_ := hr
 have hT := Stp.refl [4, 5, 6, 7, 8, 9] w₀ (colE C)
 replace hF := hF.colE
 replace hsb := hsb.colE (by decide)
 replace hW : RV w₀ (Mc (colE C)) kl xk := by rw [Mc_colE]; exact hW
 replace hu := hu.colE (by decide)
 replace hv := hv.colE (by decide)
 replace hr := hr.colE (by decide)
 replace e1 : Hid (ul.length = k + 1) := e1
 replace e2 : Hid (vl.length = k + 1) := e2
 replace e3 : Hid (rl.length = k + 1) := e3
 replace hk : Hid (kl.length = k) := hk
 replace hWk : Hid ((k + 1) * W ≤ 288230376151711744) := hWk
 replace hW0 : Hid (0 ≤ W) := hW0
 replace hW1 : Hid (W ≤ 65536) := hW1
 refine calls_start (c := F54.c0) (N := 201) [.pointer (some ⟨sb, 0, none⟩), .int .i64 ((n + 1 : Nat) : Int)] Try.func54 (by kernel_rfl) (by kernel_rfl) (by kernel_rfl) ?_
 show Run _ _ _ _ [(0, .pointer (some ⟨sb, 0, none⟩)), (1, .int .i64 ((n + 1 : Nat) : Int))] _ _
 refine run_sq ?_
 refine run_pl [yy 0, yy 1, yy 2, nn 3, yy 4, yy 5, nn 6] ?_
 refine yM 15 0 ?_
 refine yN 16 15 ?_
 refine yF 17 80 16 4 4 ?_
 refine nS (kq 18 (.load 22 (.tmp 17))) rfl rfl trivial (val_loadOwn hsb.at_ (by kernel_rfl) rfl rfl) ?_
 refine yM 19 1 ?_
 refine oI (e' := 3) (kq 20 (.indexAddr 22 (.tmp 18) (.const (.int .i64 0)))) rfl rfl hr rfl (by kernel_rfl) rfl (by omega) (by (first | (have e : rl2.length = k + 1 := hlr2; omega) | (have e : rl1.length = k + 1 := hlr; omega) | (have e : rl.length = k + 1 := e3; omega))) ?_
 intro g20 hg20
 try simp only [Int.toNat_natCast]
 refine aN (k0 (.store 3 (.tmp 20) (.tmp 19))) rfl (a_storeO hr hg20 (by (first | (have e : rl2.length = k + 1 := hlr2; omega) | (have e : rl1.length = k + 1 := hlr; omega) | (have e : rl.length = k + 1 := e3; omega))) rfl rfl (by kernel_rfl) (rv_nat.2 rfl)) ?_
 rintro _ w1 ⟨rfl, hs, hr⟩
 refine ⟨trivial, ?_⟩
 replace hF := hF.st hs
 replace hT := hT.t hs; replace hsb := hsb.t hs; replace hW := hW.t hs; replace hu := hu.t hs; replace hv := hv.t hs
 refine Sch.nil ?_
 simp only [show (0 : Int).toNat = 0 from rfl] at hr
 obtain ⟨rl1, hrl1⟩ : ∃ l, l = rl.set 0 (n + 1) := ⟨_, rfl⟩
 rw [← hrl1] at hr
 have hlr : Hid (rl1.length = k + 1) := by show _ = _; rw [hrl1, List.length_set]; exact e3
 have hr0 : gN rl1 0 = n + 1 := by rw [hrl1]; show (rl.set 0 (n + 1)).getD 0 0 = _; rw [getD_set (by have e : rl.length = k + 1 := e3; omega), if_pos rfl]
 have hrr : ∀ j, j ≠ 0 → gN rl1 j = gN rl j := fun j hj => by rw [hrl1]; show (rl.set 0 (n + 1)).getD j 0 = _; rw [getD_set (by have e : rl.length = k + 1 := e3; omega), if_neg (fun e => hj e.symm)]
 clear hrl1
 replace hr0 : Hid (gN rl1 0 = n + 1) := hr0
 refine run_sq ?_
 refine run_pl [yy 0] ?_
 refine yAc 4 (.int .i64 0) ?_
 refine Sch.nil ?_
 refine run_sq ?_
 refine run_pl [yy 0, yy 1, yy 2, nn 3, yy 4, nn 5, yy 6] ?_
 refine yM 21 0 ?_
 refine yN 22 21 ?_
 refine yF 23 80 22 0 0 ?_
 refine nS (kq 24 (.load 3 (.tmp 23))) rfl rfl trivial (val_loadOwn hsb.at_ (by kernel_rfl) rfl rfl) ?_
 refine yV (kq 25 (.binOp .add 3 (.tmp 24) (.const (.int .i64 1)) 3)) (fun _ => val_is (val_addi rfl rfl (by omega) (by omega)) (congrArg (Value.int .i64) (show (k : Int) + 1 = ((k + 1 : Nat) : Int) from by omega))) ?_
 refine aS (kq 26 (.makeSlice 22 (.tmp 25) (.tmp 25))) rfl rfl (a_make (e := 3) (bytes := 8) (x0 := (0 : Int)) (zs := [.int .i64 0]) hF (j := 8) (by decide) (by kernel_rfl) (by kernel_rfl) rfl rfl (by omega) (by omega) (by omega) (fun h M => zero_int)) ?_
 rintro v26 w2 ⟨Cw2, hs, hl, hF⟩
 refine ⟨trivial, ?_⟩
 replace hT := hT.t hs; replace hsb := hsb.t hs; replace hW := hW.t hs; replace hu := hu.t hs; replace hv := hv.t hs; replace hr := hr.t hs
 obtain ⟨ls0, hls0⟩ : ∃ l : List Int, l = List.replicate (k + 1) (0 : Int) := ⟨_, rfl⟩
 replace hl : OwnL w2 Cw2 8 3 v26 ls0 := by rw [hls0]; exact hl
 have hzls0 : Hid (ls0.length = k + 1) := by show _ = _; rw [hls0]; exact List.length_replicate ..
 clear hls0
 refine yA 5 26 ?_
 refine Sch.nil ?_
 refine run_sq ?_
 refine run_pl [yy 0, yy 1, yy 2, nn 3, yy 4, nn 5, yy 6] ?_
 refine yM 27 0 ?_
 refine yN 28 27 ?_
 refine yF 29 80 28 0 0 ?_
 refine nS (kq 30 (.load 3 (.tmp 29))) rfl rfl trivial (val_loadOwn hsb.at_ (by kernel_rfl) rfl rfl) ?_
 refine yV (kq 31 (.binOp .add 3 (.tmp 30) (.const (.int .i64 1)) 3)) (fun _ => val_is (val_addi rfl rfl (by omega) (by omega)) (congrArg (Value.int .i64) (show (k : Int) + 1 = ((k + 1 : Nat) : Int) from by omega))) ?_
 refine aS (kq 32 (.makeSlice 22 (.tmp 31) (.tmp 31))) rfl rfl (a_make (e := 3) (bytes := 8) (x0 := (0 : Nat)) (zs := [.int .i64 0]) hF (j := 7) (by decide) (by kernel_rfl) (by kernel_rfl) rfl rfl (by omega) (by omega) (by omega) (fun h M => rfl)) ?_
 rintro v32 w3 ⟨Cw3, hs, hy, hF⟩
 refine ⟨trivial, ?_⟩
 replace hT := hT.t hs; replace hsb := hsb.t hs; replace hW := hW.t hs; replace hu := hu.t hs; replace hv := hv.t hs; replace hr := hr.t hs; replace hl := hl.t hs
 obtain ⟨ys0, hys0⟩ : ∃ l : List Nat, l = List.replicate (k + 1) (0 : Nat) := ⟨_, rfl⟩
 replace hy : OwnL w3 Cw3 7 3 v32 ys0 := by rw [hys0]; exact hy
 have hzys0 : Hid (ys0.length = k + 1) := by show _ = _; rw [hys0]; exact List.length_replicate ..
 clear hys0
 refine yA 6 32 ?_
 refine Sch.nil ?_
 refine run_sq ?_
 refine run_pl [yy 0, yy 1, yy 2, nn 3, yy 4, nn 5, yy 6] ?_
 refine yM 33 0 ?_
 refine yN 34 33 ?_
 refine yF 35 80 34 0 0 ?_
 refine nS (kq 36 (.load 3 (.tmp 35))) rfl rfl trivial (val_loadOwn hsb.at_ (by kernel_rfl) rfl rfl) ?_
 refine yV (kq 37 (.binOp .add 3 (.tmp 36) (.const (.int .i64 1)) 3)) (fun _ => val_is (val_addi rfl rfl (by omega) (by omega)) (congrArg (Value.int .i64) (show (k : Int) + 1 = ((k + 1 : Nat) : Int) from by omega))) ?_
 refine aS (kq 38 (.makeSlice 48 (.tmp 37) (.tmp 37))) rfl rfl (a_make (e := 4) (bytes := 1) (x0 := false) (zs := [.bool false]) hF (j := 9) (by decide) (by kernel_rfl) (by kernel_rfl) rfl rfl (by omega) (by omega) (by omega) (fun h M => rfl)) ?_
 rintro v38 w4 ⟨Cw4, hs, hcc, hF⟩
 refine ⟨trivial, ?_⟩
 replace hT := hT.t hs; replace hsb := hsb.t hs; replace hW := hW.t hs; replace hu := hu.t hs; replace hv := hv.t hs; replace hr := hr.t hs; replace hl := hl.t hs; replace hy := hy.t hs
 obtain ⟨cl1, hcl1⟩ : ∃ l : List Bool, l = List.replicate (k + 1) false := ⟨_, rfl⟩
 replace hcc : OwnL w4 Cw4 9 4 v38 cl1 := by rw [hcl1]; exact hcc
 have hzcl1 : Hid (cl1.length = k + 1) := by show _ = _; rw [hcl1]; exact List.length_replicate ..
 have hcf : ∀ j, gB cl1 j = false := fun j => by rw [hcl1]; exact getD_rep
 clear hcl1
 refine yA 7 38 ?_
 refine Sch.nil ?_
 refine run_sq ?_
 refine run_sq ?_
 refine run_pl [yy 0] ?_
 refine yAc 8 (.int .i64 0) ?_
 refine Sch.nil ?_
 refine run_bk 0 ?_
 
 refine run_lp (ι := Nat × (List Int) × (Nat → Nat)) (I := fun x w => x.1 ≤ k + 1 ∧ Hid (x.2.1.length = k + 1) ∧ (∀ q, q < x.1 → gI x.2.1 q = 1099511627776) ∧ Lim w x.2.2 ∧ Stp [4, 5, 6, 7, 8, 9] w₀ (colE C) w x.2.2 ∧ OwnB w x.2.2 3 sb (.cells [.int .i64 k, xk, xu, xv, xr].toArray 80) ∧ RV w (Mc x.2.2) kl xk ∧ OwnL w x.2.2 4 3 xu ul ∧ OwnL w x.2.2 5 3 xv vl ∧ OwnL w x.2.2 6 3 xr rl1 ∧ OwnL w x.2.2 8 3 v26 x.2.1 ∧ OwnL w x.2.2 7 3 v32 ys0 ∧ OwnL w x.2.2 9 4 v38 cl1) (e := fun x => [(0, .pointer (some ⟨sb, 0, none⟩)), (4, .int .i64 0), (5, v26), (6, v32), (7, v38), (8, .int .i64 x.1)]) (m := fun x => k + 1 - x.1) (x₀ := (0, ls0, Cw4)) (sr 0 (sr 4 (sr 5 (sr 6 (sr 7 (sr 8 (sub_nil _))))))) ?_ ?_
 · exact ⟨Nat.zero_le _, hzls0, (fun q hq => by simp only at hq; omega), hF, hT, hsb, hW, hu, hv, hr, hl, hy, hcc⟩
 intro ⟨j, ll1, C1⟩ w5 hI next
 obtain ⟨hj, hll, hlf, hF, hT, hsb, hW, hu, hv, hr, hl, hy, hcc⟩ := hI
 try simp only at hj hll hlf hF hT hsb hW hu hv hr hl hy hcc
 have next1 := next
 clear next
 show Run _ _ _ _ [(0, .pointer (some ⟨sb, 0, none⟩)), (4, .int .i64 0), (5, v26), (6, v32), (7, v38), (8, .int .i64 j)] _ _
 refine run_sq ?_
 refine run_sq ?_
 refine run_pl [yy 0, yy 1, yy 2, yy 3, nn 4, yy 5] ?_
 refine yM 39 8 ?_
 refine yM 40 0 ?_
 refine yN 41 40 ?_
 refine yF 42 80 41 0 0 ?_
 refine nS (kq 43 (.load 3 (.tmp 42))) rfl rfl trivial (val_loadOwn hsb.at_ (by kernel_rfl) rfl rfl) ?_
 refine yV (kq 44 (.binOp .leq 3 (.tmp 39) (.tmp 43) 3)) (fun _ => val_leq rfl rfl) ?_
 refine Sch.nil ?_
 refine run_i 44 rfl (fun h44 => ?_) (fun h44 => ?_)
 ·
  have hjk : j ≤ k := by omega
  refine run_sk ?_
  refine run_sq ?_
  refine run_bk 1 ?_
  refine run_pl [yy 0, yy 1, yy 2, nn 3] ?_
  refine yM 47 5 ?_
  refine yM 48 8 ?_
  refine oI (e' := 3) (kq 49 (.indexAddr 22 (.tmp 47) (.tmp 48))) rfl rfl hl rfl (by kernel_rfl) rfl (by omega) (by (have e : ll1.length = k + 1 := hll; omega)) ?_
  intro g49 hg49
  try simp only [Int.toNat_natCast]
  refine aN (k0 (.store 3 (.tmp 49) (.const (.int .i64 1099511627776)))) rfl (a_storeO hl hg49 (by (have e : ll1.length = k + 1 := hll; omega)) rfl rfl (by kernel_rfl) (rv_int.2 rfl)) ?_
  rintro _ w6 ⟨rfl, hs, hl⟩
  refine ⟨trivial, ?_⟩
  replace hF := hF.st hs
  replace hT := hT.t hs; replace hsb := hsb.t hs; replace hW := hW.t hs; replace hu := hu.t hs; replace hv := hv.t hs; replace hr := hr.t hs; replace hy := hy.t hs; replace hcc := hcc.t hs
  refine Sch.nil ?_
  refine run_inBlock ?_
  refine run_pl [yy 0, yy 1, yy 2] ?_
  refine yM 45 8 ?_
  refine yV (kq 46 (.binOp .add 3 (.tmp 45) (.const (.int .i64 1)) 3)) (fun _ => val_addi rfl rfl (by omega) (by omega)) ?_
  refine yA 8 46 ?_
  refine Sch.nil ?_
  refine kp (sub_cons 0 rfl rfl (sub_cons 4 rfl rfl (sub_cons 5 rfl rfl (sub_cons 6 rfl rfl (sub_cons 7 rfl rfl (sub_cons 8 rfl (eq_int (by simp)) (sub_nil _))))))) (next1 (j + 1, ll1.set j 1099511627776, C1) _ ⟨(by first | omega | (simp only; omega)), (by show _ = _; simp only [List.length_set]; exact hll), (fun q hq => by
      simp only at hq
      show (ll1.set j 1099511627776).getD q 0 = _
      rw [getD_set (by have e : ll1.length = k + 1 := hll; omega)]
      split
      · rfl
      · exact hlf q (by omega)), hF, hT, hsb, hW, hu, hv, hr, hl, hy, hcc⟩ (by first | omega | (simp only; omega)))
 ·
  have hjk : j = k + 1 := by omega
  subst hjk
  clear h44 hj
  obtain ⟨hB0, hP1⟩ := hI.begin (far := 1099511627776) (cl := fun q => if q = 0 then true else gB cl1 q) (least := gI ll1) (row' := gN rl1) hnk hr0 hrr (fun q a b => hlf q (by omega)) (fun q a b => by rw [if_neg (by omega)]; exact hcf q) (if_pos rfl) (gN ys0)
  refine run_ex 0 ?_
  refine run_sq ?_
  refine run_bk 2 ?_
  
  refine run_lp (ι := Nat × (List Int) × (List Int) × (List Nat) × (List Int) × (List Bool) × (Nat → Nat) × Nat × (Nat → Nat)) (I := fun x w => x.1 ≤ k ∧ gB x.2.2.2.2.2.1 x.1 = false ∧ (Hid (x.2.1.length = k + 1) ∧ Hid (x.2.2.1.length = k + 1) ∧ Hid (x.2.2.2.1.length = k + 1) ∧ Hid (x.2.2.2.2.1.length = k + 1) ∧ Hid (x.2.2.2.2.2.1.length = k + 1)) ∧ (((gN rl1 x.1 ≠ 0 ∧ HB k (cK kl) W n (gI x.2.1) (gI x.2.2.1) (gN rl1) (gN x.2.2.2.1) (fun q => if q = x.1 then true else gB x.2.2.2.2.2.1 q) x.2.2.2.2.2.2.1 x.2.2.2.2.2.2.2.1 ∧ (HP1 k 1099511627776 n (gI x.2.1) (gI x.2.2.2.2.1) (fun q => if q = x.1 then true else gB x.2.2.2.2.2.1 q) ∧ x.1 = 0 ∨ HP2 k (cK kl) W n x.1 (gI x.2.1) (gI x.2.2.1) (gN rl1) (gN x.2.2.2.1) (gI x.2.2.2.2.1) (fun q => if q = x.1 then true else gB x.2.2.2.2.2.1 q))) ∨ (gN rl1 x.1 = 0 ∧ HB k (cK kl) W n (gI x.2.1) (gI x.2.2.1) (gN rl1) (gN x.2.2.2.1) (gB x.2.2.2.2.2.1) x.2.2.2.2.2.2.1 x.2.2.2.2.2.2.2.1 ∧ HP2 k (cK kl) W n (k + 1) (gI x.2.1) (gI x.2.2.1) (gN rl1) (gN x.2.2.2.1) (gI x.2.2.2.2.1) (gB x.2.2.2.2.2.1) ∧ 1 ≤ x.1 ∧ gI x.2.2.2.2.1 x.1 = 0))) ∧ Lim w x.2.2.2.2.2.2.2.2 ∧ Stp [4, 5, 6, 7, 8, 9] w₀ (colE C) w x.2.2.2.2.2.2.2.2 ∧ OwnB w x.2.2.2.2.2.2.2.2 3 sb (.cells [.int .i64 k, xk, xu, xv, xr].toArray 80) ∧ RV w (Mc x.2.2.2.2.2.2.2.2) kl xk ∧ OwnL w x.2.2.2.2.2.2.2.2 4 3 xu x.2.1 ∧ OwnL w x.2.2.2.2.2.2.2.2 5 3 xv x.2.2.1 ∧ OwnL w x.2.2.2.2.2.2.2.2 6 3 xr rl1 ∧ OwnL w x.2.2.2.2.2.2.2.2 8 3 v26 x.2.2.2.2.1 ∧ OwnL w x.2.2.2.2.2.2.2.2 7 3 v32 x.2.2.2.1 ∧ OwnL w x.2.2.2.2.2.2.2.2 9 4 v38 x.2.2.2.2.2.1) (e := fun x => [(0, .pointer (some ⟨sb, 0, none⟩)), (4, .int .i64 x.1), (5, v26), (6, v32), (7, v38)]) (m := fun x => x.2.2.2.2.2.1.count false) (x₀ := (0, ul, vl, ys0, ll1, cl1, fun _ => 0, 0, C1)) (sr 0 (sr 4 (sr 5 (sr 6 (sr 7 (sub_nil _)))))) ?_ ?_
  · exact ⟨Nat.zero_le _, (hcf 0), ⟨e1, e2, hzys0, hll, hzcl1⟩, (.inl ⟨by have e0 : gN rl1 0 = n + 1 := hr0; simp only; omega, hB0, .inl ⟨hP1, rfl⟩⟩), hF, hT, hsb, hW, hu, hv, hr, hl, hy, hcc⟩
  intro ⟨a, ul1, vl1, yl1, ll2, cl2, rk, T, C2⟩ w7 hI next
  obtain ⟨hak, hac, hls, hSt, hF, hT, hsb, hW, hu, hv, hr, hl, hy, hcc⟩ := hI
  try simp only at hak hac hls hSt hF hT hsb hW hu hv hr hl hy hcc
  have next2 := next
  clear next
  show Run _ _ _ _ [(0, .pointer (some ⟨sb, 0, none⟩)), (4, .int .i64 a), (5, v26), (6, v32), (7, v38)] _ _
  obtain ⟨s1, s2, s3, s4, s5⟩ := hls
  refine run_sq ?_
  refine run_sq ?_
  refine run_pl [yy 0, yy 1, yy 2, nn 3, yy 4, yy 5, nn 6, yy 7] ?_
  refine yM 50 0 ?_
  refine yN 51 50 ?_
  refine yF 52 80 51 4 4 ?_
  refine nS (kq 53 (.load 22 (.tmp 52))) rfl rfl trivial (val_loadOwn hsb.at_ (by kernel_rfl) rfl rfl) ?_
  refine yM 54 4 ?_
  refine oI (e' := 3) (kq 55 (.indexAddr 22 (.tmp 53) (.tmp 54))) rfl rfl hr rfl (by kernel_rfl) rfl (by omega) (by (first | (have e : rl2.length = k + 1 := hlr2; omega) | (have e : rl1.length = k + 1 := hlr; omega) | (have e : rl.length = k + 1 := e3; omega))) ?_
  intro g55 hg55
  try simp only [Int.toNat_natCast]
  refine oN (kq 56 (.load 3 (.tmp 55))) rfl rfl trivial hr hg55 (by (first | (have e : rl2.length = k + 1 := hlr2; omega) | (have e : rl1.length = k + 1 := hlr; omega) | (have e : rl.length = k + 1 := e3; omega))) (by kernel_rfl) rfl rfl ?_
  intro v56 g56
  try simp only [Int.toNat_natCast] at g56
  first | (obtain rfl := rv_nat.1 g56) | (obtain rfl := rv_int.1 g56)
  refine yV (kq 57 (.binOp .neq 3 (.tmp 56) (.const (.int .i64 0)) 3)) (fun _ => val_neq rfl rfl) ?_
  refine Sch.nil ?_
  refine run_i 57 rfl (fun h57 => ?_) (fun h57 => ?_)
  ·
   have hra : gN rl1 a ≠ 0 := by rw [show gN rl1 a = rl1[a]'(by have e : rl1.length = k + 1 := hlr; omega) from getD_in _]; omega
   obtain ⟨_, hB, hP⟩ : gN rl1 a ≠ 0 ∧ HB k (cK kl) W n (gI ul1) (gI vl1) (gN rl1) (gN yl1) (fun q => if q = a then true else gB cl2 q) rk T ∧ (HP1 k 1099511627776 n (gI ul1) (gI ll2) (fun q => if q = a then true else gB cl2 q) ∧ a = 0 ∨ HP2 k (cK kl) W n a (gI ul1) (gI vl1) (gN rl1) (gN yl1) (gI ll2) (fun q => if q = a then true else gB cl2 q)) := hSt.resolve_right (fun e => hra e.1)
   clear hSt h57
   refine run_sk ?_
   refine run_bk 3 ?_
   refine run_sq ?_
   refine run_pl [yy 0, yy 1, yy 2, nn 3] ?_
   refine yM 58 7 ?_
   refine yM 59 4 ?_
   refine oI (e' := 4) (kq 60 (.indexAddr 48 (.tmp 58) (.tmp 59))) rfl rfl hcc rfl (by kernel_rfl) rfl (by omega) (by (have e : cl2.length = k + 1 := s5; omega)) ?_
   intro g60 hg60
   try simp only [Int.toNat_natCast]
   refine aN (k0 (.store 4 (.tmp 60) (.const (.bool true)))) rfl (a_storeO hcc hg60 (by (have e : cl2.length = k + 1 := s5; omega)) rfl rfl (by kernel_rfl) (rv_bool.2 rfl)) ?_
   rintro _ w8 ⟨rfl, hs, hcc⟩
   refine ⟨trivial, ?_⟩
   replace hF := hF.st hs
   replace hT := hT.t hs; replace hsb := hsb.t hs; replace hW := hW.t hs; replace hu := hu.t hs; replace hv := hv.t hs; replace hr := hr.t hs; replace hl := hl.t hs; replace hy := hy.t hs
   refine Sch.nil ?_
   have hce := gB_set (cl := cl2) (a := a) (by have e : cl2.length = k + 1 := s5; omega)
   rw [← hce] at hB hP
   have hct := count_set (cl := cl2) (a := a) (by have e : cl2.length = k + 1 := s5; omega) (by rw [← hac]; exact (getD_in (by have e : cl2.length = k + 1 := s5; omega)).symm)
   obtain ⟨cl3, hcl3⟩ : ∃ l, l = cl2.set a true := ⟨_, rfl⟩
   rw [← hcl3] at hB hP hcc hct hce
   have hl3 : Hid (cl3.length = k + 1) := by show _ = _; rw [hcl3, List.length_set]; exact s5
   have hca : gB cl3 a = true := by rw [hce]; exact if_pos rfl
   have h3W : 3 * W < 1099511627776 := by have h1 : W ≤ 65536 := hW1; omega
   obtain ⟨hbu, hbv, hcB, hLB⟩ := reach_bnd hB hc hW0 (by have h1 : W ≤ 65536 := hW1; omega) hWk h3W hP hak hca
   replace h3W : Hid (3 * W < 1099511627776) := h3W
   replace hP : Hid (HP1 k 1099511627776 n (gI ul1) (gI ll2) (gB cl3) ∧ a = 0 ∨ HP2 k (cK kl) W n a (gI ul1) (gI vl1) (gN rl1) (gN yl1) (gI ll2) (gB cl3)) := hP
   replace hct : Hid (cl3.count false < cl2.count false) := hct
   clear hcl3 hce hac
   refine run_sq ?_
   refine run_pl [yy 0, yy 1, yy 2, nn 3, yy 4, yy 5, nn 6, yy 7] ?_
   refine yM 61 0 ?_
   refine yN 62 61 ?_
   refine yF 63 80 62 4 4 ?_
   refine nS (kq 64 (.load 22 (.tmp 63))) rfl rfl trivial (val_loadOwn hsb.at_ (by kernel_rfl) rfl rfl) ?_
   refine yM 65 4 ?_
   refine oI (e' := 3) (kq 66 (.indexAddr 22 (.tmp 64) (.tmp 65))) rfl rfl hr rfl (by kernel_rfl) rfl (by omega) (by (first | (have e : rl2.length = k + 1 := hlr2; omega) | (have e : rl1.length = k + 1 := hlr; omega) | (have e : rl.length = k + 1 := e3; omega))) ?_
   intro g66 hg66
   try simp only [Int.toNat_natCast]
   refine oN (kq 67 (.load 3 (.tmp 66))) rfl rfl trivial hr hg66 (by (first | (have e : rl2.length = k + 1 := hlr2; omega) | (have e : rl1.length = k + 1 := hlr; omega) | (have e : rl.length = k + 1 := e3; omega))) (by kernel_rfl) rfl rfl ?_
   intro v67 g67
   try simp only [Int.toNat_natCast] at g67
   first | (obtain rfl := rv_nat.1 g67) | (obtain rfl := rv_int.1 g67)
   refine yA 9 67 ?_
   refine Sch.nil ?_
   obtain ⟨i, hi⟩ : ∃ i, i = rl1[a]'(by have e : rl1.length = k + 1 := hlr; omega) := ⟨_, rfl⟩
   rw [← hi]
   have hig : gN rl1 a = i := by rw [hi]; exact getD_in _
   obtain ⟨hi1, hi2⟩ : 1 ≤ i ∧ i ≤ k := by
     have h1 := hB.clrow hak hca
     have h2 := hB.nk
     rw [hig] at h1; omega
   clear hi hra
   obtain ⟨i0, rfl⟩ : ∃ i0, i = i0 + 1 := ⟨i - 1, by omega⟩
   clear hi1
   rw [hig] at hLB
   have hLF : ∀ q, 1 ≤ q → q ≤ k → gB cl3 q = false → lS1 (cK kl) (gI ul1) (gI vl1) (gI ll2) (i0 + 1) q < 1099511627776 := fun q a1 a2 a3 => by
     have hw0 : 0 ≤ W := hW0
     have hw1 : W ≤ 65536 := hW1
     have := (lS1_bnd hB hc hw0 (show 3 * W < 1099511627776 by omega) hP hak hca a1 a2 a3).2.1
     rw [hig] at this; omega
   replace hig : Hid (gN rl1 a = i0 + 1) := hig
   refine run_sq ?_
   refine run_pl [yy 0, yy 1] ?_
   refine yAc 10 (.int .i64 1099511627776) ?_
   refine yAc 11 (.int .i64 0) ?_
   refine Sch.nil ?_
   refine run_sq ?_
   refine kp (sub_cons 0 rfl rfl (sub_cons 4 rfl rfl (sub_cons 5 rfl rfl (sub_cons 6 rfl rfl (sub_cons 7 rfl rfl (sub_cons 9 rfl rfl (sub_cons 10 rfl rfl (sub_cons 11 rfl rfl (sub_nil _))))))))) (sscan (R := _) (n := n) (W := W) (rk := rk) (T := T) hF hsb hW hu hv hr hl hy hcc hk hkb s1 s2 hlr s3 s4 hl3 hrows hi2 hak hbu hbv hLB hcB hLF ?_)
   intro yl2 ll3 dl nx w9 hs hF hsb hW hu hv hr hl hy hcc hly hll3 hR hD
   replace hT := hT.t hs
   refine run_sq ?_
   replace hly : Hid (yl2.length = k + 1) := hly; replace hll3 : Hid (ll3.length = k + 1) := hll3; refine kp (sub_cons 0 rfl rfl (sub_cons 4 rfl rfl (sub_cons 5 rfl rfl (sub_cons 6 rfl rfl (sub_cons 7 rfl rfl (sub_cons 10 rfl rfl (sub_cons 11 rfl rfl (sub_nil _)))))))) (sshift (R := _) (n := n) (W := W) (rk := rk) (T := T) hF hsb hW hu hv hr hl hy hcc hk hkb s1 s2 hlr hly hll3 hl3 hbu hbv hLB hB hR hD ?_)
   intro ul2 vl2 ll4 w10 hs hF hsb hW hu hv hr hl hy hcc hlu hlv hll4 hR2
   replace hlu : Hid (ul2.length = k + 1) := hlu; replace hlv : Hid (vl2.length = k + 1) := hlv; replace hll4 : Hid (ll4.length = k + 1) := hll4
   replace hT := hT.t hs
   refine run_pl [yy 0, yy 1] ?_
   refine yM 178 11 ?_
   refine yA 4 178 ?_
   refine Sch.nil ?_
   refine run_inBlock ?_
   have hig2 : gN rl1 a = i0 + 1 := hig
   have h3W2 : 3 * W < 1099511627776 := h3W
   have hP4 : HP1 k 1099511627776 n (gI ul1) (gI ll2) (gB cl3) ∧ a = 0 ∨ HP2 k (cK kl) W n a (gI ul1) (gI vl1) (gN rl1) (gN yl1) (gI ll2) (gB cl3) := hP
   rw [← hig2] at hR hD
   obtain ⟨q1, q2, q3, hBn, hPn, q6⟩ := reach_law hB hc h3W2 hP4 hak hca hR hD hR2
   clear hR hD hR2 hbu hbv hcB hLB hig hig2 hP hB hP4
   by_cases hrz : gN rl1 nx = 0
   ·
    refine kp (sub_cons 0 rfl rfl (sub_cons 4 rfl rfl (sub_cons 5 rfl rfl (sub_cons 6 rfl rfl (sub_cons 7 rfl rfl (sub_nil _)))))) (next2 (nx, ul2, vl2, yl2, ll4, cl3, rk, T, C2) _ ⟨q2, q3, ⟨hlu, hlv, hly, hll4, hl3⟩, (.inr ⟨hrz, hBn, hPn, q1, q6⟩), hF, hT, hsb, hW, hu, hv, hr, hl, hy, hcc⟩ hct)
   ·
    obtain ⟨hB2, hP2⟩ := hBn.close hPn q1 q2 q3 q6 hrz
    refine kp (sub_cons 0 rfl rfl (sub_cons 4 rfl rfl (sub_cons 5 rfl rfl (sub_cons 6 rfl rfl (sub_cons 7 rfl rfl (sub_nil _)))))) (next2 (nx, ul2, vl2, yl2, ll4, cl3, (fun j => if j = nx then T + 1 else rk j), T + 1, C2) _ ⟨q2, q3, ⟨hlu, hlv, hly, hll4, hl3⟩, (.inl ⟨hrz, hB2, .inr hP2⟩), hF, hT, hsb, hW, hu, hv, hr, hl, hy, hcc⟩ hct)
  ·
   have hra : gN rl1 a = 0 := by rw [show gN rl1 a = rl1[a]'(by have e : rl1.length = k + 1 := hlr; omega) from getD_in _]; omega
   obtain ⟨hrz, hB, hP, q1, q6⟩ := hSt.resolve_left (fun e => e.1 hra)
   clear hSt h57 hra
   have hfl := hB.flip0 q1 hak hrz
   refine run_ex 2 ?_
   refine run_bk 8 ?_
   
   refine run_lp (ι := Nat × (List Nat) × (Nat → Nat)) (I := fun x w => Hid (x.2.1.length = k + 1) ∧ HFl k (cK kl) n a (gI ul1) (gI vl1) (gN rl1) (gB cl2) rk x.1 (gN x.2.1) ∧ Lim w x.2.2 ∧ Stp [4, 5, 6, 7, 8, 9] w₀ (colE C) w x.2.2 ∧ OwnB w x.2.2 3 sb (.cells [.int .i64 k, xk, xu, xv, xr].toArray 80) ∧ RV w (Mc x.2.2) kl xk ∧ OwnL w x.2.2 4 3 xu ul1 ∧ OwnL w x.2.2 5 3 xv vl1 ∧ OwnL w x.2.2 6 3 xr x.2.1 ∧ OwnL w x.2.2 8 3 v26 ll2 ∧ OwnL w x.2.2 7 3 v32 yl1 ∧ OwnL w x.2.2 9 4 v38 cl2) (e := fun x => [(0, .pointer (some ⟨sb, 0, none⟩)), (4, .int .i64 x.1), (5, v26), (6, v32), (7, v38)]) (m := fun x => (if x.1 = a then T + 1 else rk x.1)) (x₀ := (a, rl1, C2)) (sr 0 (sr 4 (sr 5 (sr 6 (sr 7 (sub_nil _)))))) ?_ ?_
   · exact ⟨hlr, hfl, hF, hT, hsb, hW, hu, hv, hr, hl, hy, hcc⟩
   intro ⟨p, rl2, C5⟩ w11 hI next
   obtain ⟨hlr2, hfl, hF, hT, hsb, hW, hu, hv, hr, hl, hy, hcc⟩ := hI
   try simp only at hlr2 hfl hF hT hsb hW hu hv hr hl hy hcc
   have next3 := next
   clear next
   show Run _ _ _ _ [(0, .pointer (some ⟨sb, 0, none⟩)), (4, .int .i64 p), (5, v26), (6, v32), (7, v38)] _ _
   have hpk := hfl.pk
   refine run_sq ?_
   refine run_sq ?_
   refine run_pl [yy 0, yy 1] ?_
   refine yM 179 4 ?_
   refine yV (kq 180 (.binOp .neq 3 (.tmp 179) (.const (.int .i64 0)) 3)) (fun _ => val_neq rfl rfl) ?_
   refine Sch.nil ?_
   refine run_i 180 rfl (fun h180 => ?_) (fun h180 => ?_)
   ·
    have hp0 : p ≠ 0 := by omega
    refine run_sk ?_
    refine run_bk 9 ?_
    refine run_sq ?_
    refine run_draw (id := 31) (ops := F54.o31) [6] (C5) [yy 0, yy 1, yy 2, yy 3, yy 4, yy 5, yy 6, yy 7, yy 8, yy 9, yy 10, yy 11, yy 12, yy 13, nn 14, yy 15, nn 16] Try_mixed (by kernel_rfl) (by kernel_rfl) (by kernel_rfl) ?_
    intro w12 hs
    replace hF := hF.st hs
    replace hT := hT.t hs; replace hsb := hsb.t hs; replace hW := hW.t hs; replace hu := hu.t hs; replace hv := hv.t hs; replace hr := hr.t hs; replace hl := hl.t hs; replace hy := hy.t hs; replace hcc := hcc.t hs
    have hR := Stp.refl [6] w12 (C5)
    refine yM 181 0 ?_
    refine yN 182 181 ?_
    refine yF 183 80 182 4 4 ?_
    refine yS (kq 184 (.load 22 (.tmp 183))) rfl rfl (fun w' hS => val_loadOwn (hsb.sy hS) (by kernel_rfl) rfl rfl) ?_
    refine yM 185 4 ?_
    refine yM 186 0 ?_
    refine yN 187 186 ?_
    refine yF 188 80 187 4 4 ?_
    refine yS (kq 189 (.load 22 (.tmp 188))) rfl rfl (fun w' hS => val_loadOwn (hsb.sy hS) (by kernel_rfl) rfl rfl) ?_
    refine yM 190 6 ?_
    refine yM 191 4 ?_
    refine oI (e' := 3) (kq 192 (.indexAddr 22 (.tmp 190) (.tmp 191))) rfl rfl hy rfl (by kernel_rfl) rfl (by omega) (by (have e : yl1.length = k + 1 := s3; omega)) ?_
    intro g192 hg192
    try simp only [Int.toNat_natCast]
    refine oS (I := [6]) (kq 193 (.load 3 (.tmp 192))) rfl rfl hy hg192 (fun w' hS => hy.sy hg192 hS) (by (have e : yl1.length = k + 1 := s3; omega)) (by kernel_rfl) rfl rfl ?_
    intro v193 g193
    try simp only [Int.toNat_natCast] at g193
    first | (obtain rfl := rv_nat.1 g193) | (obtain rfl := rv_int.1 g193)
    obtain ⟨q, hq⟩ : ∃ q, q = yl1[p]'(by have e : yl1.length = k + 1 := s3; omega) := ⟨_, rfl⟩
    rw [← hq]
    have hqg : gN yl1 p = q := by rw [hq]; exact getD_in _
    obtain ⟨r1, r2, r3, r4, r5⟩ := hB.flip hP q1 hak hac q6 hfl hp0 (row2 := fun j => if p = j then gN rl2 (gN yl1 p) else gN rl2 j) (if_pos rfl) (fun j hj => if_neg (fun e => hj e.symm))
    rw [hqg] at r1 r2 r3 r4 r5
    refine oI (e' := 3) (kq 194 (.indexAddr 22 (.tmp 189) (.tmp 193))) rfl rfl hr rfl (by kernel_rfl) rfl (by omega) (by (first | (have e : rl2.length = k + 1 := hlr2; omega) | (have e : rl1.length = k + 1 := hlr; omega) | (have e : rl.length = k + 1 := e3; omega))) ?_
    intro g194 hg194
    try simp only [Int.toNat_natCast]
    refine oN (kq 195 (.load 3 (.tmp 194))) rfl rfl hR.ext hr hg194 (by (first | (have e : rl2.length = k + 1 := hlr2; omega) | (have e : rl1.length = k + 1 := hlr; omega) | (have e : rl.length = k + 1 := e3; omega))) (by kernel_rfl) rfl rfl ?_
    intro v195 g195
    try simp only [Int.toNat_natCast] at g195
    first | (obtain rfl := rv_nat.1 g195) | (obtain rfl := rv_int.1 g195)
    refine oI (e' := 3) (kq 196 (.indexAddr 22 (.tmp 184) (.tmp 185))) rfl rfl hr rfl (by kernel_rfl) rfl (by omega) (by (first | (have e : rl2.length = k + 1 := hlr2; omega) | (have e : rl1.length = k + 1 := hlr; omega) | (have e : rl.length = k + 1 := e3; omega))) ?_
    intro g196 hg196
    try simp only [Int.toNat_natCast]
    refine Sch.free rfl ?_
    refine aN (k0 (.store 3 (.tmp 196) (.tmp 195))) rfl (a_storeO hr hg196 (by (first | (have e : rl2.length = k + 1 := hlr2; omega) | (have e : rl1.length = k + 1 := hlr; omega) | (have e : rl.length = k + 1 := e3; omega))) rfl rfl (by kernel_rfl) (rv_nat.2 rfl)) ?_
    rintro _ w13 ⟨rfl, hs, hr⟩
    refine ⟨trivial, ?_⟩
    replace hF := hF.st hs
    replace hT := hT.t hs; replace hsb := hsb.t hs; replace hW := hW.t hs; replace hu := hu.t hs; replace hv := hv.t hs; replace hl := hl.t hs; replace hy := hy.t hs; replace hcc := hcc.t hs
    refine Sch.nil ?_
    refine run_pl [yy 0, yy 1, yy 2, nn 3, yy 4] ?_
    refine yM 197 6 ?_
    refine yM 198 4 ?_
    refine oI (e' := 3) (kq 199 (.indexAddr 22 (.tmp 197) (.tmp 198))) rfl rfl hy rfl (by kernel_rfl) rfl (by omega) (by (have e : yl1.length = k + 1 := s3; omega)) ?_
    intro g199 hg199
    try simp only [Int.toNat_natCast]
    refine oN (kq 200 (.load 3 (.tmp 199))) rfl rfl trivial hy hg199 (by (have e : yl1.length = k + 1 := s3; omega)) (by kernel_rfl) rfl rfl ?_
    intro v200 g200
    try simp only [Int.toNat_natCast] at g200
    first | (obtain rfl := rv_nat.1 g200) | (obtain rfl := rv_int.1 g200)
    rw [← hq]
    refine yA 4 200 ?_
    refine Sch.nil ?_
    refine run_inBlock ?_
    refine kp (sub_cons 0 rfl rfl (sub_cons 4 rfl rfl (sub_cons 5 rfl rfl (sub_cons 6 rfl rfl (sub_cons 7 rfl rfl (sub_nil _)))))) (next3 (q, rl2.set p (rl2[q]'(by have e : rl2.length = k + 1 := hlr2; omega)), C5) _ ⟨(by show _ = _; simp only [List.length_set]; exact hlr2), (by
        simp only
        have e : gN (rl2.set p (rl2[q]'(by have e : rl2.length = k + 1 := hlr2; omega))) = fun j => if p = j then gN rl2 q else gN rl2 j := by
          funext j
          show (rl2.set p _).getD j 0 = _
          rw [getD_set (by have e : rl2.length = k + 1 := hlr2; omega)]
          have e3 : rl2.getD q 0 = rl2[q]'(by have e : rl2.length = k + 1 := hlr2; omega) := getD_in _
          show _ = if p = j then rl2.getD q 0 else rl2.getD j 0
          rw [e3]
        rw [e]; exact r1), hF, hT, hsb, hW, hu, hv, hr, hl, hy, hcc⟩ (by
        simp only
        have h1 := hB.rkT q r2 r4
        rw [if_neg (fun e => by rw [e, hac] at r4; cases r4)]
        rcases r3 with r3 | r3
        · rw [if_pos r3]; omega
        · split <;> omega))
   ·
    have hp0 : p = 0 := by omega
    subst hp0
    refine run_ex 8 ?_
    refine run_end0 Try.func54 rfl ?_
    obtain ⟨hrz2, _⟩ : gN rl1 a = 0 ∧ True := ⟨hrz, trivial⟩
    have hdone := hB.done hc hP q1 hak hrz2 hfl
    exact ⟨ul1, vl1, rl2, rfl, hT.outF, ⟨hsb.back hsb0, hW.out hT hF0 (Mc_colE C), hu.back hu0 hT hF0, hv.back hv0 hT hF0, hr.back hr0_ hT hF0, s1, s2, hlr2⟩, hdone⟩
end Go.Proofs.Ytgooehopkmbkfaa
