/- Steps through functions of the program. -/
import Derived.Test.YtdmgmlmlielfbaaGreatJD3
import Derived.Test.YtdmgmlmlielfbaaGreatL2
set_option linter.unusedVariables false
set_option linter.unusedSimpArgs false
set_option maxRecDepth 100000
set_option maxHeartbeats 4000000
namespace Go.Proofs.YtdmgmlmlielfbaaGreat
open Go.K Go.K.Rep
noncomputable section
structure SV (w : World) (C : Nat → Nat) (sb : Nat) (xw xu xv xr xy xl xc : Value) (wl : List (List Int)) (ul vl : List Int) (rl yl : List Nat) (ll : List Int) (cl : List Bool) : Prop where
  hsb : OwnB w C 10 sb (.cells [xw, xu, xv, xr, xy, xl, xc].toArray 162)
  hW : RV w (Mc C) wl xw
  hu : OwnL w C 11 3 xu ul
  hv : OwnL w C 12 3 xv vl
  hr : OwnL w C 13 3 xr rl
  hy : OwnL w C 14 3 xy yl
  hl : OwnL w C 15 3 xl ll
  hcc : OwnL w C 16 4 xc cl
  lens : ul.length = wl.length + 1 ∧ vl.length = wl.length + 1 ∧ rl.length = wl.length + 1 ∧ yl.length = wl.length + 1 ∧ ll.length = wl.length + 1 ∧ cl.length = wl.length + 1
namespace F146
def c0 := bodyOf Tryz.f146
def o1 := rops (cl (cr c0))
def c9 := (cr (cl (cr (cr (cr c0)))))
def c19 := (cl (cl (cr (cl (cl c9)))))
def o7 := rops (cl (cl (cr c19)))
def c31 := (cl (cr (cr (cl (cr c19)))))
def o9 := rops c31
def c40 := (cl (cr (cr (cr (cr c0)))))
def c51 := (cl (cr (cl (cl (cr c40)))))
def o16 := rops (cl (cl (cr (cl c51))))
end F146
theorem reach_ok {w₀ : World} {C : Nat → Nat} {sb : Nat} {xw xu xv xr xy xl xc : Value} {wl : List (List Int)} {ul vl : List Int} {rl yl : List Nat} {ll : List Int} {cl : List Bool} {k n a T : Nat} {W : Int} {rk : Nat → Nat} (hF : Lim w₀ C) (hs : SV w₀ C sb xw xu xv xr xy xl xc wl ul vl rl yl ll cl)
    (hk : wl.length = k) (hrows : ∀ r ∈ wl, r.length = k) (hB : HB k (cW wl) W n (gI ul) (gI vl) (gN rl) (gN yl) (gB cl) rk T) (hc : ∀ r j, 1 ≤ r → r ≤ k → 1 ≤ j → j ≤ k → -W ≤ cW wl r j ∧ cW wl r j ≤ 0) (hW0 : 0 ≤ W) (hW1 : W ≤ 288230376151711744) (hWk : (k + 1) * W ≤ 288230376151711744) (hkb : k ≤ 1000000)
    (hp : HP1 k 4611686018427387904 n (gI ul) (gI ll) (gB cl) ∧ a = 0 ∨ HP2 k (cW wl) W n a (gI ul) (gI vl) (gN rl) (gN yl) (gI ll) (gB cl)) (hat : a ≤ k) (hca : gB cl a = true) :
    Calls Tryz.prog 146 #[.pointer (some ⟨sb, 0, none⟩), .int .i64 a] w₀ (Ret fun v w' => ∃ (next : Nat) (ul' vl' : List Int) (yl' : List Nat) (ll' : List Int), v = .int .i64 next ∧ Stp [11, 12, 14, 15] w₀ C w' C ∧ SV w' C sb xw xu xv xr xy xl xc wl ul' vl' rl yl' ll' cl ∧ 1 ≤ next ∧ next ≤ k ∧ gB cl next = false ∧
      HB k (cW wl) W n (gI ul') (gI vl') (gN rl) (gN yl') (gB cl) rk T ∧ HP2 k (cW wl) W n (k + 1) (gI ul') (gI vl') (gN rl) (gN yl') (gI ll') (gB cl) ∧ gI ll' next = 0) := by
 obtain ⟨hsb, hW, hu, hv, hr, hy, hl, hcc, e1, e2, e3, e4, e5, e6⟩ := hs
 have hT := Stp.refl [11, 12, 14, 15] w₀ C
 have h3W : 3 * W < 4611686018427387904 := by omega
 obtain ⟨hbu, hbv, hcB, hLB⟩ := reach_bnd hB hc hW0 hW1 hWk h3W hp hat hca
 clear hW0 hW1 hWk
 replace h3W : Hid (3 * W < 4611686018427387904) := h3W
 replace hp : Hid (HP1 k 4611686018427387904 n (gI ul) (gI ll) (gB cl) ∧ a = 0 ∨ HP2 k (cW wl) W n a (gI ul) (gI vl) (gN rl) (gN yl) (gI ll) (gB cl)) := hp
 refine c_st F146.c0 154 [.pointer (some ⟨sb, 0, none⟩), .int .i64 a] Tryz.func146 ?_
 show Run _ _ _ _ [(0, .pointer (some ⟨sb, 0, none⟩)), (1, .int .i64 a)] _ _
 refine run_sq (run_pl [yy 0] ?_)
 refine yAc 4 (.int .i64 0) ?_
 refine Sch.nil (run_sq ?_)
 refine run_draw (id := 1) (ops := F146.o1) [] (C) [yy 0, yy 1, yy 2, yy 3, yy 4, yy 5, yy 6, yy 7, yy 8, yy 9, yy 10, yy 11, yy 12, yy 13] Tryz_mixed (by kernel_rfl) (by kernel_rfl) (by kernel_rfl) ?_
 intro w1 s_1
 refine yM 12 0 ?_
 refine yN 13 12 ?_
 refine yF 14 162 13 0 0 ?_
 replace hsb := hsb.t s_1
 refine yS (kq 15 (.load 158 (.tmp 14))) rfl rfl (fun w' hS => val_loadOwn (hsb.sy hS) (by kernel_rfl) rfl rfl) ?_
 replace hW := hW.t s_1
 refine yS (kq 16 (.call { callee := .builtin .len, args := #[(.tmp 15)], argTypes := #[158] })) rfl rfl (fun w' hS => hW.lenV rfl Tryz.underlying158 w' ) ?_
 refine yM 17 0 ?_
 refine yN 18 17 ?_
 refine yF 19 162 18 3 3 ?_
 refine yS (kq 20 (.load 22 (.tmp 19))) rfl rfl (fun w' hS => val_loadOwn (hsb.sy hS) (by kernel_rfl) rfl rfl) ?_
 refine yM 21 1 ?_
 replace hr := hr.t s_1
 refine oR 3 22 22 20 21 hr rfl (by omega) (h := ?_)
 intro g22 hg22
 try simp only [Int.toNat_natCast]
 refine oS (I := []) (kq 23 (.load 3 (.tmp 22))) rfl rfl hr hg22 (fun w' hS => hr.sy hg22 hS) (by omega) (by kernel_rfl) rfl rfl ?_
 intro v23 g23
 try simp only [Int.toNat_natCast] at g23
 first | (obtain rfl := rv_nat.1 g23) | (obtain rfl := rv_int.1 g23)
 refine yA 5 16 ?_
 refine yA 6 23 ?_
 refine Sch.nil ?_
 obtain ⟨i, hi⟩ : ∃ i, i = rl[a]'(by omega) := ⟨_, rfl⟩
 rw [← hi]
 have hig : gN rl a = i := by rw [hi]; exact getD_in _
 obtain ⟨hi1, hi2⟩ : 1 ≤ i ∧ i ≤ k := by
   have h1 := hB.clrow hat hca
   have h2 := hB.nk
   rw [hig] at h1; omega
 clear hi
 obtain ⟨i0, rfl⟩ : ∃ i0, i = i0 + 1 := ⟨i - 1, by omega⟩
 clear hi1
 rw [hig] at hLB
 replace hig : Hid (gN rl a = i0 + 1) := hig
 have hui := hbu (i0 + 1) hi2
 rw [show gI ul (i0 + 1) = ul[i0 + 1]'(by omega) from getD_in _] at hui
 refine run_sq (run_pl [yy 0, yy 1] ?_)
 refine yAc 7 (.int .i64 4611686018427387904) ?_
 refine yAc 8 (.int .i64 0) ?_
 refine Sch.nil (run_sq (run_sq (run_pl [yy 0] ?_)))
 refine yAc 9 (.int .i64 1) ?_
 refine Sch.nil (run_bk 0 ?_)
 refine run_lp (ι := Nat × (List Nat) × (List Int) × Int × Nat) (I := fun x w => x.1 ≤ k ∧ x.2.1.length = k + 1 ∧ x.2.2.1.length = k + 1 ∧ RL1 (cW wl) (gI ul) (gI vl) (gB cl) (gI ll) (gN yl) (i0 + 1) a k (x.1 + 1) (gI x.2.2.1) (gN x.2.1) ∧ RLD (gB cl) (lS1 (cW wl) (gI ul) (gI vl) (gI ll) (i0 + 1)) 4611686018427387904 (x.1 + 1) x.2.2.2.1 x.2.2.2.2 ∧ Lim w C ∧ Stp [11, 12, 14, 15] w₀ C w C ∧ OwnB w C 10 sb (.cells [xw, xu, xv, xr, xy, xl, xc].toArray 162) ∧ RV w (Mc C) wl xw ∧ OwnL w C 11 3 xu ul ∧ OwnL w C 12 3 xv vl ∧ OwnL w C 13 3 xr rl ∧ OwnL w C 14 3 xy x.2.1 ∧ OwnL w C 15 3 xl x.2.2.1 ∧ OwnL w C 16 4 xc cl) (e := fun x => [(0, .pointer (some ⟨sb, 0, none⟩)), (1, .int .i64 a), (5, .int .i64 wl.length), (6, .int .i64 ((i0 + 1 : Nat) : Int)), (7, .int .i64 x.2.2.2.1), (8, .int .i64 x.2.2.2.2), (9, .int .i64 ((x.1 + 1 : Nat) : Int))]) (m := fun x => k - x.1) (x₀ := (0, yl, ll, 4611686018427387904, 0)) (sr 0 (sr 1 (sr 5 (sr 6 (sr 7 (sr 8 (sr 9 (sub_nil _)))))))) ?_ ?_
 ·
   replace hF := hF.st s_1; replace hT := hT.t s_1; replace hu := hu.t s_1; replace hv := hv.t s_1; replace hy := hy.t s_1; replace hl := hl.t s_1; replace hcc := hcc.t s_1
   exact ⟨Nat.zero_le _, (by simp only; omega), (by simp only; omega), RL1.start, RLD.start, hF, hT, hsb, hW, hu, hv, hr, hy, hl, hcc⟩
 intro ⟨j0, yl1, ll1, dl, nx⟩ w2 hI next1
 obtain ⟨hj, hly, hll, hR, hD, hF, hT, hsb, hW, hu, hv, hr, hy, hl, hcc⟩ := hI
 try simp only at hj hly hll hR hD hF hT hsb hW hu hv hr hy hl hcc
 show Run _ _ _ _ [(0, .pointer (some ⟨sb, 0, none⟩)), (1, .int .i64 a), (5, .int .i64 wl.length), (6, .int .i64 ((i0 + 1 : Nat) : Int)), (7, .int .i64 dl), (8, .int .i64 nx), (9, .int .i64 ((j0 + 1 : Nat) : Int))] _ _
 refine run_sq (run_sq (run_pl [yy 0, yy 1, yy 2] ?_))
 refine yM 24 9 ?_
 refine yM 25 5 ?_
 refine yV (kq 26 (.binOp .leq 3 (.tmp 24) (.tmp 25) 3)) (fun _ => val_leq rfl rfl) ?_
 refine Sch.nil ?_
 refine run_i 26 rfl (fun h26 => ?_) (fun h26 => ?_)
 ·
  have hjk : j0 + 1 ≤ k := by omega
  refine run_sk (run_sq (run_bk 1 (run_sq (run_sq (run_pl [yy 0, yy 1, yy 2, nn 3, yy 4, yy 5, nn 6] ?_)))))
  refine yM 29 0 ?_
  refine yN 30 29 ?_
  refine yF 31 162 30 6 6 ?_
  refine nO 32 122 31 hsb.at_ rfl rfl ?_
  refine yM 33 9 ?_
  refine oR 4 34 122 32 33 hcc rfl (by omega) (h := ?_)
  intro g34 hg34
  try simp only [Int.toNat_natCast]
  refine oN (kq 35 (.load 4 (.tmp 34))) rfl rfl trivial hcc hg34 (by omega) (by kernel_rfl) rfl rfl ?_
  intro v35 g35
  try simp only [Int.toNat_natCast] at g35
  obtain rfl := rv_bool.1 g35
  refine Sch.nil ?_
  refine run_c 35 rfl (fun h35 => ?_) (fun h35 => ?_)
  ·
   have hcj : gB cl (j0 + 1) = true := (getD_in (by omega)).trans h35
   refine run_ex 1 ?_
   refine run_pl [yy 0, yy 1, yy 2] ?_
   refine yM 27 9 ?_
   refine yI 28 3 27 1 ?_
   refine yA 9 28 ?_
   refine Sch.nil ?_
   refine kp (sr 0 (sr 1 (sr 5 (sr 6 (sr 7 (sr 8 (sub_cons 9 rfl (eq_int (by omega)) (sub_nil _)))))))) (next1 (j0 + 1, yl1, ll1, dl, nx) _ ⟨(by first | omega | (simp only; omega)), (by first | omega | (simp only; omega)), (by first | omega | (simp only; omega)), (hR.skip hcj), (hD.skip hcj), hF, hT, hsb, hW, hu, hv, hr, hy, hl, hcc⟩ (by first | omega | (simp only; omega)))
  have hcj : gB cl (j0 + 1) = false := (getD_in (by omega)).trans h35
  have hvj := hbv (j0 + 1) hjk
  rw [show gI vl (j0 + 1) = vl[j0 + 1]'(by omega) from getD_in _] at hvj
  have hlb := hLB (j0 + 1) (by omega) hjk hcj
  have hrl : (wl[i0]'(by omega)).length = k := hrows _ (List.getElem_mem _)
  refine run_sk (run_sq (run_sq ?_))
  refine run_draw (id := 7) (ops := F146.o7) [] (C) [yy 0, yy 1, yy 2, yy 3, yy 4, yy 5, yy 6, yy 7, yy 8, yy 9, yy 10, yy 11, yy 12, yy 13, yy 14, yy 15, yy 16, yy 17, yy 18, yy 19, yy 20, yy 21, yy 22, yy 23, yy 24, yy 25, yy 26, yy 27, yy 28, yy 29] Tryz_mixed (by kernel_rfl) (by kernel_rfl) (by kernel_rfl) ?_
  intro w3 s_2
  refine yM 36 0 ?_
  refine yN 37 36 ?_
  refine yF 38 162 37 0 0 ?_
  replace hsb := hsb.t s_2
  refine yS (kq 39 (.load 158 (.tmp 38))) rfl rfl (fun w' hS => val_loadOwn (hsb.sy hS) (by kernel_rfl) rfl rfl) ?_
  refine yM 40 6 ?_
  refine yV (kq 41 (.binOp .sub 3 (.tmp 40) (.const (.int .i64 1)) 3)) (fun _ => val_subi rfl rfl (by omega) (by omega)) ?_
  replace hW := hW.t s_2
  refine iR 22 42 158 39 41 hW rfl (h := ?_)
  intro b42 o42 h42
  try simp only [Int.toNat_natCast] at h42
  simp only [show (((i0 + 1 : Nat) : Int) - 1).toNat = i0 from by omega] at h42
  refine lS (kq 43 (.load 22 (.tmp 42))) rfl rfl (fun w' hS => h42.sy hS) h42 (by kernel_rfl) rfl rfl ?_
  intro v43 g43
  refine yM 44 9 ?_
  refine yV (kq 45 (.binOp .sub 3 (.tmp 44) (.const (.int .i64 1)) 3)) (fun _ => val_subi rfl rfl (by omega) (by omega)) ?_
  refine iR 3 46 22 43 45 g43 rfl (h := ?_)
  intro b46 o46 h46
  try simp only [Int.toNat_natCast] at h46
  simp only [show (((j0 + 1 : Nat) : Int) - 1).toNat = j0 from by omega] at h46
  refine lS (kq 47 (.load 3 (.tmp 46))) rfl rfl (fun w' hS => h46.sy hS) h46 (by kernel_rfl) rfl rfl ?_
  intro v47 g47
  first | (obtain rfl := rv_nat.1 g47) | (obtain rfl := rv_int.1 g47)
  obtain ⟨x, hx⟩ : ∃ x, x = (wl[i0]'(by omega))[j0]'(by omega) := ⟨_, rfl⟩
  rw [← hx]
  have hcx : cW wl (i0 + 1) (j0 + 1) = -x := by rw [hx]; exact cW_at (r := i0 + 1) (j := j0 + 1) (by simp only [Nat.add_sub_cancel]; omega) (by simp only [Nat.add_sub_cancel]; omega)
  have hcb := hcB (i0 + 1) (j0 + 1) (by omega) hi2 (by omega) hjk
  rw [hcx] at hcb
  refine yV (kq 48 (.unOp .neg 3 (.tmp 47))) (fun _ => val_negi rfl (by omega) (by omega)) ?_
  refine yM 49 0 ?_
  refine yN 50 49 ?_
  refine yF 51 162 50 1 1 ?_
  refine yS (kq 52 (.load 22 (.tmp 51))) rfl rfl (fun w' hS => val_loadOwn (hsb.sy hS) (by kernel_rfl) rfl rfl) ?_
  refine yM 53 6 ?_
  replace hu := hu.t s_2
  refine oR 3 54 22 52 53 hu rfl (by omega) (h := ?_)
  intro g54 hg54
  try simp only [Int.toNat_natCast]
  refine oS (I := []) (kq 55 (.load 3 (.tmp 54))) rfl rfl hu hg54 (fun w' hS => hu.sy hg54 hS) (by omega) (by kernel_rfl) rfl rfl ?_
  intro v55 g55
  try simp only [Int.toNat_natCast] at g55
  first | (obtain rfl := rv_nat.1 g55) | (obtain rfl := rv_int.1 g55)
  refine yV (kq 56 (.binOp .sub 3 (.tmp 48) (.tmp 55) 3)) (fun _ => val_subi rfl rfl (by omega) (by omega)) ?_
  refine yM 57 0 ?_
  refine yN 58 57 ?_
  refine yF 59 162 58 2 2 ?_
  refine yS (kq 60 (.load 22 (.tmp 59))) rfl rfl (fun w' hS => val_loadOwn (hsb.sy hS) (by kernel_rfl) rfl rfl) ?_
  refine yM 61 9 ?_
  replace hv := hv.t s_2
  refine oR 3 62 22 60 61 hv rfl (by omega) (h := ?_)
  intro g62 hg62
  try simp only [Int.toNat_natCast]
  refine oS (I := []) (kq 63 (.load 3 (.tmp 62))) rfl rfl hv hg62 (fun w' hS => hv.sy hg62 hS) (by omega) (by kernel_rfl) rfl rfl ?_
  intro v63 g63
  try simp only [Int.toNat_natCast] at g63
  first | (obtain rfl := rv_nat.1 g63) | (obtain rfl := rv_int.1 g63)
  refine yV (kq 64 (.binOp .sub 3 (.tmp 56) (.tmp 63) 3)) (fun _ => val_subi rfl rfl (by omega) (by omega)) ?_
  refine yA 10 64 ?_
  refine Sch.nil ?_
  have hd : -x - ul[i0 + 1]'(by omega) - vl[j0 + 1]'(by omega) = dS (cW wl) (gI ul) (gI vl) (i0 + 1) (j0 + 1) := by
    unfold dS; rw [hcx, show gI ul (i0 + 1) = ul[i0 + 1]'(by omega) from getD_in _, show gI vl (j0 + 1) = vl[j0 + 1]'(by omega) from getD_in _]
  rw [hd]
  clear hd hcx hcb hx hvj
  have hcur := hR.cur (by omega) hjk hcj
  rw [show gI ll1 (j0 + 1) = ll1[j0 + 1]'(by omega) from getD_in _] at hcur
  obtain ⟨d, hd⟩ : ∃ d, d = dS (cW wl) (gI ul) (gI vl) (i0 + 1) (j0 + 1) := ⟨_, rfl⟩
  rw [← hd]
  rw [← hd] at hlb
  obtain ⟨lm, hlm⟩ : ∃ lm, lm = lS1 (cW wl) (gI ul) (gI vl) (gI ll) (i0 + 1) (j0 + 1) := ⟨_, rfl⟩
  rw [← hlm] at hlb
  refine run_sq (run_pl [yy 0, yy 1, yy 2, yy 3, nn 4, yy 5, yy 6, nn 7, yy 8] ?_)
  refine yM 65 10 ?_
  refine yM 66 0 ?_
  refine yN 67 66 ?_
  refine yF 68 162 67 5 5 ?_
  refine nO 69 22 68 hsb.at_ rfl rfl ?_
  refine yM 70 9 ?_
  replace hl := hl.t s_2
  refine oR 3 71 22 69 70 hl rfl (by omega) (h := ?_)
  intro g71 hg71
  try simp only [Int.toNat_natCast]
  refine oN (kq 72 (.load 3 (.tmp 71))) rfl rfl trivial hl hg71 (by omega) (by kernel_rfl) rfl rfl ?_
  intro v72 g72
  try simp only [Int.toNat_natCast] at g72
  first | (obtain rfl := rv_nat.1 g72) | (obtain rfl := rv_int.1 g72)
  refine yL 73 3 65 72 ?_
  refine Sch.nil ?_
  refine run_i 73 rfl (fun h73 => ?_) (fun h73 => ?_)
  ·
   have hlt : dS (cW wl) (gI ul) (gI vl) (i0 + 1) (j0 + 1) < gI ll (j0 + 1) := by rw [← hd, ← hcur]; exact h73
   have hR2 := hR.upd hcj hlt (least2 := gI (ll1.set (j0 + 1) d)) (way2 := gN (yl1.set (j0 + 1) a)) (fun q => by rw [← hd]; exact getD_set (by omega)) (fun q => getD_set (by omega))
   have hnl : (ll1.set (j0 + 1) d).length = k + 1 := by rw [List.length_set]; exact hll
   have hny : (yl1.set (j0 + 1) a).length = k + 1 := by rw [List.length_set]; exact hly
   have hv2 : (ll1.set (j0 + 1) d)[j0 + 1]'(by omega) = lm := by rw [List.getElem_set_self, hlm]; unfold lS1; rw [if_pos hlt]; exact hd
   refine run_draw (id := 9) (ops := F146.o9) [14, 15] (C) [yy 0, yy 1, yy 2, yy 3, yy 4, yy 5, yy 6, yy 7, yy 8, yy 9, yy 10, yy 11, yy 12, nn 13, yy 14, nn 15] Tryz_mixed (by kernel_rfl) (by kernel_rfl) (by kernel_rfl) ?_
   intro w4 s_3
   have hR := Stp.refl [14, 15] w4 (C)
   refine yM 74 0 ?_
   refine yN 75 74 ?_
   refine yF 76 162 75 5 5 ?_
   replace hsb := hsb.t s_3
   refine yS (kq 77 (.load 22 (.tmp 76))) rfl rfl (fun w' hS => val_loadOwn (hsb.sy hS) (by kernel_rfl) rfl rfl) ?_
   refine yM 78 9 ?_
   refine yM 79 0 ?_
   refine yN 80 79 ?_
   refine yF 81 162 80 4 4 ?_
   refine yS (kq 82 (.load 22 (.tmp 81))) rfl rfl (fun w' hS => val_loadOwn (hsb.sy hS) (by kernel_rfl) rfl rfl) ?_
   refine yM 83 9 ?_
   refine yM 84 10 ?_
   refine yM 85 1 ?_
   replace hl := hl.t s_3
   refine oR 3 86 22 77 78 hl rfl (by omega) (h := ?_)
   intro g86 hg86
   try simp only [Int.toNat_natCast]
   refine aN (k0 (.store 3 (.tmp 86) (.tmp 84))) rfl (a_storeO hl hg86 (by omega) rfl rfl (by kernel_rfl) (rv_int.2 rfl)) ?_
   rintro _ w5 ⟨rfl, s_4, hl⟩
   refine ⟨(hR.trans s_4 (by simp)).ext, ?_⟩
   replace hy := ((hy.t s_2).t s_3).t s_4
   refine oR 3 87 22 82 83 hy rfl (by omega) (h := ?_)
   intro g87 hg87
   try simp only [Int.toNat_natCast]
   refine Sch.free rfl ?_
   refine aU (k0 (.store 3 (.tmp 87) (.tmp 85))) rfl (a_storeO hy hg87 (by omega) rfl rfl (by kernel_rfl) (rv_nat.2 rfl)) ?_
   rintro _ w6 ⟨rfl, s_5, hy⟩
   refine Sch.nil (run_sq (run_pl [yy 0, yy 1, yy 2, nn 3, yy 4, yy 5, nn 6, yy 7, yy 8] ?_))
   refine yM 88 0 ?_
   refine yN 89 88 ?_
   refine yF 90 162 89 5 5 ?_
   replace hsb := (hsb.t s_4).t s_5
   refine nO 91 22 90 hsb.at_ rfl rfl ?_
   refine yM 92 9 ?_
   replace hl := hl.t s_5
   refine oR 3 93 22 91 92 hl rfl (by omega) (h := ?_)
   intro g93 hg93
   try simp only [Int.toNat_natCast]
   refine oN (kq 94 (.load 3 (.tmp 93))) rfl rfl trivial hl hg93 (by omega) (by kernel_rfl) rfl rfl ?_
   intro v94 g94
   try simp only [Int.toNat_natCast] at g94
   first | (obtain rfl := rv_nat.1 g94) | (obtain rfl := rv_int.1 g94)
   rw [hv2]
   refine yM 95 7 ?_
   refine yL 96 3 94 95 ?_
   refine Sch.nil ?_
   refine run_i 96 rfl (fun h96 => ?_) (fun h96 => ?_)
   ·
    refine run_pl [yy 0, yy 1, yy 2, nn 3, yy 4, yy 5, nn 6, yy 7, yy 8, yy 9] ?_
    refine yM 97 0 ?_
    refine yN 98 97 ?_
    refine yF 99 162 98 5 5 ?_
    refine nO 100 22 99 hsb.at_ rfl rfl ?_
    refine yM 101 9 ?_
    refine oR 3 102 22 100 101 hl rfl (by omega) (h := ?_)
    intro g102 hg102
    try simp only [Int.toNat_natCast]
    refine oN (kq 103 (.load 3 (.tmp 102))) rfl rfl trivial hl hg102 (by omega) (by kernel_rfl) rfl rfl ?_
    intro v103 g103
    try simp only [Int.toNat_natCast] at g103
    first | (obtain rfl := rv_nat.1 g103) | (obtain rfl := rv_int.1 g103)
    rw [hv2]
    refine yM 104 9 ?_
    refine yA 7 103 ?_
    refine yA 8 104 ?_
    refine Sch.nil (run_inBlock (run_pl [yy 0, yy 1, yy 2] ?_))
    refine yM 27 9 ?_
    refine yI 28 3 27 1 ?_
    refine yA 9 28 ?_
    refine Sch.nil ?_
    replace hF := (((hF.st s_2).st s_3).st s_4).st s_5; replace hT := (((hT.t s_2).t s_3).t s_4).t s_5; replace hr := (((hr.t s_2).t s_3).t s_4).t s_5; replace hcc := (((hcc.t s_2).t s_3).t s_4).t s_5; replace hW := ((hW.t s_3).t s_4).t s_5; replace hu := ((hu.t s_3).t s_4).t s_5; replace hv := ((hv.t s_3).t s_4).t s_5
    refine kp (sr 0 (sr 1 (sr 5 (sr 6 (sr 7 (sr 8 (sub_cons 9 rfl (eq_int (by omega)) (sub_nil _)))))))) (next1 (j0 + 1, yl1.set (j0 + 1) a, ll1.set (j0 + 1) d, lm, j0 + 1) _ ⟨(by first | omega | (simp only; omega)), hny, hnl, hR2, (by rw [hlm]; rw [hlm] at h96; exact hD.take (by omega) hcj h96), hF, hT, hsb, hW, hu, hv, hr, hy, hl, hcc⟩ (by first | omega | (simp only; omega)))
   refine run_sk (run_inBlock (run_pl [yy 0, yy 1, yy 2] ?_))
   refine yM 27 9 ?_
   refine yI 28 3 27 1 ?_
   refine yA 9 28 ?_
   refine Sch.nil ?_
   replace hF := (((hF.st s_2).st s_3).st s_4).st s_5; replace hT := (((hT.t s_2).t s_3).t s_4).t s_5; replace hr := (((hr.t s_2).t s_3).t s_4).t s_5; replace hcc := (((hcc.t s_2).t s_3).t s_4).t s_5; replace hW := ((hW.t s_3).t s_4).t s_5; replace hu := ((hu.t s_3).t s_4).t s_5; replace hv := ((hv.t s_3).t s_4).t s_5
   refine kp (sr 0 (sr 1 (sr 5 (sr 6 (sr 7 (sr 8 (sub_cons 9 rfl (eq_int (by omega)) (sub_nil _)))))))) (next1 (j0 + 1, yl1.set (j0 + 1) a, ll1.set (j0 + 1) d, dl, nx) _ ⟨(by first | omega | (simp only; omega)), hny, hnl, hR2, (by rw [hlm] at h96 hlb; exact hD.no (by omega) hcj h96 (by omega)), hF, hT, hsb, hW, hu, hv, hr, hy, hl, hcc⟩ (by first | omega | (simp only; omega)))
  have hlt : ¬ dS (cW wl) (gI ul) (gI vl) (i0 + 1) (j0 + 1) < gI ll (j0 + 1) := by rw [← hd, ← hcur]; exact h73
  have hR2 := hR.no hlt
  have hnl := hll
  have hny := hly
  have hv2 : ll1[j0 + 1]'(by omega) = lm := by rw [hlm]; unfold lS1; rw [if_neg hlt]; exact hcur
  refine run_sk (run_sq (run_pl [yy 0, yy 1, yy 2, nn 3, yy 4, yy 5, nn 6, yy 7, yy 8] ?_))
  refine yM 88 0 ?_
  refine yN 89 88 ?_
  refine yF 90 162 89 5 5 ?_
  refine nO 91 22 90 hsb.at_ rfl rfl ?_
  refine yM 92 9 ?_
  refine oR 3 93 22 91 92 hl rfl (by omega) (h := ?_)
  intro g93 hg93
  try simp only [Int.toNat_natCast]
  refine oN (kq 94 (.load 3 (.tmp 93))) rfl rfl trivial hl hg93 (by omega) (by kernel_rfl) rfl rfl ?_
  intro v94 g94
  try simp only [Int.toNat_natCast] at g94
  first | (obtain rfl := rv_nat.1 g94) | (obtain rfl := rv_int.1 g94)
  rw [hv2]
  refine yM 95 7 ?_
  refine yL 96 3 94 95 ?_
  refine Sch.nil ?_
  refine run_i 96 rfl (fun h96 => ?_) (fun h96 => ?_)
  ·
   refine run_pl [yy 0, yy 1, yy 2, nn 3, yy 4, yy 5, nn 6, yy 7, yy 8, yy 9] ?_
   refine yM 97 0 ?_
   refine yN 98 97 ?_
   refine yF 99 162 98 5 5 ?_
   refine nO 100 22 99 hsb.at_ rfl rfl ?_
   refine yM 101 9 ?_
   refine oR 3 102 22 100 101 hl rfl (by omega) (h := ?_)
   intro g102 hg102
   try simp only [Int.toNat_natCast]
   refine oN (kq 103 (.load 3 (.tmp 102))) rfl rfl trivial hl hg102 (by omega) (by kernel_rfl) rfl rfl ?_
   intro v103 g103
   try simp only [Int.toNat_natCast] at g103
   first | (obtain rfl := rv_nat.1 g103) | (obtain rfl := rv_int.1 g103)
   rw [hv2]
   refine yM 104 9 ?_
   refine yA 7 103 ?_
   refine yA 8 104 ?_
   refine Sch.nil (run_inBlock (run_pl [yy 0, yy 1, yy 2] ?_))
   refine yM 27 9 ?_
   refine yI 28 3 27 1 ?_
   refine yA 9 28 ?_
   refine Sch.nil ?_
   replace hF := hF.st s_2; replace hT := hT.t s_2; replace hr := hr.t s_2; replace hy := hy.t s_2; replace hcc := hcc.t s_2
   refine kp (sr 0 (sr 1 (sr 5 (sr 6 (sr 7 (sr 8 (sub_cons 9 rfl (eq_int (by omega)) (sub_nil _)))))))) (next1 (j0 + 1, yl1, ll1, lm, j0 + 1) _ ⟨(by first | omega | (simp only; omega)), hny, hnl, hR2, (by rw [hlm]; rw [hlm] at h96; exact hD.take (by omega) hcj h96), hF, hT, hsb, hW, hu, hv, hr, hy, hl, hcc⟩ (by first | omega | (simp only; omega)))
  refine run_sk (run_inBlock (run_pl [yy 0, yy 1, yy 2] ?_))
  refine yM 27 9 ?_
  refine yI 28 3 27 1 ?_
  refine yA 9 28 ?_
  refine Sch.nil ?_
  replace hF := hF.st s_2; replace hT := hT.t s_2; replace hr := hr.t s_2; replace hy := hy.t s_2; replace hcc := hcc.t s_2
  refine kp (sr 0 (sr 1 (sr 5 (sr 6 (sr 7 (sr 8 (sub_cons 9 rfl (eq_int (by omega)) (sub_nil _)))))))) (next1 (j0 + 1, yl1, ll1, dl, nx) _ ⟨(by first | omega | (simp only; omega)), hny, hnl, hR2, (by rw [hlm] at h96 hlb; exact hD.no (by omega) hcj h96 (by omega)), hF, hT, hsb, hW, hu, hv, hr, hy, hl, hcc⟩ (by first | omega | (simp only; omega)))
 have hjk : j0 = k := by omega
 subst hjk
 refine run_ex 0 ?_
 refine run_sq (run_sq (run_pl [yy 0] ?_))
 refine yAc 11 (.int .i64 0) ?_
 refine Sch.nil ?_
 have hdb : -288230376151711744 ≤ dl ∧ dl ≤ 576460752303423488 := by
   rcases hD with ⟨_, _, h3⟩ | ⟨n1, n2, n3, n4, n5⟩
   · exfalso
     obtain ⟨q0, f1, f2, f3⟩ := hB.free
     have := h3 q0 f1 (by omega)
     exact hB.clr q0 f1 f2 this f3
   have := hLB nx n1 (by omega) n3
   omega
 refine run_bk 2 ?_
 refine run_lp (ι := Nat × (List Int) × (List Int) × (List Int)) (I := fun x w => x.1 ≤ j0 + 1 ∧ x.2.1.length = j0 + 1 ∧ x.2.2.1.length = j0 + 1 ∧ x.2.2.2.length = j0 + 1 ∧ RL2 (gN rl) (gB cl) dl j0 (gI ul) (gI vl) (gI ll1) x.1 (gI x.2.1) (gI x.2.2.1) (gI x.2.2.2) ∧ Lim w C ∧ Stp [11, 12, 14, 15] w₀ C w C ∧ OwnB w C 10 sb (.cells [xw, xu, xv, xr, xy, xl, xc].toArray 162) ∧ RV w (Mc C) wl xw ∧ OwnL w C 11 3 xu x.2.1 ∧ OwnL w C 12 3 xv x.2.2.1 ∧ OwnL w C 13 3 xr rl ∧ OwnL w C 14 3 xy yl1 ∧ OwnL w C 15 3 xl x.2.2.2 ∧ OwnL w C 16 4 xc cl) (e := fun x => [(0, .pointer (some ⟨sb, 0, none⟩)), (5, .int .i64 wl.length), (7, .int .i64 dl), (8, .int .i64 nx), (11, .int .i64 x.1)]) (m := fun x => j0 + 1 - x.1) (x₀ := (0, ul, vl, ll1)) (sr 0 (sr 5 (sr 7 (sr 8 (sr 11 (sub_nil _)))))) ?_ ?_
 · exact ⟨Nat.zero_le _, (by simp only; omega), (by simp only; omega), hll, RL2.start, hF, hT, hsb, hW, hu, hv, hr, hy, hl, hcc⟩
 intro ⟨q, ul1, vl1, ll2⟩ w7 hI next2
 obtain ⟨hq, hlu, hlv, hll2, hR2, hF, hT, hsb, hW, hu, hv, hr, hy, hl, hcc⟩ := hI
 try simp only at hq hlu hlv hll2 hR2 hF hT hsb hW hu hv hr hy hl hcc
 show Run _ _ _ _ [(0, .pointer (some ⟨sb, 0, none⟩)), (5, .int .i64 wl.length), (7, .int .i64 dl), (8, .int .i64 nx), (11, .int .i64 q)] _ _
 refine run_sq (run_sq (run_pl [yy 0, yy 1, yy 2] ?_))
 refine yM 105 11 ?_
 refine yM 106 5 ?_
 refine yV (kq 107 (.binOp .leq 3 (.tmp 105) (.tmp 106) 3)) (fun _ => val_leq rfl rfl) ?_
 refine Sch.nil ?_
 refine run_i 107 rfl (fun h107 => ?_) (fun h107 => ?_)
 ·
  have hqk : q ≤ j0 := by omega
  refine run_sk (run_sq (run_bk 3 (run_sq (run_pl [yy 0, yy 1, yy 2, nn 3, yy 4, yy 5, nn 6] ?_))))
  refine yM 110 0 ?_
  refine yN 111 110 ?_
  refine yF 112 162 111 6 6 ?_
  refine nO 113 122 112 hsb.at_ rfl rfl ?_
  refine yM 114 11 ?_
  refine oR 4 115 122 113 114 hcc rfl (by omega) (h := ?_)
  intro g115 hg115
  try simp only [Int.toNat_natCast]
  refine oN (kq 116 (.load 4 (.tmp 115))) rfl rfl trivial hcc hg115 (by omega) (by kernel_rfl) rfl rfl ?_
  intro v116 g116
  try simp only [Int.toNat_natCast] at g116
  obtain rfl := rv_bool.1 g116
  refine Sch.nil ?_
  refine run_c 116 rfl (fun h116 => ?_) (fun h116 => ?_)
  ·
   have hcq : gB cl q = true := (getD_in (by omega)).trans h116
   obtain ⟨p, hp0⟩ : ∃ p, p = rl[q]'(by omega) := ⟨_, rfl⟩
   have hpg : gN rl q = p := by rw [hp0]; exact getD_in _
   have hpk : p ≤ j0 := by
     have h1 := hB.clrow hqk hcq
     have h2 := hB.nk
     rw [hpg] at h1; omega
   have hpu : ul1[p]'(by omega) = ul[p]'(by omega) := by
     have := hR2.u2 p (fun q' a b c e => by have := hB.clinj a hqk c (by rw [e, hpg]); omega)
     rwa [show gI ul1 p = ul1[p]'(by omega) from getD_in _, show gI ul p = ul[p]'(by omega) from getD_in _] at this
   have hpb := hbu p hpk
   rw [show gI ul p = ul[p]'(by omega) from getD_in _, ← hpu] at hpb
   have hvq : vl1[q]'(by omega) = vl[q]'(by omega) := by
     have := hR2.v1 q hqk hcq
     rw [if_neg (by omega)] at this
     rwa [show gI vl1 q = vl1[q]'(by omega) from getD_in _, show gI vl q = vl[q]'(by omega) from getD_in _] at this
   have hvb := hbv q hqk
   rw [show gI vl q = vl[q]'(by omega) from getD_in _, ← hvq] at hvb
   clear hpu hvq
   refine run_sq ?_
   refine run_draw (id := 16) (ops := F146.o16) [11] (C) [yy 0, yy 1, yy 2, yy 3, yy 4, yy 5, yy 6, yy 7, yy 8, yy 9, yy 10, yy 11, yy 13, nn 12, yy 14, yy 15, nn 16] Tryz_mixed (by kernel_rfl) (by kernel_rfl) (by kernel_rfl) ?_
   intro w8 s_6
   have hR := Stp.refl [11] w8 (C)
   refine yM 117 0 ?_
   refine yN 118 117 ?_
   refine yF 119 162 118 1 1 ?_
   replace hsb := hsb.t s_6
   refine yS (kq 120 (.load 22 (.tmp 119))) rfl rfl (fun w' hS => val_loadOwn (hsb.sy hS) (by kernel_rfl) rfl rfl) ?_
   refine yM 121 0 ?_
   refine yN 122 121 ?_
   refine yF 123 162 122 3 3 ?_
   refine yS (kq 124 (.load 22 (.tmp 123))) rfl rfl (fun w' hS => val_loadOwn (hsb.sy hS) (by kernel_rfl) rfl rfl) ?_
   refine yM 125 11 ?_
   replace hr := hr.t s_6
   refine oR 3 126 22 124 125 hr rfl (by omega) (h := ?_)
   intro g126 hg126
   try simp only [Int.toNat_natCast]
   refine oS (I := [11]) (kq 127 (.load 3 (.tmp 126))) rfl rfl hr hg126 (fun w' hS => hr.sy hg126 hS) (by omega) (by kernel_rfl) rfl rfl ?_
   intro v127 g127
   try simp only [Int.toNat_natCast] at g127
   first | (obtain rfl := rv_nat.1 g127) | (obtain rfl := rv_int.1 g127)
   rw [← hp0]
   replace hu := hu.t s_6
   refine oR 3 128 22 120 127 hu rfl (by omega) (h := ?_)
   intro g128 hg128
   try simp only [Int.toNat_natCast]
   refine yM 130 7 ?_
   refine oN (kq 129 (.load 3 (.tmp 128))) rfl rfl hR.ext hu hg128 (by omega) (by kernel_rfl) rfl rfl ?_
   intro v129 g129
   try simp only [Int.toNat_natCast] at g129
   first | (obtain rfl := rv_nat.1 g129) | (obtain rfl := rv_int.1 g129)
   refine yV (kq 131 (.binOp .add 3 (.tmp 129) (.tmp 130) 3)) (fun _ => val_addi rfl rfl (by omega) (by omega)) ?_
   refine oR 3 132 22 120 127 hu rfl (by omega) (h := ?_)
   intro g132 hg132
   try simp only [Int.toNat_natCast]
   refine Sch.free rfl ?_
   refine aU (k0 (.store 3 (.tmp 132) (.tmp 131))) rfl (a_storeO hu hg132 (by omega) rfl rfl (by kernel_rfl) (rv_int.2 rfl)) ?_
   rintro _ w9 ⟨rfl, s_7, hu⟩
   refine Sch.nil (run_pl [yy 0, yy 1, yy 2, nn 3, yy 4, yy 5, nn 6, yy 7, yy 8, yy 9, nn 10] ?_)
   refine yM 133 0 ?_
   refine yN 134 133 ?_
   refine yF 135 162 134 2 2 ?_
   replace hsb := hsb.t s_7
   refine nO 136 22 135 hsb.at_ rfl rfl ?_
   refine yM 137 11 ?_
   replace hv := (hv.t s_6).t s_7
   refine oR 3 138 22 136 137 hv rfl (by omega) (h := ?_)
   intro g138 hg138
   try simp only [Int.toNat_natCast]
   refine oN (kq 139 (.load 3 (.tmp 138))) rfl rfl trivial hv hg138 (by omega) (by kernel_rfl) rfl rfl ?_
   intro v139 g139
   try simp only [Int.toNat_natCast] at g139
   first | (obtain rfl := rv_nat.1 g139) | (obtain rfl := rv_int.1 g139)
   refine yM 140 7 ?_
   refine yV (kq 141 (.binOp .sub 3 (.tmp 139) (.tmp 140) 3)) (fun _ => val_subi rfl rfl (by omega) (by omega)) ?_
   refine oR 3 142 22 136 137 hv rfl (by omega) (h := ?_)
   intro g142 hg142
   try simp only [Int.toNat_natCast]
   refine aU (k0 (.store 3 (.tmp 142) (.tmp 141))) rfl (a_storeO hv hg142 (by omega) rfl rfl (by kernel_rfl) (rv_int.2 rfl)) ?_
   rintro _ w10 ⟨rfl, s_8, hv⟩
   refine Sch.nil (run_inBlock (run_pl [yy 0, yy 1, yy 2] ?_))
   refine yM 108 11 ?_
   refine yI 109 3 108 1 ?_
   refine yA 11 109 ?_
   refine Sch.nil ?_
   replace hF := ((hF.st s_6).st s_7).st s_8; replace hT := ((hT.t s_6).t s_7).t s_8; replace hW := ((hW.t s_6).t s_7).t s_8; replace hy := ((hy.t s_6).t s_7).t s_8; replace hl := ((hl.t s_6).t s_7).t s_8; replace hcc := ((hcc.t s_6).t s_7).t s_8; replace hr := (hr.t s_7).t s_8; replace hsb := hsb.t s_8; replace hu := hu.t s_8
   refine kp (sr 0 (sr 5 (sr 7 (sr 8 (sub_cons 11 rfl (eq_int (by simp)) (sub_nil _)))))) (next2 (q + 1, ul1.set p (ul1[p]'(by omega) + dl), vl1.set q (vl1[q]'(by omega) - dl), ll2) _ ⟨(by first | omega | (simp only; omega)), (by simp only [List.length_set]; exact hlu), (by simp only [List.length_set]; exact hlv), (by first | omega | (simp only; omega)), (hR2.shut hqk hcq (fun q' a c e => hB.clinj a hqk c e) (fun r => by rw [hpg, show gI ul1 p = ul1[p]'(by omega) from getD_in _]; exact getD_set (by omega)) (fun r => by rw [show gI vl1 q = vl1[q]'(by omega) from getD_in _]; exact getD_set (by omega))), hF, hT, hsb, hW, hu, hv, hr, hy, hl, hcc⟩ (by first | omega | (simp only; omega)))
  have hcq : gB cl q = false := (getD_in (by omega)).trans h116
  have hq1 : 1 ≤ q := by
    rcases Nat.eq_zero_or_pos q with e | e
    · subst e; rw [hB.c0] at hcq; cases hcq
    exact e
  have hlq : ll2[q]'(by omega) = lS1 (cW wl) (gI ul) (gI vl) (gI ll) (i0 + 1) q := by
    have h1 := hR2.l1 q hqk hcq
    rw [if_neg (by omega), hR.l q hq1 hqk hcq, if_pos (by omega)] at h1
    rwa [show gI ll2 q = ll2[q]'(by omega) from getD_in _] at h1
  have hlb := hLB q hq1 hqk hcq
  rw [← hlq] at hlb
  clear hlq
  refine run_pl [yy 0, yy 1, yy 2, nn 3, yy 4, yy 5, nn 6, yy 7, yy 8, yy 9, nn 10] ?_
  refine yM 143 0 ?_
  refine yN 144 143 ?_
  refine yF 145 162 144 5 5 ?_
  refine nO 146 22 145 hsb.at_ rfl rfl ?_
  refine yM 147 11 ?_
  refine oR 3 148 22 146 147 hl rfl (by omega) (h := ?_)
  intro g148 hg148
  try simp only [Int.toNat_natCast]
  refine oN (kq 149 (.load 3 (.tmp 148))) rfl rfl trivial hl hg148 (by omega) (by kernel_rfl) rfl rfl ?_
  intro v149 g149
  try simp only [Int.toNat_natCast] at g149
  first | (obtain rfl := rv_nat.1 g149) | (obtain rfl := rv_int.1 g149)
  refine yM 150 7 ?_
  refine yV (kq 151 (.binOp .sub 3 (.tmp 149) (.tmp 150) 3)) (fun _ => val_subi rfl rfl (by omega) (by omega)) ?_
  refine oR 3 152 22 146 147 hl rfl (by omega) (h := ?_)
  intro g152 hg152
  try simp only [Int.toNat_natCast]
  refine aU (k0 (.store 3 (.tmp 152) (.tmp 151))) rfl (a_storeO hl hg152 (by omega) rfl rfl (by kernel_rfl) (rv_int.2 rfl)) ?_
  rintro _ w11 ⟨rfl, s_9, hl⟩
  refine Sch.nil (run_inBlock (run_pl [yy 0, yy 1, yy 2] ?_))
  refine yM 108 11 ?_
  refine yI 109 3 108 1 ?_
  refine yA 11 109 ?_
  refine Sch.nil ?_
  replace hF := hF.st s_9; replace hT := hT.t s_9; replace hsb := hsb.t s_9; replace hW := hW.t s_9; replace hu := hu.t s_9; replace hv := hv.t s_9; replace hr := hr.t s_9; replace hy := hy.t s_9; replace hcc := hcc.t s_9
  refine kp (sr 0 (sr 5 (sr 7 (sr 8 (sub_cons 11 rfl (eq_int (by simp)) (sub_nil _)))))) (next2 (q + 1, ul1, vl1, ll2.set q (ll2[q]'(by omega) - dl)) _ ⟨(by first | omega | (simp only; omega)), (by first | omega | (simp only; omega)), (by first | omega | (simp only; omega)), (by simp only [List.length_set]; exact hll2), (hR2.op hcq (fun r => by rw [show gI ll2 q = ll2[q]'(by omega) from getD_in _]; exact getD_set (by omega)) hqk), hF, hT, hsb, hW, hu, hv, hr, hy, hl, hcc⟩ (by first | omega | (simp only; omega)))
 have hqk : q = j0 + 1 := by omega
 subst hqk
 refine run_ex 2 ?_
 refine run_sq (run_pl [yy 0, yy 1] ?_)
 refine yM 153 8 ?_
 refine yA 4 153 ?_
 refine Sch.nil ?_
 refine rt1 Tryz.func146 Tryz.results146 ?_
 have hig2 : gN rl a = i0 + 1 := hig
 rw [← hig2] at hR hD
 obtain ⟨q1, q2, q3, q4, q5, q6⟩ := reach_law hB hc h3W hp hat hca hR hD hR2
 exact ⟨nx, ul1, vl1, yl1, ll2, rfl, hT, ⟨hsb, hW, hu, hv, hr, hy, hl, hcc, by omega, by omega, by omega, by omega, by omega, by omega⟩, q1, q2, q3, q4, q5, q6⟩
end
end Go.Proofs.YtdmgmlmlielfbaaGreat
