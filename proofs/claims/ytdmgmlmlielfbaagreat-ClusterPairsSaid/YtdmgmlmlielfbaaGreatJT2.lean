/- Steps through functions of the program. -/
import Derived.Test.YtdmgmlmlielfbaaGreatJT1
set_option linter.unusedVariables false
set_option linter.unusedSimpArgs false
set_option maxRecDepth 100000
set_option maxHeartbeats 4000000
namespace Go.Proofs.YtdmgmlmlielfbaaGreat
open Go.K Go.K.Rep
noncomputable section
namespace F134
def c0 := bodyOf Tryz.f134
def c25 := (cr (cr (cr (cr (cr c0)))))
def c47 := (cl (cr (cl (cl (cr c25)))))
def o14 := rops (cl (cr c47))
end F134
theorem add_ok {w₀ : World} {C : Nat → Nat} {sb : Nat} {xw xu xv xr xy xl xc : Value} {wl : List (List Int)} {ul vl : List Int} {rl yl : List Nat} {ll : List Int} {cl : List Bool} {k n : Nat} {W : Int} (hF : Lim w₀ C) (hs : SV w₀ C sb xw xu xv xr xy xl xc wl ul vl rl yl ll cl)
    (hk : wl.length = k) (hrows : ∀ r ∈ wl, r.length = k) (hI : HI k (cW wl) W n (gI ul) (gI vl) (gN rl)) (hnk : n < k) (hc : ∀ r j, 1 ≤ r → r ≤ k → 1 ≤ j → j ≤ k → -W ≤ cW wl r j ∧ cW wl r j ≤ 0) (hW0 : 0 ≤ W) (hW1 : W ≤ 288230376151711744) (hWk : (k + 1) * W ≤ 288230376151711744) (hkb : k ≤ 1000000) :
    Calls Tryz.prog 134 #[.pointer (some ⟨sb, 0, none⟩), .int .i64 ((n + 1 : Nat) : Int)] w₀ (Ret fun v w' => ∃ (ul' vl' : List Int) (rl' yl' : List Nat) (ll' : List Int) (cl' : List Bool), v = .tuple #[] ∧ Stp [11, 12, 13, 14, 15, 16] w₀ C w' C ∧ SV w' C sb xw xu xv xr xy xl xc wl ul' vl' rl' yl' ll' cl' ∧
      HI k (cW wl) W (n + 1) (gI ul') (gI vl') (gN rl')) := by
 obtain ⟨hsb, hW, hu, hv, hr, hy, hl, hcc, e1, e2, e3, e4, e5, e6⟩ := hs
 have hT := Stp.refl [11, 12, 13, 14, 15, 16] w₀ C
 replace hWk : Hid ((k + 1) * W ≤ 288230376151711744) := hWk
 replace hW0 : Hid (0 ≤ W) := hW0
 replace hW1 : Hid (W ≤ 288230376151711744) := hW1
 refine c_st F134.c0 75 [.pointer (some ⟨sb, 0, none⟩), .int .i64 ((n + 1 : Nat) : Int)] Tryz.func134 ?_
 show Run _ _ _ _ [(0, .pointer (some ⟨sb, 0, none⟩)), (1, .int .i64 ((n + 1 : Nat) : Int))] _ _
 refine run_sq (run_pl [yy 0, yy 1, yy 2, nn 3, yy 4, yy 5] ?_)
 refine yM 8 0 ?_
 refine yN 9 8 ?_
 refine yF 10 162 9 0 0 ?_
 refine nO 11 158 10 hsb.at_ rfl rfl ?_
 refine yS (kq 12 (.call { callee := .builtin .len, args := #[(.tmp 11)], argTypes := #[158] })) rfl rfl (fun w' hS => hW.lenV rfl Tryz.underlying158 w' ) ?_
 refine yA 4 12 ?_
 refine Sch.nil (run_sq (run_pl [yy 0, yy 1, yy 2, nn 3, yy 4, yy 5, nn 6] ?_))
 refine yM 13 0 ?_
 refine yN 14 13 ?_
 refine yF 15 162 14 3 3 ?_
 refine nO 16 22 15 hsb.at_ rfl rfl ?_
 refine yM 17 1 ?_
 refine oI (e' := 3) (kq 18 (.indexAddr 22 (.tmp 16) (.const (.int .i64 0)))) rfl rfl hr rfl (by kernel_rfl) rfl (by omega) (by omega) ?_
 intro g18 hg18
 try simp only [Int.toNat_natCast]
 refine aU (k0 (.store 3 (.tmp 18) (.tmp 17))) rfl (a_storeO hr hg18 (by omega) rfl rfl (by kernel_rfl) (rv_nat.2 rfl)) ?_
 rintro _ w1 ⟨rfl, s_1, hr⟩
 refine Sch.nil ?_
 simp only [show (0 : Int).toNat = 0 from rfl] at hr
 obtain ⟨rl1, hrl1⟩ : ∃ l, l = rl.set 0 (n + 1) := ⟨_, rfl⟩
 rw [← hrl1] at hr
 have hlr : rl1.length = wl.length + 1 := by rw [hrl1, List.length_set]; exact e3
 have hr0 : gN rl1 0 = n + 1 := by rw [hrl1]; show (rl.set 0 (n + 1)).getD 0 0 = _; rw [getD_set (by omega), if_pos rfl]
 have hrr : ∀ j, j ≠ 0 → gN rl1 j = gN rl j := fun j hj => by rw [hrl1]; show (rl.set 0 (n + 1)).getD j 0 = _; rw [getD_set (by omega), if_neg (fun e => hj e.symm)]
 clear hrl1
 replace hr0 : Hid (gN rl1 0 = n + 1) := hr0
 refine run_sq (run_pl [yy 0, yy 1, yy 2, nn 3, nn 4] ?_)
 refine yM 19 0 ?_
 refine yN 20 19 ?_
 refine yF 21 162 20 6 6 ?_
 replace hsb := hsb.t s_1
 refine nO 22 122 21 hsb.at_ rfl rfl ?_
 replace hcc := hcc.t s_1
 refine aU (k0 (.call { callee := .builtin .clear, args := #[(.tmp 22)], argTypes := #[122] })) rfl (a_clear (x0 := false) (zs := [.bool false]) hcc (hcc.subSelf (by omega)) (by omega) (by omega) Tryz.underlying122 (by kernel_rfl) (fun h M => rfl) rfl) ?_
 rintro _ wc ⟨s_2, hcc⟩
 obtain ⟨cl1, hcl1⟩ : ∃ l : List Bool, l = List.replicate cl.length false := ⟨_, rfl⟩
 simp only [List.take_zero, List.nil_append] at hcc
 rw [← hcl1] at hcc
 have hlc : cl1.length = wl.length + 1 := by rw [hcl1, List.length_replicate]; exact e6
 have hcf : ∀ j, gB cl1 j = false := fun j => by rw [hcl1]; exact getD_rep
 refine Sch.nil (run_sq (run_sq (run_pl [yy 0, yy 1, yy 2] ?_)))
 refine yM 23 4 ?_
 refine yI 24 3 23 1 ?_
 refine yC 25 (.int .i64 0) ?_
 refine Sch.nil (run_bk 0 ?_)
 refine run_lp (ι := Nat × (List Int)) (I := fun x w => x.1 ≤ k + 1 ∧ x.2.length = k + 1 ∧ (∀ q, q < x.1 → gI x.2 q = 4611686018427387904) ∧ Lim w C ∧ Stp [11, 12, 13, 14, 15, 16] w₀ C w C ∧ OwnB w C 10 sb (.cells [xw, xu, xv, xr, xy, xl, xc].toArray 162) ∧ RV w (Mc C) wl xw ∧ OwnL w C 11 3 xu ul ∧ OwnL w C 12 3 xv vl ∧ OwnL w C 13 3 xr rl1 ∧ OwnL w C 14 3 xy yl ∧ OwnL w C 15 3 xl x.2 ∧ OwnL w C 16 4 xc cl1) (e := fun x => [(0, .pointer (some ⟨sb, 0, none⟩)), (4, .int .i64 wl.length), (24, .int .i64 ((k + 1 : Nat) : Int)), (25, .int .i64 x.1)]) (m := fun x => k + 1 - x.1) (x₀ := (0, ll)) (sr 0 (sr 4 (sub_cons 24 rfl (eq_int (by omega)) (sr 25 (sub_nil _))))) ?_ ?_
 ·
   replace hF := (hF.st s_1).st s_2; replace hT := (hT.t s_1).t s_2; replace hW := (hW.t s_1).t s_2; replace hu := (hu.t s_1).t s_2; replace hv := (hv.t s_1).t s_2; replace hy := (hy.t s_1).t s_2; replace hl := (hl.t s_1).t s_2; replace hsb := hsb.t s_2; replace hr := hr.t s_2
   exact ⟨Nat.zero_le _, (by simp only; omega), (fun q hq => by simp only at hq; omega), hF, hT, hsb, hW, hu, hv, hr, hy, hl, hcc⟩
 intro ⟨j, ll1⟩ w2 hI next1
 obtain ⟨hj, hll, hlf, hF, hT, hsb, hW, hu, hv, hr, hy, hl, hcc⟩ := hI
 try simp only at hj hll hlf hF hT hsb hW hu hv hr hy hl hcc
 show Run _ _ _ _ [(0, .pointer (some ⟨sb, 0, none⟩)), (4, .int .i64 wl.length), (24, .int .i64 ((k + 1 : Nat) : Int)), (25, .int .i64 j)] _ _
 refine run_sq (run_pl [yy 0] ?_)
 refine yL 26 3 25 24 ?_
 refine Sch.nil (run_sq ?_)
 refine run_i 26 rfl (fun h26 => ?_) (fun h26 => ?_)
 ·
  have hjk : j ≤ k := by omega
  refine run_sk (run_sq (run_bk 1 (run_sq (run_pl [yy 0, yy 1] ?_))))
  refine yM 27 25 ?_
  refine yA 5 27 ?_
  refine Sch.nil (run_pl [yy 0, yy 1, yy 2, nn 3, yy 4, yy 5, nn 6] ?_)
  refine yM 28 0 ?_
  refine yN 29 28 ?_
  refine yF 30 162 29 5 5 ?_
  refine nO 31 22 30 hsb.at_ rfl rfl ?_
  refine yM 32 5 ?_
  refine oR 3 33 22 31 32 hl rfl (by omega) (h := ?_)
  intro g33 hg33
  try simp only [Int.toNat_natCast]
  refine aU (k0 (.store 3 (.tmp 33) (.const (.int .i64 4611686018427387904)))) rfl (a_storeO hl hg33 (by omega) rfl rfl (by kernel_rfl) (rv_int.2 rfl)) ?_
  rintro _ w3 ⟨rfl, s_3, hl⟩
  refine Sch.nil (run_inBlock (run_pl [yy 0, yy 1] ?_))
  refine yI 34 3 25 1 ?_
  refine yM 25 34 ?_
  refine Sch.nil ?_
  replace hF := hF.st s_3; replace hT := hT.t s_3; replace hsb := hsb.t s_3; replace hW := hW.t s_3; replace hu := hu.t s_3; replace hv := hv.t s_3; replace hr := hr.t s_3; replace hy := hy.t s_3; replace hcc := hcc.t s_3
  refine kp (sub_cons 0 rfl rfl (sub_cons 4 rfl rfl (sub_cons 24 rfl rfl (sub_cons 25 rfl (eq_int (by simp)) (sub_nil _))))) (next1 (j + 1, ll1.set j 4611686018427387904) _ ⟨(by first | omega | (simp only; omega)), (by simp only [List.length_set]; exact hll), (fun q hq => by
      simp only at hq
      show (ll1.set j 4611686018427387904).getD q 0 = _
      rw [getD_set (by omega)]
      split
      · rfl
      · exact hlf q (by omega)), hF, hT, hsb, hW, hu, hv, hr, hy, hl, hcc⟩ (by first | omega | (simp only; omega)))
 have hjk : j = k + 1 := by omega
 subst hjk
 clear h26 hj e3 e5 e6
 obtain ⟨hB0, hP1⟩ := hI.begin (far := 4611686018427387904) (cl := fun q => if q = 0 then true else gB cl1 q) (least := gI ll1) (row' := gN rl1) hnk hr0 hrr (fun q a b => hlf q (by omega)) (fun q a b => by rw [if_neg (by omega)]; exact hcf q) (if_pos rfl) (gN yl)
 refine run_ex 0 ?_
 refine run_sq (run_pl [yy 0] ?_)
 refine yAc 6 (.int .i64 0) ?_
 refine Sch.nil (run_sq (run_bk 2 ?_))
 refine run_lp (ι := Nat × (List Int) × (List Int) × (List Nat) × (List Int) × (List Bool) × (Nat → Nat) × Nat) (I := fun x w => x.1 ≤ k ∧ gB x.2.2.2.2.2.1 x.1 = false ∧ (x.2.1.length = k + 1 ∧ x.2.2.1.length = k + 1 ∧ x.2.2.2.1.length = k + 1 ∧ x.2.2.2.2.1.length = k + 1 ∧ x.2.2.2.2.2.1.length = k + 1) ∧ HB k (cW wl) W n (gI x.2.1) (gI x.2.2.1) (gN rl1) (gN x.2.2.2.1) (fun q => if q = x.1 then true else gB x.2.2.2.2.2.1 q) x.2.2.2.2.2.2.1 x.2.2.2.2.2.2.2 ∧ (HP1 k 4611686018427387904 n (gI x.2.1) (gI x.2.2.2.2.1) (fun q => if q = x.1 then true else gB x.2.2.2.2.2.1 q) ∧ x.1 = 0 ∨ HP2 k (cW wl) W n x.1 (gI x.2.1) (gI x.2.2.1) (gN rl1) (gN x.2.2.2.1) (gI x.2.2.2.2.1) (fun q => if q = x.1 then true else gB x.2.2.2.2.2.1 q)) ∧ Lim w C ∧ Stp [11, 12, 13, 14, 15, 16] w₀ C w C ∧ OwnB w C 10 sb (.cells [xw, xu, xv, xr, xy, xl, xc].toArray 162) ∧ RV w (Mc C) wl xw ∧ OwnL w C 11 3 xu x.2.1 ∧ OwnL w C 12 3 xv x.2.2.1 ∧ OwnL w C 13 3 xr rl1 ∧ OwnL w C 14 3 xy x.2.2.2.1 ∧ OwnL w C 15 3 xl x.2.2.2.2.1 ∧ OwnL w C 16 4 xc x.2.2.2.2.2.1) (e := fun x => [(0, .pointer (some ⟨sb, 0, none⟩)), (6, .int .i64 x.1)]) (m := fun x => x.2.2.2.2.2.1.count false) (x₀ := (0, ul, vl, yl, ll1, cl1, fun _ => 0, 0)) (sr 0 (sr 6 (sub_nil _))) ?_ ?_
 · exact ⟨Nat.zero_le _, (hcf 0), (by simp only; omega), hB0, (.inl ⟨hP1, rfl⟩), hF, hT, hsb, hW, hu, hv, hr, hy, hl, hcc⟩
 intro ⟨a, ul1, vl1, yl1, ll2, cl2, rk, T⟩ w4 hI next2
 obtain ⟨hak, hac, hls, hB, hP, hF, hT, hsb, hW, hu, hv, hr, hy, hl, hcc⟩ := hI
 try simp only at hak hac hls hB hP hF hT hsb hW hu hv hr hy hl hcc
 show Run _ _ _ _ [(0, .pointer (some ⟨sb, 0, none⟩)), (6, .int .i64 a)] _ _
 obtain ⟨s1, s2, s3, s4, s5⟩ := hls
 refine run_bk 3 (run_sq (run_pl [yy 0, yy 1, yy 2, nn 3, yy 4, yy 5, nn 6] ?_))
 refine yM 35 0 ?_
 refine yN 36 35 ?_
 refine yF 37 162 36 6 6 ?_
 refine nO 38 122 37 hsb.at_ rfl rfl ?_
 refine yM 39 6 ?_
 refine oR 4 40 122 38 39 hcc rfl (by omega) (h := ?_)
 intro g40 hg40
 try simp only [Int.toNat_natCast]
 refine aU (k0 (.store 4 (.tmp 40) (.const (.bool true)))) rfl (a_storeO hcc hg40 (by omega) rfl rfl (by kernel_rfl) (rv_bool.2 rfl)) ?_
 rintro _ w5 ⟨rfl, s_4, hcc⟩
 refine Sch.nil ?_
 have hce := gB_set (cl := cl2) (a := a) (by omega)
 rw [← hce] at hB hP
 have hct := count_set (cl := cl2) (a := a) (by omega) (by rw [← hac]; exact (getD_in (by omega)).symm)
 obtain ⟨cl3, hcl3⟩ : ∃ l, l = cl2.set a true := ⟨_, rfl⟩
 rw [← hcl3] at hB hP hcc hct hce
 have hl3 : cl3.length = k + 1 := by rw [hcl3, List.length_set]; exact s5
 have hca : gB cl3 a = true := by rw [hce]; exact if_pos rfl
 replace hP : Hid (HP1 k 4611686018427387904 n (gI ul1) (gI ll2) (gB cl3) ∧ a = 0 ∨ HP2 k (cW wl) W n a (gI ul1) (gI vl1) (gN rl1) (gN yl1) (gI ll2) (gB cl3)) := hP
 replace hct : Hid (cl3.count false < cl2.count false) := hct
 clear hcl3 hce hac
 refine run_sq (run_pl [yy 0, yy 1, nn 2, yy 3] ?_)
 refine yM 41 0 ?_
 refine yM 42 6 ?_
 replace hF := hF.st s_4; replace hsb := hsb.t s_4; replace hW := hW.t s_4; replace hu := hu.t s_4; replace hv := hv.t s_4; replace hr := hr.t s_4; replace hy := hy.t s_4; replace hl := hl.t s_4
 refine cG 43 146 [41, 42] [160, 3] Tryz.call146 rfl (reach_ok (rk := rk) (T := T) hF ⟨hsb, hW, hu, hv, hr, hy, hl, hcc, by omega, by omega, by omega, by omega, by omega, by omega⟩ hk hrows hB hc hW0 hW1 hWk hkb hP hak hca) ?_
 rintro vw6 w6 ⟨nx, ul2, vl2, yl2, ll3, rfl, s_5, ⟨hsb, hW, hu, hv, hr, hy, hl, hcc, t1, t2, t3, t4, t5, t6⟩, q1, q2, q3, hB, hP, q6⟩
 replace q6 : Hid (gI ll3 nx = 0) := q6
 clear s1 s2 s3 s4 s5
 refine yA 6 43 ?_
 refine Sch.nil (run_sq (run_pl [yy 0, yy 1, yy 2, nn 3, yy 4, yy 5, nn 6, yy 7] ?_))
 refine yM 44 0 ?_
 refine yN 45 44 ?_
 refine yF 46 162 45 3 3 ?_
 refine nO 47 22 46 hsb.at_ rfl rfl ?_
 refine yM 48 6 ?_
 refine oR 3 49 22 47 48 hr rfl (by omega) (h := ?_)
 intro g49 hg49
 try simp only [Int.toNat_natCast]
 refine oN (kq 50 (.load 3 (.tmp 49))) rfl rfl trivial hr hg49 (by omega) (by kernel_rfl) rfl rfl ?_
 intro v50 g50
 try simp only [Int.toNat_natCast] at g50
 first | (obtain rfl := rv_nat.1 g50) | (obtain rfl := rv_int.1 g50)
 refine yV (kq 51 (.binOp .eql 3 (.tmp 50) (.const (.int .i64 0)) 3)) (fun _ => val_eql rfl rfl) ?_
 refine Sch.nil ?_
 refine run_i 51 rfl (fun h51 => ?_) (fun h51 => ?_)
 ·
  have hrz : Hid (gN rl1 nx = 0) := (getD_in (by omega)).trans (by omega)
  clear h51
  have hfl := hB.flip0 q1 q2 hrz
  refine run_ex 2 ?_
  refine run_bk 4 ?_
  refine run_lp (ι := Nat × (List Nat)) (I := fun x w => x.2.length = k + 1 ∧ HFl k (cW wl) n nx (gI ul2) (gI vl2) (gN rl1) (gB cl3) rk x.1 (gN x.2) ∧ Lim w C ∧ Stp [11, 12, 13, 14, 15, 16] w₀ C w C ∧ OwnB w C 10 sb (.cells [xw, xu, xv, xr, xy, xl, xc].toArray 162) ∧ RV w (Mc C) wl xw ∧ OwnL w C 11 3 xu ul2 ∧ OwnL w C 12 3 xv vl2 ∧ OwnL w C 13 3 xr x.2 ∧ OwnL w C 14 3 xy yl2 ∧ OwnL w C 15 3 xl ll3 ∧ OwnL w C 16 4 xc cl3) (e := fun x => [(0, .pointer (some ⟨sb, 0, none⟩)), (6, .int .i64 x.1)]) (m := fun x => (if x.1 = nx then T + 1 else rk x.1)) (x₀ := (nx, rl1)) (sr 0 (sr 6 (sub_nil _))) ?_ ?_
  ·
    replace hT := (hT.t s_4).t s_5; replace hF := hF.st s_5
    exact ⟨(by simp only; omega), hfl, hF, hT, hsb, hW, hu, hv, hr, hy, hl, hcc⟩
  intro ⟨p, rl2⟩ w7 hI next3
  obtain ⟨hlr2, hfl, hF, hT, hsb, hW, hu, hv, hr, hy, hl, hcc⟩ := hI
  try simp only at hlr2 hfl hF hT hsb hW hu hv hr hy hl hcc
  show Run _ _ _ _ [(0, .pointer (some ⟨sb, 0, none⟩)), (6, .int .i64 p)] _ _
  have hpk := hfl.pk
  refine run_sq (run_sq (run_pl [yy 0, yy 1] ?_))
  refine yM 52 6 ?_
  refine yV (kq 53 (.binOp .neq 3 (.tmp 52) (.const (.int .i64 0)) 3)) (fun _ => val_neq rfl rfl) ?_
  refine Sch.nil ?_
  refine run_i 53 rfl (fun h53 => ?_) (fun h53 => ?_)
  ·
   have hp0 : p ≠ 0 := by omega
   refine run_sk (run_bk 5 (run_sq (run_pl [yy 0, yy 1, yy 2, nn 3, yy 4, yy 5, nn 6, yy 7] ?_)))
   refine yM 54 0 ?_
   refine yN 55 54 ?_
   refine yF 56 162 55 4 4 ?_
   refine nO 57 22 56 hsb.at_ rfl rfl ?_
   refine yM 58 6 ?_
   refine oR 3 59 22 57 58 hy rfl (by omega) (h := ?_)
   intro g59 hg59
   try simp only [Int.toNat_natCast]
   refine oN (kq 60 (.load 3 (.tmp 59))) rfl rfl trivial hy hg59 (by omega) (by kernel_rfl) rfl rfl ?_
   intro v60 g60
   try simp only [Int.toNat_natCast] at g60
   first | (obtain rfl := rv_nat.1 g60) | (obtain rfl := rv_int.1 g60)
   obtain ⟨q, hq⟩ : ∃ q, q = yl2[p]'(by omega) := ⟨_, rfl⟩
   rw [← hq]
   have hqg : gN yl2 p = q := by rw [hq]; exact getD_in _
   obtain ⟨r1, r2, r3, r4, r5⟩ := hB.flip hP q1 q2 q3 q6 hfl hp0 (row2 := fun j => if p = j then gN rl2 (gN yl2 p) else gN rl2 j) (if_pos rfl) (fun j hj => if_neg (fun e => hj e.symm))
   rw [hqg] at r1 r2 r3 r4 r5
   clear hq hqg
   refine yA 7 60 ?_
   refine Sch.nil (run_sq ?_)
   refine run_draw (id := 14) (ops := F134.o14) [13] (C) [yy 0, yy 1, yy 2, yy 3, yy 4, yy 5, yy 6, yy 7, yy 8, yy 9, yy 10, nn 11, yy 12, nn 13] Tryz_mixed (by kernel_rfl) (by kernel_rfl) (by kernel_rfl) ?_
   intro w8 s_6
   have hR := Stp.refl [13] w8 (C)
   refine yM 61 0 ?_
   refine yN 62 61 ?_
   refine yF 63 162 62 3 3 ?_
   replace hsb := hsb.t s_6
   refine yS (kq 64 (.load 22 (.tmp 63))) rfl rfl (fun w' hS => val_loadOwn (hsb.sy hS) (by kernel_rfl) rfl rfl) ?_
   refine yM 65 6 ?_
   refine yM 66 0 ?_
   refine yN 67 66 ?_
   refine yF 68 162 67 3 3 ?_
   refine yS (kq 69 (.load 22 (.tmp 68))) rfl rfl (fun w' hS => val_loadOwn (hsb.sy hS) (by kernel_rfl) rfl rfl) ?_
   refine yM 70 7 ?_
   replace hr := hr.t s_6
   refine oR 3 71 22 69 70 hr rfl (by omega) (h := ?_)
   intro g71 hg71
   try simp only [Int.toNat_natCast]
   refine oN (kq 72 (.load 3 (.tmp 71))) rfl rfl hR.ext hr hg71 (by omega) (by kernel_rfl) rfl rfl ?_
   intro v72 g72
   try simp only [Int.toNat_natCast] at g72
   first | (obtain rfl := rv_nat.1 g72) | (obtain rfl := rv_int.1 g72)
   refine oR 3 73 22 64 65 hr rfl (by omega) (h := ?_)
   intro g73 hg73
   try simp only [Int.toNat_natCast]
   refine Sch.free rfl ?_
   refine aU (k0 (.store 3 (.tmp 73) (.tmp 72))) rfl (a_storeO hr hg73 (by omega) rfl rfl (by kernel_rfl) (rv_nat.2 rfl)) ?_
   rintro _ w9 ⟨rfl, s_7, hr⟩
   refine Sch.nil (run_pl [yy 0, yy 1] ?_)
   refine yM 74 7 ?_
   refine yA 6 74 ?_
   refine Sch.nil (run_inBlock ?_)
   replace hF := (hF.st s_6).st s_7; replace hT := (hT.t s_6).t s_7; replace hW := (hW.t s_6).t s_7; replace hu := (hu.t s_6).t s_7; replace hv := (hv.t s_6).t s_7; replace hy := (hy.t s_6).t s_7; replace hl := (hl.t s_6).t s_7; replace hcc := (hcc.t s_6).t s_7; replace hsb := hsb.t s_7
   refine kp (sub_cons 0 rfl rfl (sub_cons 6 rfl rfl (sub_nil _))) (next3 (q, rl2.set p (rl2[q]'(by omega))) _ ⟨(by simp only [List.length_set]; exact hlr2), (by
        simp only
        have e : gN (rl2.set p (rl2[q]'(by omega))) = fun j => if p = j then gN rl2 q else gN rl2 j := by
          funext j
          show (rl2.set p _).getD j 0 = _
          rw [getD_set (by omega)]
          have e3 : rl2.getD q 0 = rl2[q]'(by omega) := getD_in _
          show _ = if p = j then rl2.getD q 0 else rl2.getD j 0
          rw [e3]
        rw [e]; exact r1), hF, hT, hsb, hW, hu, hv, hr, hy, hl, hcc⟩ (by
        simp only
        have h1 := hB.rkT q r2 r4
        rw [if_neg (fun e => by rw [e, q3] at r4; cases r4)]
        rcases r3 with r3 | r3
        · rw [if_pos r3]; omega
        · split <;> omega))
  have hp0 : p = 0 := by omega
  subst hp0
  refine run_ex 4 ?_
  refine run_end0 Tryz.func134 rfl ?_
  exact ⟨ul2, vl2, rl2, yl2, ll3, cl3, rfl, hT, ⟨hsb, hW, hu, hv, hr, hy, hl, hcc, by omega, by omega, by omega, by omega, by omega, by omega⟩, hB.done hc hP q1 q2 hrz hfl⟩
 have hrz : gN rl1 nx ≠ 0 := fun e => h51 (by rw [show gN rl1 nx = rl1[nx]'(by omega) from getD_in _] at e; omega)
 obtain ⟨hB2, hP2⟩ := hB.close hP q1 q2 q3 q6 hrz
 clear hrz h51
 refine run_sk (run_inBlock ?_)
 replace hT := (hT.t s_4).t s_5; replace hF := hF.st s_5
 refine kp (sr 0 (sr 6 (sub_nil _))) (next2 (nx, ul2, vl2, yl2, ll3, cl3, (fun j => if j = nx then T + 1 else rk j), T + 1) _ ⟨q2, q3, (by simp only; omega), hB2, (.inr hP2), hF, hT, hsb, hW, hu, hv, hr, hy, hl, hcc⟩ hct)
end
end Go.Proofs.YtdmgmlmlielfbaaGreat
