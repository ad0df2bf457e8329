/- Steps through functions of the program. -/
import Derived.Test.YtdmgmlmlielfbaaGreatJT7
set_option linter.unusedVariables false
set_option linter.unusedSimpArgs false
set_option maxRecDepth 100000
set_option maxHeartbeats 4000000
namespace Go.Proofs.YtdmgmlmlielfbaaGreat
open Go.K Go.K.Rep
noncomputable section
namespace F69
def c0 := bodyOf Tryz.f69
def c41 := (cl (cr (cr (cr (cr c0)))))
def o13 := rops c41
end F69
theorem feasible_ok {w₀ : World} {C : Nat → Nat} {n m gb : Nat} {gr : Gr} {wt : Nat → Nat → Int} {U V : Nat → Int} {vst : Value} {stl : List Int} (hF : Lim w₀ C) (hG : GrIs n m wt U V gr) (hg : RA w₀ (Mc C) gr gb 0) (hst : RV w₀ (Mc C) stl vst) (hsl : stl.length = n)
    (hst2 : ∀ i, i < n → -2 ≤ gI stl i) (hlt : ∀ i, i < n → gI stl i < m) (hn : n ≤ 1000000) (hm : m ≤ 1000000) :
    Calls Tryz.prog 69 #[.pointer (some ⟨gb, 0, none⟩), vst, .nilFunc] w₀ (Ret fun v w' => ∃ b : Bool, v = .bool b ∧ Stp [] w₀ C w' C ∧ (b = true ↔ ∃ f, Tg n m (pos wt) U V f ∧ Goes n m (fun _ _ => True) (gI stl) f)) := by
 have hF0 := hF
 have hT := Stp.refl [2, 3, 4, 5, 6, 7, 8, 9] w₀ (col1 C)
 replace hF := hF.col1
 replace hg := (show RA w₀ (Mc (col1 C)) _ _ 0 from by rw [Mc_col1]; exact hg)
 replace hst := (show RV w₀ (Mc (col1 C)) _ _ from by rw [Mc_col1]; exact hst)
 refine c_st F69.c0 90 [.pointer (some ⟨gb, 0, none⟩), vst, .nilFunc] Tryz.func69 ?_
 show Run _ _ _ _ [(0, .pointer (some ⟨gb, 0, none⟩)), (1, vst), (2, .nilFunc)] _ _
 refine run_sq (run_pl [nn 0, nn 1, nn 2, yy 3] ?_)
 refine aT (kq 3 (.box 97 (.tmp 0))) rfl rfl (a_box (cs := [.pointer (some ⟨gb, 0, none⟩)]) hF 6 rfl rfl) ?_
 rintro _ w1 ⟨Cw1, bw1, rfl, s_1, hb3, hF⟩
 replace hst := hst.t s_1
 refine aT (kq 4 (.box 22 (.tmp 1))) rfl rfl (a_box (cs := [vst]) hF 6 rfl (hst.one rfl).1) ?_
 rintro _ w2 ⟨Cw2, bw2, rfl, s_2, hb4, hF⟩
 refine aT (kq 5 (.box 100 (.tmp 2))) rfl rfl (a_box (cs := [.nilFunc]) hF 6 rfl rfl) ?_
 rintro _ w3 ⟨Cw3, bw3, rfl, s_3, hb5, hF⟩
 refine yAc 6 (.bool false) ?_
 refine Sch.nil (run_sq (run_pl [nn 0, yy 1, yy 2, nn 3, nn 4, nn 5, nn 6] ?_))
 replace hb3 := (hb3.t s_2).t s_3
 refine nO 11 97 3 hb3.at_ rfl rfl ?_
 refine yN 12 11 ?_
 replace hg := ((hg.t s_1).t s_2).t s_3
 have h13 := RA.gm hg
 refine yF 13 106 12 1 1 ?_
 refine lN (kq 14 (.load 3 (.tmp 13))) rfl rfl trivial h13 (by kernel_rfl) rfl rfl ?_
 intro v14 g14
 first | (obtain rfl := rv_nat.1 g14) | (obtain rfl := rv_int.1 g14)
 rw [hG.gm]
 refine aT (kq 15 (.makeSlice 122 (.tmp 14) (.tmp 14))) rfl rfl (a_make (e := 4) (bytes := 1) (x0 := false) (zs := [.bool false]) hF (j := 3) (by decide) (by kernel_rfl) (by kernel_rfl) rfl rfl (by omega) (by omega) (by omega) (fun h M => rfl)) ?_
 rintro v15 w4 ⟨Cw4, s_4, hu, hF⟩
 refine aT (kq 7 (.alloc 122)) rfl rfl (a_alloc (cs := [.slice none 0 0]) hF 7 (by kernel_rfl)) ?_
 rintro _ w5 ⟨Cw5, bw5, rfl, s_5, hb7, hF⟩
 replace hu := hu.t s_5
 refine aU (k0 (.store 122 (.tmp 7) (.tmp 15))) rfl (a_storeAll (vs := [v15]) (n := 1) rfl rfl (by kernel_rfl) hu.one.1 rfl (by intro u hu2; rw [List.mem_singleton.1 hu2]; exact hu.one.2) hb7 rfl) ?_
 rintro _ w6 ⟨rfl, s_6, hb7⟩
 refine Sch.nil ?_
 replace hu := hu.t s_6
 try simp only [Int.toNat_natCast] at hu
 clear h13
 refine run_sq (run_sq (run_pl [nn 0, yy 1, yy 2] ?_))
 replace hb4 := (((hb4.t s_3).t s_4).t s_5).t s_6
 refine nO 16 22 4 hb4.at_ rfl rfl ?_
 replace hst := ((((hst.t s_2).t s_3).t s_4).t s_5).t s_6
 refine yS (kq 17 (.call { callee := .builtin .len, args := #[(.tmp 16)], argTypes := #[22] })) rfl rfl (fun w' hS => hst.lenV rfl Tryz.underlying22 w' ) ?_
 refine yC 18 (.int .i64 0) ?_
 refine Sch.nil (run_bk 0 ?_)
 refine run_lp (ι := Nat × (List Bool) × (Nat → Nat)) (I := fun x w => x.1 ≤ n ∧ x.2.1.length = m ∧ SPre n m wt U V (gI stl) x.1 ∧ UsedIs m (gI stl) x.2.1 x.1 ∧ Lim w x.2.2 ∧ Stp [2, 3, 4, 5, 6, 7, 8, 9] w₀ (col1 C) w x.2.2 ∧ OwnB w x.2.2 6 bw1 (.cells [.pointer (some ⟨gb, 0, none⟩)].toArray 97) ∧ OwnB w x.2.2 6 bw2 (.cells [vst].toArray 22) ∧ OwnB w x.2.2 6 bw3 (.cells [.nilFunc].toArray 100) ∧ OwnB w x.2.2 7 bw5 (.cells [v15].toArray 122) ∧ RA w (Mc x.2.2) gr gb 0 ∧ RV w (Mc x.2.2) stl vst ∧ OwnL w x.2.2 3 4 v15 x.2.1) (e := fun x => [(3, .pointer (some ⟨bw1, 0, none⟩)), (4, .pointer (some ⟨bw2, 0, none⟩)), (5, .pointer (some ⟨bw3, 0, none⟩)), (7, .pointer (some ⟨bw5, 0, none⟩)), (16, vst), (17, .int .i64 stl.length), (18, .int .i64 x.1)]) (m := fun x => n - x.1) (x₀ := (0, List.replicate m false, Cw5)) (sr 3 (sr 4 (sr 5 (sr 7 (sr 16 (sr 17 (sr 18 (sub_nil _)))))))) ?_ ?_
 ·
   replace hT := (((((hT.t s_1).t s_2).t s_3).t s_4).t s_5).t s_6; replace hg := ((hg.t s_4).t s_5).t s_6; replace hb3 := ((hb3.t s_4).t s_5).t s_6; replace hb5 := ((hb5.t s_4).t s_5).t s_6; replace hF := hF.st s_6
   exact ⟨Nat.zero_le _, (by simp only; exact List.length_replicate), ⟨fun q hq => by simp only at hq; omega, fun q hq => by simp only at hq; omega, fun q q1 hq => by simp only at hq; omega⟩, UsedIs.start, hF, hT, hb3, hb4, hb5, hb7, hg, hst, hu⟩
 intro ⟨k, us, C1⟩ w7 hI next1
 obtain ⟨hk, hul, hSP, hUs, hF, hT, hb3, hb4, hb5, hb7, hg, hst, hu⟩ := hI
 try simp only at hk hul hSP hUs hF hT hb3 hb4 hb5 hb7 hg hst hu
 show Run _ _ _ _ [(3, .pointer (some ⟨bw1, 0, none⟩)), (4, .pointer (some ⟨bw2, 0, none⟩)), (5, .pointer (some ⟨bw3, 0, none⟩)), (7, .pointer (some ⟨bw5, 0, none⟩)), (16, vst), (17, .int .i64 stl.length), (18, .int .i64 k)] _ _
 refine run_sq (run_pl [yy 0] ?_)
 refine yL 19 3 18 17 ?_
 refine Sch.nil (run_sq ?_)
 refine run_i 19 rfl (fun h19 => ?_) (fun h19 => ?_)
 ·
  have hkn : k < n := by omega
  have hsg : gI stl k = stl[k]'(by omega) := getD_in _
  have hlk := hlt k hkn
  have hgk := hst2 k hkn
  rw [hsg] at hlk hgk
  have hUl := hG.Ul
  have hel := hG.edl
  have hux : gr.U[k]'(by omega) = U k := by rw [← hG.Ug k hkn]; exact (getD_in _).symm
  have hrl0 : (gr.edge[k]'(by omega)).length = m := hG.edm _ (List.getElem_mem _)
  obtain ⟨s, hs0⟩ : ∃ s, s = stl[k]'(by omega) := ⟨_, rfl⟩
  rw [← hs0] at hsg hlk hgk
  have hev : ∀ hx : s.toNat < m, (gr.edge[k]'(by omega))[s.toNat]'(by omega) = edgeB wt U V k s.toNat := fun hx => by
    have e1 : gr.edge.getD k [] = gr.edge[k]'(by omega) := getD_in _
    rw [← hG.ed _ _ hkn hx, e1]; exact (getD_in _).symm
  refine run_sk (run_sq (run_bk 1 (run_sq (run_pl [yy 0, yy 1, nn 2, yy 3, yy 4] ?_))))
  refine yM 20 18 ?_
  refine iR 3 21 22 16 18 hst rfl (h := ?_)
  intro b21 o21 h21
  try simp only [Int.toNat_natCast] at h21
  refine lN (kq 22 (.load 3 (.tmp 21))) rfl rfl trivial h21 (by kernel_rfl) rfl rfl ?_
  intro v22 g22
  first | (obtain rfl := rv_nat.1 g22) | (obtain rfl := rv_int.1 g22)
  rw [← hs0]
  refine yA 8 20 ?_
  refine yA 9 22 ?_
  refine Sch.nil (run_bk 2 (run_sq ?_))
  refine run_cut 23 (decide (s = -1 ∧ 0 < U k)) (C1) ?_ ?_
  ·
   intro hcut
   by_cases hA : s = -1
   ·
    refine run_pl [yy 0, yy 1, yy 2, nn 3, yy 4, yy 5, nn 6, yy 7, yy 8, nn 9, yy 10, yy 11, yy 12] ?_
    refine yM 24 9 ?_
    refine yV (kq 25 (.binOp .eql 3 (.tmp 24) (.const (.int .i64 (-1))) 3)) (fun _ => val_T (val_eql rfl rfl) hA) ?_
    refine yM 26 25 ?_
    refine nS (kg 27 (.load 97 (.tmp 3)) 2 true) rfl rfl trivial (val_loadOwn hb3.at_ (by kernel_rfl) rfl rfl) ?_
    refine yV (kg 28 (.nilCheck (.tmp 27)) 2 true) (fun _ => val_nilCheck rfl) ?_
    have h29 := RA.gU hg
    refine yFg 29 106 28 2 2 2 true ?_
    refine lN (kg 30 (.load 22 (.tmp 29)) 2 true) rfl rfl trivial h29 (by kernel_rfl) rfl rfl ?_
    intro v30 g30
    refine yMg 31 8 2 true ?_
    refine iS (e := 3) (kg 32 (.indexAddr 22 (.tmp 30) (.tmp 31)) 2 true) rfl rfl g30 rfl (by kernel_rfl) rfl (by omega) (by omega) ?_
    intro b32 o32 h32
    try simp only [Int.toNat_natCast] at h32
    refine lN (kg 33 (.load 3 (.tmp 32)) 2 true) rfl rfl trivial h32 (by kernel_rfl) rfl rfl ?_
    intro v33 g33
    first | (obtain rfl := rv_nat.1 g33) | (obtain rfl := rv_int.1 g33)
    rw [hux]
    refine yV (kg 34 (.binOp .gtr 3 (.tmp 33) (.const (.int .i64 0)) 3) 2 true) (fun _ => val_gtr rfl rfl) ?_
    refine yAt 35 26 34 ?_
    refine yA 23 35 ?_
    exact Sch.nil (hcut _ _ _ (Stp.refl _ _ _) rfl (by congr 1; apply decide_eq_decide.2; exact ⟨fun e => ⟨hA, e⟩, fun e => e.2⟩) (sk 13))
   refine run_pl [yy 0, yy 1, yy 2, nn 3, yy 4, yy 5, nn 6, yy 7, yy 8, nn 9, yy 10, yy 11, yy 12] ?_
   refine yM 24 9 ?_
   refine yV (kq 25 (.binOp .eql 3 (.tmp 24) (.const (.int .i64 (-1))) 3)) (fun _ => val_F (val_eql rfl rfl) hA) ?_
   refine yM 26 25 ?_
   refine pW (kg 27 (.load 97 (.tmp 3)) 2 true) rfl rfl trivial ?_
   refine pX 28 2 true ?_
   refine pX 29 2 true ?_
   refine pW (kg 30 (.load 22 (.tmp 29)) 2 true) rfl rfl trivial ?_
   refine pX 31 2 true ?_
   refine pX 32 2 true ?_
   refine pW (kg 33 (.load 3 (.tmp 32)) 2 true) rfl rfl trivial ?_
   refine pX 34 2 true ?_
   refine yAf 35 26 34 ?_
   refine yA 23 35 ?_
   exact Sch.nil (hcut _ _ _ (Stp.refl _ _ _) rfl (by rw [decide_eq_false (fun e => hA e.1)]) (sk 13))
  intro w8 s_7
  refine run_i 23 rfl (fun h23 => ?_) (fun h23 => ?_)
  ·
   have hbad : ¬ SPre n m wt U V (gI stl) n := fun hS => hS.unused k hkn (by rw [hsg]; exact h23.1) h23.2
   refine run_sq (run_pl [yy 0] ?_)
   refine yAc 6 (.bool false) ?_
   refine Sch.nil ?_
   refine rt1 Tryz.func69 Tryz.results69 ?_
   replace hT := hT.t s_7
   exact ⟨false, rfl, hT.out1 (by decide), feas_no hG.pr hst2 hlt hbad⟩
  refine run_sq ?_
  refine run_cut 36 (decide (0 ≤ s ∧ (gB us s.toNat = true ∨ edgeB wt U V k s.toNat = false))) (C1) ?_ ?_
  ·
   intro hcut
   by_cases hA : 0 ≤ s
   ·
    by_cases hB : us[s.toNat]'(by omega) = true
    ·
     refine run_pl [yy 0, yy 1, yy 2, nn 3, yy 4, yy 5, nn 6, yy 7, nn 8, yy 9, yy 10, nn 11, yy 12, yy 13, nn 14, yy 15, yy 16, nn 17, yy 18, yy 19, yy 20, yy 21] ?_
     refine yM 37 9 ?_
     refine yV (kq 38 (.binOp .geq 3 (.tmp 37) (.const (.int .i64 0)) 3)) (fun _ => val_T (val_geq rfl rfl) hA) ?_
     refine yM 39 38 ?_
     replace hb7 := hb7.t s_7
     refine nS (kg 40 (.load 122 (.tmp 7)) 2 true) rfl rfl trivial (val_loadOwn hb7.at_ (by kernel_rfl) rfl rfl) ?_
     refine yMg 41 9 2 true ?_
     replace hu := hu.t s_7
     refine oI (e' := 4) (kg 42 (.indexAddr 122 (.tmp 40) (.tmp 41)) 2 true) rfl rfl hu rfl (by kernel_rfl) rfl (by omega) (by omega) ?_
     intro g42 hg42
     try simp only [Int.toNat_natCast]
     refine oN (kg 43 (.load 4 (.tmp 42)) 2 true) rfl rfl trivial hu hg42 (by omega) (by kernel_rfl) rfl rfl ?_
     intro v43 g43
     try simp only [Int.toNat_natCast] at g43
     obtain rfl := rv_bool.1 g43
     rw [hB]
     refine yMg 44 43 2 true ?_
     refine pW (kg 45 (.load 97 (.tmp 3)) 7 false) rfl rfl trivial ?_
     refine pX 46 7 false ?_
     refine pX 47 7 false ?_
     refine pW (kg 48 (.load 104 (.tmp 47)) 7 false) rfl rfl trivial ?_
     refine pX 49 7 false ?_
     refine pX 50 7 false ?_
     refine pW (kg 51 (.load 122 (.tmp 50)) 7 false) rfl rfl trivial ?_
     refine pX 52 7 false ?_
     refine pX 53 7 false ?_
     refine pW (kg 54 (.load 4 (.tmp 53)) 7 false) rfl rfl trivial ?_
     refine pX 55 7 false ?_
     refine yV (kg 56 (.pick (.tmp 44) (.const (.bool true)) (.tmp 55)) 2 true) (fun _ => val_pick_t rfl rfl) ?_
     refine yAt 57 39 56 ?_
     refine yA 36 57 ?_
     exact Sch.nil (hcut _ _ _ (Stp.refl _ _ _) rfl (by rw [decide_eq_true (show 0 ≤ s ∧ (gB us s.toNat = true ∨ edgeB wt U V k s.toNat = false) from ⟨hA, .inl ((getD_in (by omega)).trans hB)⟩)]) (sk 22))
    by_cases hC : edgeB wt U V k s.toNat = true
    ·
     refine run_pl [yy 0, yy 1, yy 2, nn 3, yy 4, yy 5, nn 6, yy 7, nn 8, yy 9, yy 10, nn 11, yy 12, yy 13, nn 14, yy 15, yy 16, nn 17, yy 18, yy 19, yy 20, yy 21] ?_
     refine yM 37 9 ?_
     refine yV (kq 38 (.binOp .geq 3 (.tmp 37) (.const (.int .i64 0)) 3)) (fun _ => val_T (val_geq rfl rfl) hA) ?_
     refine yM 39 38 ?_
     replace hb7 := hb7.t s_7
     refine nS (kg 40 (.load 122 (.tmp 7)) 2 true) rfl rfl trivial (val_loadOwn hb7.at_ (by kernel_rfl) rfl rfl) ?_
     refine yMg 41 9 2 true ?_
     replace hu := hu.t s_7
     refine oI (e' := 4) (kg 42 (.indexAddr 122 (.tmp 40) (.tmp 41)) 2 true) rfl rfl hu rfl (by kernel_rfl) rfl (by omega) (by omega) ?_
     intro g42 hg42
     try simp only [Int.toNat_natCast]
     refine oN (kg 43 (.load 4 (.tmp 42)) 2 true) rfl rfl trivial hu hg42 (by omega) (by kernel_rfl) rfl rfl ?_
     intro v43 g43
     try simp only [Int.toNat_natCast] at g43
     obtain rfl := rv_bool.1 g43
     rw [Bool.eq_false_iff.2 hB]
     refine yMg 44 43 2 true ?_
     replace hb3 := hb3.t s_7
     refine nS (kg 45 (.load 97 (.tmp 3)) 7 false) rfl rfl trivial (val_loadOwn hb3.at_ (by kernel_rfl) rfl rfl) ?_
     refine yV (kg 46 (.nilCheck (.tmp 45)) 7 false) (fun _ => val_nilCheck rfl) ?_
     replace hg := hg.t s_7
     have h47 := RA.gE hg
     refine yFg 47 106 46 5 5 7 false ?_
     refine lN (kg 48 (.load 104 (.tmp 47)) 7 false) rfl rfl trivial h47 (by kernel_rfl) rfl rfl ?_
     intro v48 g48
     refine yMg 49 8 7 false ?_
     refine iS (e := 122) (kg 50 (.indexAddr 104 (.tmp 48) (.tmp 49)) 7 false) rfl rfl g48 rfl (by kernel_rfl) rfl (by omega) (by omega) ?_
     intro b50 o50 h50
     try simp only [Int.toNat_natCast] at h50
     refine lN (kg 51 (.load 122 (.tmp 50)) 7 false) rfl rfl trivial h50 (by kernel_rfl) rfl rfl ?_
     intro v51 g51
     refine yMg 52 9 7 false ?_
     refine iS (e := 4) (kg 53 (.indexAddr 122 (.tmp 51) (.tmp 52)) 7 false) rfl rfl g51 rfl (by kernel_rfl) rfl (by omega) (by omega) ?_
     intro b53 o53 h53
     try simp only [Int.toNat_natCast] at h53
     refine lN (kg 54 (.load 4 (.tmp 53)) 7 false) rfl rfl trivial h53 (by kernel_rfl) rfl rfl ?_
     intro v54 g54
     obtain rfl := rv_bool.1 g54
     rw [show (((gr.edge[k]'(by omega))[s.toNat]'(by omega)) : Bool) = edgeB wt U V k s.toNat from hev (by omega)]
     rw [hC]
     refine yV (kg 55 (.unOp .not 4 (.tmp 54)) 7 false) (fun _ => val_not rfl) ?_
     refine yV (kg 56 (.pick (.tmp 44) (.const (.bool true)) (.tmp 55)) 2 true) (fun _ => val_pick_f rfl rfl) ?_
     refine yAt 57 39 56 ?_
     refine yA 36 57 ?_
     exact Sch.nil (hcut _ _ _ (Stp.refl _ _ _) rfl (by rw [decide_eq_false (show ¬ (0 ≤ s ∧ (gB us s.toNat = true ∨ edgeB wt U V k s.toNat = false)) from fun e => e.2.elim (fun e2 => hB (((getD_in (by omega)).symm.trans e2))) (fun e2 => by rw [hC] at e2; cases e2))]; rfl) (sk 22))
    refine run_pl [yy 0, yy 1, yy 2, nn 3, yy 4, yy 5, nn 6, yy 7, nn 8, yy 9, yy 10, nn 11, yy 12, yy 13, nn 14, yy 15, yy 16, nn 17, yy 18, yy 19, yy 20, yy 21] ?_
    refine yM 37 9 ?_
    refine yV (kq 38 (.binOp .geq 3 (.tmp 37) (.const (.int .i64 0)) 3)) (fun _ => val_T (val_geq rfl rfl) hA) ?_
    refine yM 39 38 ?_
    replace hb7 := hb7.t s_7
    refine nS (kg 40 (.load 122 (.tmp 7)) 2 true) rfl rfl trivial (val_loadOwn hb7.at_ (by kernel_rfl) rfl rfl) ?_
    refine yMg 41 9 2 true ?_
    replace hu := hu.t s_7
    refine oI (e' := 4) (kg 42 (.indexAddr 122 (.tmp 40) (.tmp 41)) 2 true) rfl rfl hu rfl (by kernel_rfl) rfl (by omega) (by omega) ?_
    intro g42 hg42
    try simp only [Int.toNat_natCast]
    refine oN (kg 43 (.load 4 (.tmp 42)) 2 true) rfl rfl trivial hu hg42 (by omega) (by kernel_rfl) rfl rfl ?_
    intro v43 g43
    try simp only [Int.toNat_natCast] at g43
    obtain rfl := rv_bool.1 g43
    rw [Bool.eq_false_iff.2 hB]
    refine yMg 44 43 2 true ?_
    replace hb3 := hb3.t s_7
    refine nS (kg 45 (.load 97 (.tmp 3)) 7 false) rfl rfl trivial (val_loadOwn hb3.at_ (by kernel_rfl) rfl rfl) ?_
    refine yV (kg 46 (.nilCheck (.tmp 45)) 7 false) (fun _ => val_nilCheck rfl) ?_
    replace hg := hg.t s_7
    have h47 := RA.gE hg
    refine yFg 47 106 46 5 5 7 false ?_
    refine lN (kg 48 (.load 104 (.tmp 47)) 7 false) rfl rfl trivial h47 (by kernel_rfl) rfl rfl ?_
    intro v48 g48
    refine yMg 49 8 7 false ?_
    refine iS (e := 122) (kg 50 (.indexAddr 104 (.tmp 48) (.tmp 49)) 7 false) rfl rfl g48 rfl (by kernel_rfl) rfl (by omega) (by omega) ?_
    intro b50 o50 h50
    try simp only [Int.toNat_natCast] at h50
    refine lN (kg 51 (.load 122 (.tmp 50)) 7 false) rfl rfl trivial h50 (by kernel_rfl) rfl rfl ?_
    intro v51 g51
    refine yMg 52 9 7 false ?_
    refine iS (e := 4) (kg 53 (.indexAddr 122 (.tmp 51) (.tmp 52)) 7 false) rfl rfl g51 rfl (by kernel_rfl) rfl (by omega) (by omega) ?_
    intro b53 o53 h53
    try simp only [Int.toNat_natCast] at h53
    refine lN (kg 54 (.load 4 (.tmp 53)) 7 false) rfl rfl trivial h53 (by kernel_rfl) rfl rfl ?_
    intro v54 g54
    obtain rfl := rv_bool.1 g54
    rw [show (((gr.edge[k]'(by omega))[s.toNat]'(by omega)) : Bool) = edgeB wt U V k s.toNat from hev (by omega)]
    rw [Bool.eq_false_iff.2 hC]
    refine yV (kg 55 (.unOp .not 4 (.tmp 54)) 7 false) (fun _ => val_not rfl) ?_
    refine yV (kg 56 (.pick (.tmp 44) (.const (.bool true)) (.tmp 55)) 2 true) (fun _ => val_pick_f rfl rfl) ?_
    refine yAt 57 39 56 ?_
    refine yA 36 57 ?_
    exact Sch.nil (hcut _ _ _ (Stp.refl _ _ _) rfl (by rw [decide_eq_true (show 0 ≤ s ∧ (gB us s.toNat = true ∨ edgeB wt U V k s.toNat = false) from ⟨hA, .inr (Bool.eq_false_iff.2 hC)⟩)]; rfl) (sk 22))
   refine run_pl [yy 0, yy 1, yy 2, nn 3, yy 4, yy 5, nn 6, yy 7, nn 8, yy 9, yy 10, nn 11, yy 12, yy 13, nn 14, yy 15, yy 16, nn 17, yy 18, yy 19, yy 20, yy 21] ?_
   refine yM 37 9 ?_
   refine yV (kq 38 (.binOp .geq 3 (.tmp 37) (.const (.int .i64 0)) 3)) (fun _ => val_F (val_geq rfl rfl) hA) ?_
   refine yM 39 38 ?_
   refine pW (kg 40 (.load 122 (.tmp 7)) 2 true) rfl rfl trivial ?_
   refine pX 41 2 true ?_
   refine pX 42 2 true ?_
   refine pW (kg 43 (.load 4 (.tmp 42)) 2 true) rfl rfl trivial ?_
   refine pX 44 2 true ?_
   refine pW (kg 45 (.load 97 (.tmp 3)) 7 false) rfl rfl trivial ?_
   refine pX 46 7 false ?_
   refine pX 47 7 false ?_
   refine pW (kg 48 (.load 104 (.tmp 47)) 7 false) rfl rfl trivial ?_
   refine pX 49 7 false ?_
   refine pX 50 7 false ?_
   refine pW (kg 51 (.load 122 (.tmp 50)) 7 false) rfl rfl trivial ?_
   refine pX 52 7 false ?_
   refine pX 53 7 false ?_
   refine pW (kg 54 (.load 4 (.tmp 53)) 7 false) rfl rfl trivial ?_
   refine pX 55 7 false ?_
   refine pX 56 2 true ?_
   refine yAf 57 39 56 ?_
   refine yA 36 57 ?_
   exact Sch.nil (hcut _ _ _ (Stp.refl _ _ _) rfl (by rw [decide_eq_false (fun e => hA e.1)]) (sk 22))
  intro w9 s_8
  refine run_i 36 rfl (fun h36 => ?_) (fun h36 => ?_)
  ·
   have hbad : ¬ SPre n m wt U V (gI stl) n := fun hS => by
     rcases h36.2 with e | e
     · obtain ⟨q, hq, e2⟩ := (hUs s.toNat (by omega)).1 e
       have := hS.inj q k (by omega) hkn (by rw [e2]; omega) (by rw [e2, hsg]; omega)
       omega
     have := hS.used k hkn (by rw [hsg]; exact h36.1)
     rw [hsg, e] at this; cases this
   refine run_sq (run_pl [yy 0] ?_)
   refine yAc 6 (.bool false) ?_
   refine Sch.nil ?_
   refine rt1 Tryz.func69 Tryz.results69 ?_
   replace hT := (hT.t s_7).t s_8
   exact ⟨false, rfl, hT.out1 (by decide), feas_no hG.pr hst2 hlt hbad⟩
  have hSP2 := hSP.next (by rw [hsg]; exact h23) (fun h0 => by
      rw [hsg] at h0 ⊢
      refine ⟨?_, fun q hq e => ?_⟩
      · cases e : edgeB wt U V k s.toNat with
        | true => rfl
        | false => exact absurd ⟨h0, .inr e⟩ h36
      · exact h36 ⟨h0, .inl ((hUs s.toNat (by omega)).2 ⟨q, hq, by rw [e]; omega⟩)⟩)
  refine run_sq (run_pl [yy 0, yy 1, yy 2] ?_)
  refine yM 59 9 ?_
  refine yV (kq 60 (.binOp .geq 3 (.tmp 59) (.const (.int .i64 0)) 3)) (fun _ => val_geq rfl rfl) ?_
  refine yA 58 60 ?_
  refine Sch.nil ?_
  refine run_i 58 rfl (fun h58 => ?_) (fun h58 => ?_)
  ·
   refine run_pl [nn 0, yy 1, yy 2, nn 3] ?_
   replace hb7 := (hb7.t s_7).t s_8
   refine nO 61 122 7 hb7.at_ rfl rfl ?_
   refine yM 62 9 ?_
   replace hu := (hu.t s_7).t s_8
   refine oR 4 63 122 61 62 hu rfl (by omega) (h := ?_)
   intro g63 hg63
   try simp only [Int.toNat_natCast]
   refine aU (k0 (.store 4 (.tmp 63) (.const (.bool true)))) rfl (a_storeO hu hg63 (by omega) rfl rfl (by kernel_rfl) (rv_bool.2 rfl)) ?_
   rintro _ w10 ⟨rfl, s_9, hu⟩
   refine Sch.nil (run_inBlock (run_inBlock (run_pl [yy 0, yy 1] ?_)))
   refine yI 64 3 18 1 ?_
   refine yM 18 64 ?_
   refine Sch.nil ?_
   replace hF := ((hF.st s_7).st s_8).st s_9; replace hT := ((hT.t s_7).t s_8).t s_9; replace hb3 := ((hb3.t s_7).t s_8).t s_9; replace hb4 := ((hb4.t s_7).t s_8).t s_9; replace hb5 := ((hb5.t s_7).t s_8).t s_9; replace hg := ((hg.t s_7).t s_8).t s_9; replace hst := ((hst.t s_7).t s_8).t s_9; replace hb7 := hb7.t s_9
   refine kp (sr 3 (sr 4 (sr 5 (sr 7 (sr 16 (sr 17 (sub_cons 18 rfl (eq_int (by simp)) (sub_nil _)))))))) (next1 (k + 1, us.set s.toNat true, C1) _ ⟨(by first | omega | (simp only; omega)), (by simp only [List.length_set]; exact hul), hSP2, (by simp only; rw [← hsg]; exact hUs.put (by rw [hsg]; exact h58) hul (by rw [hsg]; omega)), hF, hT, hb3, hb4, hb5, hb7, hg, hst, hu⟩ (by first | omega | (simp only; omega)))
  refine run_sk (run_inBlock (run_inBlock (run_pl [yy 0, yy 1] ?_)))
  refine yI 64 3 18 1 ?_
  refine yM 18 64 ?_
  refine Sch.nil ?_
  replace hF := (hF.st s_7).st s_8; replace hT := (hT.t s_7).t s_8; replace hb3 := (hb3.t s_7).t s_8; replace hb4 := (hb4.t s_7).t s_8; replace hb5 := (hb5.t s_7).t s_8; replace hb7 := (hb7.t s_7).t s_8; replace hg := (hg.t s_7).t s_8; replace hst := (hst.t s_7).t s_8; replace hu := (hu.t s_7).t s_8
  refine kp (sr 3 (sr 4 (sr 5 (sr 7 (sr 16 (sr 17 (sub_cons 18 rfl (eq_int (by simp)) (sub_nil _)))))))) (next1 (k + 1, us, C1) _ ⟨(by first | omega | (simp only; omega)), (by first | omega | (simp only; omega)), hSP2, (hUs.skip (by rw [hsg]; omega)), hF, hT, hb3, hb4, hb5, hb7, hg, hst, hu⟩ (by first | omega | (simp only; omega)))
 have hkn : n = k := by omega
 subst hkn
 clear h19
 have hb3_ := hb3.frzA (n := 2) (by decide) (rfl)
 have hb4_ := hb4.frzA (n := 2) (by decide) ((hst.one rfl).2)
 have hb5_ := hb5.frzA (n := 2) (by decide) (rfl)
 have hb7_ := hb7.frzA (n := 2) (by decide) (hu.one.2)
 have hg_ := hg.frz 2
 replace hF := hF.frz 2
 replace hT := hT.frz (n := 2) (fun b => col1_lt2 C b)
 replace hst := hst.frz 2
 have hu_ := hu.frz (n := 2) (by decide) (by omega)
 replace hu := hu_
 clear hu_
 have hb3r : RA _ _ (⟨_⟩ : Sv) _ 0 := hb3_
 clear hb3_ hb3
 have hb4r : RA _ _ (⟨_⟩ : Sv) _ 0 := hb4_
 clear hb4_ hb4
 have hb5r : RA _ _ (⟨_⟩ : Sv) _ 0 := hb5_
 clear hb5_ hb5
 have hb7r : RA _ _ (⟨_⟩ : Sv) _ 0 := hb7_
 clear hb7_ hb7
 clear hg
 have hg := hg_
 clear hg_
 refine run_ex 0 ?_
 refine run_sq (run_pl [yy 0, nn 1, nn 2] ?_)
 refine yV (kq 65 (.makeFunc (.func 106) #[] #[(.tmp 4), (.tmp 7), (.tmp 3), (.tmp 5)])) (fun _ => val_makeFunc rfl rfl) ?_
 refine aT (kq 10 (.alloc 100)) rfl rfl (a_alloc (cs := [.nilFunc]) hF 6 (by kernel_rfl)) ?_
 rintro _ w11 ⟨Cw11, bw11, rfl, s_10, hb10, hF⟩
 refine aU (k0 (.store 100 (.tmp 10) (.tmp 65))) rfl (a_storeAll (vs := [(.func (.func 106) #[] #[.pointer (some ⟨bw2, 0, none⟩), .pointer (some ⟨bw5, 0, none⟩), .pointer (some ⟨bw1, 0, none⟩), .pointer (some ⟨bw3, 0, none⟩)])]) (n := 1) rfl rfl (by kernel_rfl) rfl rfl (by intro u hu2; rw [List.mem_singleton.1 hu2]; rfl) hb10 rfl) ?_
 rintro _ w12 ⟨rfl, s_11, hb10⟩
 refine Sch.nil ?_
 have hb10_ := hb10.frzA (n := 2) (by decide) (by rfl)
 replace hF := hF.st s_11
 replace hF := hF.frz 2
 replace hT := (hT.t s_10).t s_11
 replace hT := hT.frz (n := 2) (fun b => col1_lt2 C b)
 replace hst := (hst.t s_10).t s_11
 replace hst := hst.frz 2
 replace hu := (hu.t s_10).t s_11
 replace hu := hu.frz 2
 replace hb3r := (hb3r.t s_10).t s_11
 replace hb3r := hb3r.frz 2
 replace hb4r := (hb4r.t s_10).t s_11
 replace hb4r := hb4r.frz 2
 replace hb5r := (hb5r.t s_10).t s_11
 replace hb5r := hb5r.frz 2
 replace hb7r := (hb7r.t s_10).t s_11
 replace hb7r := hb7r.frz 2
 replace hg := (hg.t s_10).t s_11
 replace hg := hg.frz 2
 have hb10r : RA _ _ (⟨_⟩ : Sv) _ 0 := hb10_
 clear hb10_ hb10
 have hUl := hG.Ul
 have hVl := hG.Vl
 refine run_sq ?_
 by_cases hC1 : Cover n m (fun a b => jB stl us wt U V a b = true) (fun a => (decide (gI stl a = -2 ∧ 0 < U a)) = true)
 ·
  refine run_draw (id := 13) (ops := F69.o13) [] (K.frz 2 (Cw11)) [yy 0, yy 1, yy 2, yy 3, yy 4, yy 5, yy 6, yy 7, yy 8, yy 9, nn 10, yy 11, yy 12, yy 13, yy 14, yy 15, yy 16, yy 17, yy 18, yy 19, yy 20, yy 21, nn 22, yy 23, yy 24] Tryz_mixed (by kernel_rfl) (by kernel_rfl) (by kernel_rfl) ?_
  intro w13 s_12
  have hR := Stp.refl [] w13 (K.frz 2 (Cw11))
  replace hb3r := hb3r.t s_12
  refine lS (kq 66 (.load 97 (.tmp 3))) rfl rfl (fun w' hS => hb3r.sy hS) hb3r (by kernel_rfl) rfl rfl ?_
  intro v66 g66
  obtain ⟨e66, _⟩ := rv_sv.1 g66
  subst e66
  refine yN 67 66 ?_
  replace hg := hg.t s_12
  have h68 := RA.gn hg
  refine yF 68 106 67 0 0 ?_
  refine lS (kq 69 (.load 3 (.tmp 68))) rfl rfl (fun w' hS => h68.sy hS) h68 (by kernel_rfl) rfl rfl ?_
  intro v69 g69
  first | (obtain rfl := rv_nat.1 g69) | (obtain rfl := rv_int.1 g69)
  rw [hG.gn]
  refine lS (kq 70 (.load 97 (.tmp 3))) rfl rfl (fun w' hS => hb3r.sy hS) hb3r (by kernel_rfl) rfl rfl ?_
  intro v70 g70
  obtain ⟨e70, _⟩ := rv_sv.1 g70
  subst e70
  refine yN 71 70 ?_
  have h72 := RA.gm hg
  refine yF 72 106 71 1 1 ?_
  refine lS (kq 73 (.load 3 (.tmp 72))) rfl rfl (fun w' hS => h72.sy hS) h72 (by kernel_rfl) rfl rfl ?_
  intro v73 g73
  first | (obtain rfl := rv_nat.1 g73) | (obtain rfl := rv_int.1 g73)
  rw [hG.gm]
  replace hb10r := hb10r.t s_12
  refine lS (kq 74 (.load 100 (.tmp 10))) rfl rfl (fun w' hS => hb10r.sy hS) hb10r (by kernel_rfl) rfl rfl ?_
  intro v74 g74
  obtain ⟨e74, _⟩ := rv_sv.1 g74
  subst e74
  refine yV (kq 75 (.makeFunc (.func 108) #[] #[(.tmp 4), (.tmp 3)])) (fun _ => val_makeFunc rfl rfl) ?_
  have hb3b := hb3r
  have hgb := hg
  replace hF := hF.st s_12; replace hst := hst.t s_12; replace hu := hu.t s_12; replace hb4r := hb4r.t s_12; replace hb5r := hb5r.t s_12; replace hb7r := hb7r.t s_12
  refine cF 76 107 [69, 73, 74, 75] [3, 3, 100, 50] Tryz.call107 rfl (covers_ok (n := n) (m := m) (J := jB stl us wt U V) (mu := fun i => decide (gI stl i = -2 ∧ 0 < U i)) hF hm hn (fun args w => Tryz.call106 args w) (fun w1 hs1 i j hi hj => joins_ok (hF.st hs1) hG (hg.st hs1 (by simp)) (hb4r.st hs1 (by simp)) (hb7r.st hs1 (by simp)) (hb3r.st hs1 (by simp)) (hb5r.st hs1 (by simp)) (hst.st hs1 (by simp)) (hu.st hs1 (by simp)) hsl hul hi hj) (fun args w => Tryz.call108 args w) (fun w1 hs1 i hi => mustU_ok (hF.st hs1) hG (hg.st hs1 (by simp)) (hb4r.st hs1 (by simp)) (hb3r.st hs1 (by simp)) (hst.st hs1 (by simp)) hsl hi)) ?_
  rintro vw14 w14 ⟨bb1, rfl, s_13, hbb1⟩
  obtain rfl : bb1 = true := hbb1.2 hC1
  refine ⟨(hR.trans s_13 (by simp)).ext, ?_⟩
  refine yM 77 76 ?_
  refine lS (kg 78 (.load 97 (.tmp 3)) 11 true) rfl rfl (fun w' hS => hb3b.sy hS) hb3b (by kernel_rfl) rfl rfl ?_
  intro v78 g78
  have gb78 := g78
  replace hR := hR.t s_13
  replace g78 := g78.st hR (by first | decide | (simp <;> omega))
  obtain ⟨e78, _⟩ := rv_sv.1 g78
  subst e78
  refine yV (kg 79 (.nilCheck (.tmp 78)) 11 true) (fun _ => val_nilCheck rfl) ?_
  have h80 := RA.gm hgb
  refine yFg 80 106 79 1 1 11 true ?_
  refine lS (kg 81 (.load 3 (.tmp 80)) 11 true) rfl rfl (fun w' hS => h80.sy hS) h80 (by kernel_rfl) rfl rfl ?_
  intro v81 g81
  first | (obtain rfl := rv_nat.1 g81) | (obtain rfl := rv_int.1 g81)
  rw [hG.gm]
  refine lS (kg 82 (.load 97 (.tmp 3)) 11 true) rfl rfl (fun w' hS => hb3b.sy hS) hb3b (by kernel_rfl) rfl rfl ?_
  intro v82 g82
  have gb82 := g82
  replace g82 := g82.st hR (by first | decide | (simp <;> omega))
  obtain ⟨e82, _⟩ := rv_sv.1 g82
  subst e82
  refine yV (kg 83 (.nilCheck (.tmp 82)) 11 true) (fun _ => val_nilCheck rfl) ?_
  have h84 := RA.gn hgb
  refine yFg 84 106 83 0 0 11 true ?_
  refine lS (kg 85 (.load 3 (.tmp 84)) 11 true) rfl rfl (fun w' hS => h84.sy hS) h84 (by kernel_rfl) rfl rfl ?_
  intro v85 g85
  first | (obtain rfl := rv_nat.1 g85) | (obtain rfl := rv_int.1 g85)
  rw [hG.gn]
  refine yV (kg 86 (.makeFunc (.func 109) #[] #[(.tmp 10)]) 11 true) (fun _ => val_makeFunc rfl rfl) ?_
  refine yV (kg 87 (.makeFunc (.func 110) #[] #[(.tmp 7), (.tmp 3)]) 11 true) (fun _ => val_makeFunc rfl rfl) ?_
  replace hF := hF.st s_13; replace hst := hst.t s_13; replace hu := hu.t s_13; replace hb3r := hb3r.t s_13; replace hb4r := hb4r.t s_13; replace hb5r := hb5r.t s_13; replace hb7r := hb7r.t s_13; replace hg := hg.t s_13; replace hb10r := hb10r.t s_13
  refine cS (kg 88 (.call { callee := .value (.func 107), args := #[(.tmp 81), (.tmp 85), (.tmp 86), (.tmp 87)], argTypes := #[3, 3, 100, 50] }) 11 true) rfl rfl (ent Tryz.call107 rfl) (covers_ok (n := m) (m := n) (J := fun j i => jB stl us wt U V i j) (mu := fun j => decide (gB us j = false ∧ 0 < V j)) hF hn hm (fun args w => Tryz.call109 args w) (fun w1 hs1 j i hj hi => turned_ok (hF.st hs1) hG (hg.st hs1 (by simp)) (hb4r.st hs1 (by simp)) (hb7r.st hs1 (by simp)) (hb3r.st hs1 (by simp)) (hb5r.st hs1 (by simp)) (hb10r.st hs1 (by simp)) (hst.st hs1 (by simp)) (hu.st hs1 (by simp)) hsl hul hi hj) (fun args w => Tryz.call110 args w) (fun w1 hs1 j hj => mustV_ok (hF.st hs1) hG (hg.st hs1 (by simp)) (hb7r.st hs1 (by simp)) (hb3r.st hs1 (by simp)) (hu.st hs1 (by simp)) hul hj)) ?_
  rintro vw15 w15 ⟨bb2, rfl, s_14, hbb2⟩
  refine ⟨(hR.trans s_14 (by simp)).ext, ?_⟩
  refine yAt 89 77 88 ?_
  refine yA 6 89 ?_
  refine Sch.nil ?_
  refine rt1 Tryz.func69 Tryz.results69 ?_
  replace hT := ((hT.t s_12).t s_13).t s_14
  exact ⟨bb2, rfl, hT.out1 (by decide), feas_fin hG.pr hst2 hlt hSP hUs (b1 := true) (b2 := bb2) ⟨fun _ => hC1, fun _ => rfl⟩ (fun _ => hbb2) bb2 rfl (fun e => by cases e)⟩
 refine run_draw (id := 13) (ops := F69.o13) [] (K.frz 2 (Cw11)) [yy 0, yy 1, yy 2, yy 3, yy 4, yy 5, yy 6, yy 7, yy 8, yy 9, nn 10, yy 11, yy 12, yy 13, yy 14, yy 15, yy 16, yy 17, yy 18, yy 19, yy 20, yy 21, nn 22, yy 23, yy 24] Tryz_mixed (by kernel_rfl) (by kernel_rfl) (by kernel_rfl) ?_
 intro w16 s_15
 have hR := Stp.refl [] w16 (K.frz 2 (Cw11))
 replace hb3r := hb3r.t s_15
 refine lS (kq 66 (.load 97 (.tmp 3))) rfl rfl (fun w' hS => hb3r.sy hS) hb3r (by kernel_rfl) rfl rfl ?_
 intro v66 g66
 obtain ⟨e66, _⟩ := rv_sv.1 g66
 subst e66
 refine yN 67 66 ?_
 replace hg := hg.t s_15
 have h68 := RA.gn hg
 refine yF 68 106 67 0 0 ?_
 refine lS (kq 69 (.load 3 (.tmp 68))) rfl rfl (fun w' hS => h68.sy hS) h68 (by kernel_rfl) rfl rfl ?_
 intro v69 g69
 first | (obtain rfl := rv_nat.1 g69) | (obtain rfl := rv_int.1 g69)
 rw [hG.gn]
 refine lS (kq 70 (.load 97 (.tmp 3))) rfl rfl (fun w' hS => hb3r.sy hS) hb3r (by kernel_rfl) rfl rfl ?_
 intro v70 g70
 obtain ⟨e70, _⟩ := rv_sv.1 g70
 subst e70
 refine yN 71 70 ?_
 have h72 := RA.gm hg
 refine yF 72 106 71 1 1 ?_
 refine lS (kq 73 (.load 3 (.tmp 72))) rfl rfl (fun w' hS => h72.sy hS) h72 (by kernel_rfl) rfl rfl ?_
 intro v73 g73
 first | (obtain rfl := rv_nat.1 g73) | (obtain rfl := rv_int.1 g73)
 rw [hG.gm]
 replace hb10r := hb10r.t s_15
 refine lS (kq 74 (.load 100 (.tmp 10))) rfl rfl (fun w' hS => hb10r.sy hS) hb10r (by kernel_rfl) rfl rfl ?_
 intro v74 g74
 obtain ⟨e74, _⟩ := rv_sv.1 g74
 subst e74
 refine yV (kq 75 (.makeFunc (.func 108) #[] #[(.tmp 4), (.tmp 3)])) (fun _ => val_makeFunc rfl rfl) ?_
 have hb3b := hb3r
 have hgb := hg
 replace hF := hF.st s_15; replace hst := hst.t s_15; replace hu := hu.t s_15; replace hb4r := hb4r.t s_15; replace hb5r := hb5r.t s_15; replace hb7r := hb7r.t s_15
 refine cF 76 107 [69, 73, 74, 75] [3, 3, 100, 50] Tryz.call107 rfl (covers_ok (n := n) (m := m) (J := jB stl us wt U V) (mu := fun i => decide (gI stl i = -2 ∧ 0 < U i)) hF hm hn (fun args w => Tryz.call106 args w) (fun w1 hs1 i j hi hj => joins_ok (hF.st hs1) hG (hg.st hs1 (by simp)) (hb4r.st hs1 (by simp)) (hb7r.st hs1 (by simp)) (hb3r.st hs1 (by simp)) (hb5r.st hs1 (by simp)) (hst.st hs1 (by simp)) (hu.st hs1 (by simp)) hsl hul hi hj) (fun args w => Tryz.call108 args w) (fun w1 hs1 i hi => mustU_ok (hF.st hs1) hG (hg.st hs1 (by simp)) (hb4r.st hs1 (by simp)) (hb3r.st hs1 (by simp)) (hst.st hs1 (by simp)) hsl hi)) ?_
 rintro vw17 w17 ⟨bb1, rfl, s_16, hbb1⟩
 obtain rfl : bb1 = false := by
   cases bb1 with
   | false => rfl
   | true => exact absurd (hbb1.1 rfl) hC1
 refine ⟨(hR.trans s_16 (by simp)).ext, ?_⟩
 refine yM 77 76 ?_
 refine pX 78 11 true ?_
 refine pX 79 11 true ?_
 refine pX 80 11 true ?_
 refine pX 81 11 true ?_
 refine pX 82 11 true ?_
 refine pX 83 11 true ?_
 refine pX 84 11 true ?_
 refine pX 85 11 true ?_
 refine pX 86 11 true ?_
 refine pX 87 11 true ?_
 replace hR := hR.t s_16
 refine pW (kg 88 (.call { callee := .value (.func 107), args := #[(.tmp 81), (.tmp 85), (.tmp 86), (.tmp 87)], argTypes := #[3, 3, 100, 50] }) 11 true) rfl rfl hR.ext ?_
 refine yAf 89 77 88 ?_
 refine yA 6 89 ?_
 refine Sch.nil ?_
 refine rt1 Tryz.func69 Tryz.results69 ?_
 replace hT := (hT.t s_15).t s_16
 exact ⟨false, rfl, hT.out1 (by decide), feas_fin hG.pr hst2 hlt hSP hUs (b1 := false) (b2 := false) ⟨fun e => (by cases e), fun e => absurd e hC1⟩ (fun e => by cases e) false rfl (fun _ => rfl)⟩
end
end Go.Proofs.YtdmgmlmlielfbaaGreat
