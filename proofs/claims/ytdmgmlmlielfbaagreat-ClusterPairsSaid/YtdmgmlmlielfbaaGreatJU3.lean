/- Steps through functions of the program. -/
import Derived.Test.YtdmgmlmlielfbaaGreatJU2
import Derived.Test.YtdmgmlmlielfbaaGreatL3
set_option linter.unusedVariables false
set_option linter.unusedSimpArgs false
set_option maxRecDepth 100000
set_option maxHeartbeats 4000000
namespace Go.Proofs.YtdmgmlmlielfbaaGreat
open Go.K Go.K.Rep
noncomputable section
namespace F36
def c0 := bodyOf Tryz.f36
def c18 := (cr (cr (cr (cr (cr c0)))))
def o21 := rops (cl (cr c18))
end F36
theorem solve_okA {w₀ : World} {C : Nat → Nat} {n m : Int} {l : List K.Edge} {vl : Value} (hF : Lim w₀ C) (hl : RV w₀ (Mc C) l vl) :
    Calls Tryz.prog 36 #[.int .i64 n, .int .i64 m, vl] w₀ (Ret fun v w' => ∃ u, v = .tuple #[u, .int .i64 (solT n m l), .int .i64 (chkE n m l)] ∧ Stp [] w₀ C w' C ∧ RV w' (Mc C) (solL n m l) u) := by
 have hF0 := hF
 have hT := Stp.refl [2, 3, 4, 5, 6, 7, 8, 9] w₀ (col1 C)
 replace hF := hF.col1
 replace hl := hl.c1
 refine c_st F36.c0 83 [.int .i64 n, .int .i64 m, vl] Tryz.func36 ?_
 show Run _ _ _ _ [(0, .int .i64 n), (1, .int .i64 m), (2, vl)] _ _
 refine run_sq (run_pl [yy 0, yy 1, yy 2] ?_)
 refine yV (kq 6 (.assign (.const (.slice none 0 0)))) (fun _ => val_assign rfl) ?_
 refine yAc 7 (.int .i64 0) ?_
 refine yAc 8 (.int .i64 0) ?_
 refine Sch.nil (run_sq (run_sq (run_pl [yy 0, yy 1, yy 2, nn 3, yy 4] ?_)))
 refine yM 15 0 ?_
 refine yM 16 1 ?_
 refine yM 17 2 ?_
 refine cG 18 65 [15, 16, 17] [3, 3, 60] Tryz.call65 rfl (echeck_ok (n := n) (m := m) hF hl) ?_
 rintro vw1 w1 ⟨rfl, s_1⟩
 refine yA 9 18 ?_
 refine Sch.nil (run_sq (run_pl [yy 0, yy 1] ?_))
 refine yM 19 9 ?_
 refine yV (kq 20 (.binOp .neq 36 (.tmp 19) (.const (.int .i64 0)) 36)) (fun _ => val_neq rfl rfl) ?_
 refine Sch.nil ?_
 refine run_i 20 rfl (fun h20 => ?_) (fun h20 => ?_)
 ·
  refine run_sq (run_pl [yy 0, yy 1, yy 2, yy 3] ?_)
  refine yM 21 9 ?_
  refine yV (kq 6 (.assign (.const (.slice none 0 0)))) (fun _ => val_assign rfl) ?_
  refine yAc 7 (.int .i64 0) ?_
  refine yA 8 21 ?_
  refine Sch.nil ?_
  refine run_ret3 (by kernel_rfl) Tryz.func36 Tryz.results36 rfl rfl rfl ?_
  replace hT := hT.t s_1
  exact ⟨_, by unfold solT; rw [if_neg h20], hT.out1 (by decide), by unfold solL; rw [if_neg h20]; exact rv_nil⟩
 have hck : chkE n m l = 0 := Classical.not_not.1 h20
 have hV := chkE_zero hck
 obtain ⟨n, rfl⟩ : ∃ k : Nat, n = (k : Int) := ⟨n.toNat, by have := hV.n0; omega⟩
 obtain ⟨m, rfl⟩ : ∃ k : Nat, m = (k : Int) := ⟨m.toNat, by have := hV.m0; omega⟩
 have hn1 := hV.n1
 have hm1 := hV.m1
 refine run_sk (run_sq (run_pl [yy 0, yy 1, yy 2, nn 3, yy 4] ?_))
 refine yM 22 0 ?_
 refine yM 23 1 ?_
 refine yM 24 2 ?_
 replace hF := hF.st s_1; replace hl := hl.t s_1
 refine cG 25 66 [22, 23, 24] [3, 3, 60] Tryz.call66 rfl (graph_ok hF hV hl) ?_
 rintro vw2 w2 ⟨gb, gr, U, V, rfl, s_2, hg, hG⟩
 refine yA 10 25 ?_
 refine Sch.nil (run_sq (run_pl [yy 0, nn 1, yy 2] ?_))
 refine yM 26 10 ?_
 replace hF := hF.st s_2
 refine cG 27 67 [26] [97] Tryz.call67 rfl (begin_own hF hg hG (by omega) 3 (by decide)) ?_
 rintro vs w3 ⟨Cb, s_3, hF, hst⟩
 refine yA 11 27 ?_
 refine Sch.nil (run_sq (run_pl [yy 0] ?_))
 refine yV (kq 12 (.assign (.const (.slice none 0 0)))) (fun _ => val_assign rfl) ?_
 refine Sch.nil (run_sq (run_sq (run_pl [yy 0, yy 1] ?_)))
 refine yM 28 0 ?_
 refine yC 29 (.int .i64 0) ?_
 refine Sch.nil (run_bk 0 ?_)
 refine run_lp (ι := Nat × (List Int) × Value × (Nat → Nat)) (I := fun x w => x.1 ≤ n ∧ x.2.1.length = n ∧ GIA n m (Tg n m (pos (edW l)) U V) (gI x.2.1) x.1 ∧ Lim w x.2.2.2 ∧ Stp [2, 3, 4, 5, 6, 7, 8, 9] w₀ (col1 C) w x.2.2.2 ∧ RA w (Mc x.2.2.2) gr gb 0 ∧ OwnL w x.2.2.2 3 3 vs x.2.1 ∧ OwnL w x.2.2.2 4 103 x.2.2.1 (outI (gI x.2.1) x.1)) (e := fun x => [(1, .int .i64 m), (10, .pointer (some ⟨gb, 0, none⟩)), (11, vs), (12, x.2.2.1), (28, .int .i64 n), (29, .int .i64 x.1)]) (m := fun x => n - x.1) (x₀ := (0, List.replicate n (-2), .slice none 0 0, Cb)) (sr 1 (sr 10 (sr 11 (sr 12 (sr 28 (sr 29 (sub_nil _))))))) ?_ ?_
 ·
   replace hT := ((hT.t s_1).t s_2).t s_3; replace hg := hg.t s_3
   exact ⟨Nat.zero_le _, List.length_replicate, GIA.start (fun q hq => by
  show (List.replicate n (-2 : Int)).getD q 0 = -2
  rw [getD_in (by rw [List.length_replicate]; exact hq)]; exact List.getElem_replicate _) hG.ex, hF, hT, hg, hst, OwnL.nil⟩
 intro ⟨i, stl, vo, C1⟩ w4 hI next1
 obtain ⟨hi, hsl, hGI, hF, hT, hg, hst, ho⟩ := hI
 try simp only at hi hsl hGI hF hT hg hst ho
 show Run _ _ _ _ [(1, .int .i64 m), (10, .pointer (some ⟨gb, 0, none⟩)), (11, vs), (12, vo), (28, .int .i64 n), (29, .int .i64 i)] _ _
 have hol := outI_len (gI stl) i
 refine run_sq (run_pl [yy 0] ?_)
 refine yL 30 3 29 28 ?_
 refine Sch.nil (run_sq ?_)
 refine run_i 30 rfl (fun h30 => ?_) (fun h30 => ?_)
 ·
  have hin : i < n := by omega
  refine run_sk (run_sq (run_bk 1 (run_sq (run_pl [yy 0, yy 1] ?_))))
  refine yM 31 29 ?_
  refine yA 13 31 ?_
  refine Sch.nil (run_sq (run_sq (run_pl [yy 0] ?_)))
  refine yAc 14 (.int .i64 0) ?_
  refine Sch.nil (run_bk 2 ?_)
  refine run_lp (ι := Nat × (List Int) × (Nat → Nat)) (I := fun x w => x.1 ≤ m ∧ x.2.1.length = n ∧ GR n m (Tg n m (pos (edW l)) U V) (gI stl) (gI x.2.1) i x.1 ∧ Lim w x.2.2 ∧ Stp [2, 3, 4, 5, 6, 7, 8, 9] w₀ (col1 C) w x.2.2 ∧ RA w (Mc x.2.2) gr gb 0 ∧ OwnL w x.2.2 3 3 vs x.2.1 ∧ OwnL w x.2.2 4 103 vo (outI (gI stl) i)) (e := fun x => [(1, .int .i64 m), (10, .pointer (some ⟨gb, 0, none⟩)), (11, vs), (12, vo), (13, .int .i64 i), (14, .int .i64 x.1), (28, .int .i64 n), (29, .int .i64 i)]) (m := fun x => m - x.1) (x₀ := (0, stl, C1)) (sr 1 (sr 10 (sr 11 (sr 12 (sr 13 (sr 14 (sr 28 (sr 29 (sub_nil _))))))))) ?_ ?_
  · exact ⟨Nat.zero_le _, hsl, GR.start, hF, hT, hg, hst, ho⟩
  intro ⟨j, stl1, C2⟩ w5 hI next2
  obtain ⟨hj, hsl1, hGR, hF, hT, hg, hst, ho⟩ := hI
  try simp only at hj hsl1 hGR hF hT hg hst ho
  show Run _ _ _ _ [(1, .int .i64 m), (10, .pointer (some ⟨gb, 0, none⟩)), (11, vs), (12, vo), (13, .int .i64 i), (14, .int .i64 j), (28, .int .i64 n), (29, .int .i64 i)] _ _
  have hsg : gI stl1 i = stl1[i]'(by omega) := getD_in _
  refine run_sq (run_sq ?_)
  refine run_cut 41 (decide (j < m ∧ gI stl1 i < 0)) (C2) ?_ ?_
  ·
   intro hcut
   by_cases hA : (j : Int) < m
   ·
    refine run_pl [yy 0, yy 1, yy 2, yy 3, yy 4, yy 5, yy 6, nn 7, yy 8, yy 9] ?_
    refine yM 32 14 ?_
    refine yM 33 1 ?_
    refine yV (kq 34 (.binOp .lss 3 (.tmp 32) (.tmp 33) 3)) (fun _ => val_T (val_lss rfl rfl) hA) ?_
    refine yM 35 34 ?_
    refine yMg 36 11 3 true ?_
    refine yMg 37 13 3 true ?_
    refine oI (e' := 3) (kg 38 (.indexAddr 22 (.tmp 36) (.tmp 37)) 3 true) rfl rfl hst rfl (by kernel_rfl) rfl (by omega) (by omega) ?_
    intro g38 hg38
    try simp only [Int.toNat_natCast]
    refine oN (kg 39 (.load 3 (.tmp 38)) 3 true) rfl rfl trivial hst hg38 (by omega) (by kernel_rfl) rfl rfl ?_
    intro v39 g39
    try simp only [Int.toNat_natCast] at g39
    first | (obtain rfl := rv_nat.1 g39) | (obtain rfl := rv_int.1 g39)
    refine yV (kg 40 (.binOp .lss 3 (.tmp 39) (.const (.int .i64 0)) 3) 3 true) (fun _ => val_lss rfl rfl) ?_
    refine yAt 41 35 40 ?_
    exact Sch.nil (hcut _ _ _ (Stp.refl _ _ _) rfl (by congr 1; apply decide_eq_decide.2; rw [hsg]; exact ⟨fun h => ⟨by omega, h⟩, fun h => h.2⟩) (sk 10))
   refine run_pl [yy 0, yy 1, yy 2, yy 3, yy 4, yy 5, yy 6, nn 7, yy 8, yy 9] ?_
   refine yM 32 14 ?_
   refine yM 33 1 ?_
   refine yV (kq 34 (.binOp .lss 3 (.tmp 32) (.tmp 33) 3)) (fun _ => val_F (val_lss rfl rfl) hA) ?_
   refine yM 35 34 ?_
   refine pX 36 3 true ?_
   refine pX 37 3 true ?_
   refine pX 38 3 true ?_
   refine pW (kg 39 (.load 3 (.tmp 38)) 3 true) rfl rfl trivial ?_
   refine pX 40 3 true ?_
   refine yAf 41 35 40 ?_
   exact Sch.nil (hcut _ _ _ (Stp.refl _ _ _) rfl (by rw [decide_eq_false (fun e => hA (by omega))]) (sk 10))
  intro w6 s_4
  refine run_i 41 rfl (fun h41 => ?_) (fun h41 => ?_)
  ·
   have hgo := hGR.open_ h41.2
   have hG2 := hGR
   refine run_sk (run_sq (run_bk 3 (run_sq (run_sq (run_pl [yy 0, yy 1, yy 2, nn 3, yy 4] ?_)))))
   refine yM 44 10 ?_
   refine yM 45 13 ?_
   refine yM 46 14 ?_
   replace hg := hg.t s_4
   refine cG 47 68 [44, 45, 46] [97, 3, 3] Tryz.call68 rfl (edge_ok hg hG hin h41.1) ?_
   rintro vw7 w7 ⟨rfl, rfl⟩
   refine yV (kq 48 (.unOp .not 4 (.tmp 47))) (fun _ => val_not rfl) ?_
   refine Sch.nil ?_
   refine run_c 48 rfl (fun h48 => ?_) (fun h48 => ?_)
   ·
    have hGR2 := hGR.skip h41.2 (fun f hf _ e => by
       have := hf.edge i hin (by omega)
       rw [e] at this
       have hb := edgeB_iff.2 this
       rw [hb] at h48; cases h48)
    refine run_ex 3 ?_
    refine run_pl [yy 0, yy 1, yy 2] ?_
    refine yM 42 14 ?_
    refine yI 43 3 42 1 ?_
    refine yA 14 43 ?_
    refine Sch.nil ?_
    replace hF := hF.st s_4; replace hT := hT.t s_4; replace hst := hst.t s_4; replace ho := ho.t s_4
    refine kp (sr 1 (sr 10 (sr 11 (sr 12 (sr 13 (sub_cons 14 rfl (eq_int (by simp)) (sr 28 (sr 29 (sub_nil _))))))))) (next2 (j + 1, stl1, C2) _ ⟨(by first | omega | (simp only; omega)), (by first | omega | (simp only; omega)), hGR2, hF, hT, hg, hst, ho⟩ (by first | omega | (simp only; omega)))
   refine run_sk (run_sq (run_pl [yy 0, yy 1, yy 2, yy 3, nn 4] ?_))
   refine yM 49 11 ?_
   refine yM 50 13 ?_
   refine yM 51 14 ?_
   replace hst := hst.t s_4
   refine oR 3 52 22 49 50 hst rfl (by omega) (h := ?_)
   intro g52 hg52
   try simp only [Int.toNat_natCast]
   refine aU (k0 (.store 3 (.tmp 52) (.tmp 51))) rfl (a_storeO hst hg52 (by omega) rfl rfl (by kernel_rfl) (rv_int.2 rfl)) ?_
   rintro _ w8 ⟨rfl, s_5, hst⟩
   obtain ⟨stl2, hs2⟩ : ∃ x, x = stl1.set i (j : Int) := ⟨_, rfl⟩
   rw [← hs2] at hst
   have hsl2 : stl2.length = n := by rw [hs2, List.length_set]; exact hsl1
   have he2 : ∀ q, gI stl2 q = if i = q then (j : Int) else gI stl1 q := fun q => by rw [hs2]; exact getD_set (by omega)
   have hb1 : ∀ q, q < n → -2 ≤ gI stl2 q := fun q hq => by
     have := hGI.bnd q hq
     rw [he2]; split
     · omega
     rw [hgo.1]; exact this.1
   have hb2 : ∀ q, q < n → gI stl2 q < m := fun q hq => by
     have := hGI.bnd q hq
     rw [he2]; split
     · omega
     rw [hgo.1]; exact this.2
   clear hs2
   refine Sch.nil (run_sq (run_pl [yy 0, yy 1, nn 2, yy 3] ?_))
   refine yM 53 10 ?_
   refine yM 54 11 ?_
   replace hF := (hF.st s_4).st s_5; replace hg := hg.t s_5
   refine cT (kq 55 (.call { callee := .value (.func 69), args := #[(.tmp 53), (.tmp 54), (.const .nilFunc)], argTypes := #[97, 22, 100] })) rfl rfl (ent Tryz.call69 rfl) (feasible_ok (hF.frz 3) hG (hg.frz 3) (hst.frz (n := 3) (by decide) (by omega)) hsl2 hb1 hb2 (by omega) (by omega)) ?_
   rintro vw9 w9 ⟨bb, rfl, hs0, hbb⟩
   have s_6 := hs0.unfrz (C2)
   refine yV (kq 56 (.unOp .not 4 (.tmp 55))) (fun _ => val_not rfl) ?_
   refine Sch.nil ?_
   refine run_c 56 rfl (fun h56 => ?_) (fun h56 => ?_)
   ·
    have hbf : bb = false := by simpa using h56
    refine run_pl [yy 0, yy 1, yy 2, nn 3] ?_
    refine yM 57 11 ?_
    refine yM 58 13 ?_
    replace hst := hst.t s_6
    refine oR 3 59 22 57 58 hst rfl (by omega) (h := ?_)
    intro g59 hg59
    try simp only [Int.toNat_natCast]
    refine aU (k0 (.store 3 (.tmp 59) (.const (.int .i64 (-2))))) rfl (a_storeO hst hg59 (by omega) rfl rfl (by kernel_rfl) (rv_int.2 rfl)) ?_
    rintro _ w10 ⟨rfl, s_7, hst⟩
    obtain ⟨stl3, hs3⟩ : ∃ x, x = stl2.set i (-2 : Int) := ⟨_, rfl⟩
    rw [← hs3] at hst
    have hsl3 : stl3.length = n := by rw [hs3, List.length_set]; exact hsl2
    have he3 : ∀ q, gI stl3 q = if i = q then (-2 : Int) else gI stl2 q := fun q => by rw [hs3]; exact getD_set (by omega)
    clear hs3
    refine Sch.nil (run_inBlock (run_pl [yy 0, yy 1, yy 2] ?_))
    refine yM 42 14 ?_
    refine yI 43 3 42 1 ?_
    refine yA 14 43 ?_
    refine Sch.nil ?_
    replace hT := (((hT.t s_4).t s_5).t s_6).t s_7; replace ho := (((ho.t s_4).t s_5).t s_6).t s_7; replace hF := (hF.st s_6).st s_7; replace hg := (hg.t s_6).t s_7
    refine kp (sr 1 (sr 10 (sr 11 (sr 12 (sr 13 (sub_cons 14 rfl (eq_int (by simp)) (sr 28 (sr 29 (sub_nil _))))))))) (next2 (j + 1, stl3, C2) _ ⟨(by first | omega | (simp only; omega)), hsl3, (hGR.no hGI hin h41.2 he2 (fun e => by have := hbb.2 e; rw [hbf] at this; cases this) he3), hF, hT, hg, hst, ho⟩ (by first | omega | (simp only; omega)))
   have hbt : bb = true := by simpa using h56
   refine run_sk (run_inBlock (run_pl [yy 0, yy 1, yy 2] ?_))
   refine yM 42 14 ?_
   refine yI 43 3 42 1 ?_
   refine yA 14 43 ?_
   refine Sch.nil ?_
   replace hT := ((hT.t s_4).t s_5).t s_6; replace ho := ((ho.t s_4).t s_5).t s_6; replace hF := hF.st s_6; replace hg := hg.t s_6; replace hst := hst.t s_6
   refine kp (sr 1 (sr 10 (sr 11 (sr 12 (sr 13 (sub_cons 14 rfl (eq_int (by simp)) (sr 28 (sr 29 (sub_nil _))))))))) (next2 (j + 1, stl2, C2) _ ⟨(by first | omega | (simp only; omega)), hsl2, (hGR.yes hGI hin h41.1 h41.2 he2 (hbb.1 hbt)), hF, hT, hg, hst, ho⟩ (by first | omega | (simp only; omega)))
  refine run_ex 2 ?_
  refine run_sq (run_pl [yy 0, yy 1, yy 2, nn 3, yy 4] ?_)
  refine yM 60 11 ?_
  refine yM 61 13 ?_
  replace hst := hst.t s_4
  refine oR 3 62 22 60 61 hst rfl (by omega) (h := ?_)
  intro g62 hg62
  try simp only [Int.toNat_natCast]
  refine oN (kq 63 (.load 3 (.tmp 62))) rfl rfl trivial hst hg62 (by omega) (by kernel_rfl) rfl rfl ?_
  intro v63 g63
  try simp only [Int.toNat_natCast] at g63
  first | (obtain rfl := rv_nat.1 g63) | (obtain rfl := rv_int.1 g63)
  refine yV (kq 64 (.binOp .geq 3 (.tmp 63) (.const (.int .i64 0)) 3)) (fun _ => val_geq rfl rfl) ?_
  refine Sch.nil ?_
  refine run_i 64 rfl (fun h64 => ?_) (fun h64 => ?_)
  ·
   rw [← hsg] at h64
   obtain ⟨hgi1, hgi2⟩ := hGR.done h64 hGI hin
   refine run_pl [yy 0, yy 1, yy 2, yy 3, yy 4, nn 5, yy 6, nn 7, nn 8, yy 9] ?_
   refine yM 65 12 ?_
   refine yM 66 13 ?_
   refine yM 67 11 ?_
   refine yM 68 13 ?_
   refine oR 3 69 22 67 68 hst rfl (by omega) (h := ?_)
   intro g69 hg69
   try simp only [Int.toNat_natCast]
   refine oN (kq 70 (.load 3 (.tmp 69))) rfl rfl trivial hst hg69 (by omega) (by kernel_rfl) rfl rfl ?_
   intro v70 g70
   try simp only [Int.toNat_natCast] at g70
   first | (obtain rfl := rv_nat.1 g70) | (obtain rfl := rv_int.1 g70)
   rw [← hsg]
   refine yV (kq 71 (.build 103 #[(0, (.tmp 66)), (1, (.tmp 70))])) (fun _ => val_build (zs := [.int .i64 0, .int .i64 0]) (ps := [(0, 1), (1, 1)]) (qs := [(0, [.int .i64 (i : Int)]), (1, [.int .i64 (gI stl1 i)])]) (cs := [.int .i64 (i : Int), .int .i64 (gI stl1 i)]) (by kernel_rfl) (by kernel_rfl) (by exact ⟨rfl, ⟨_, rfl, rfl⟩, rfl, ⟨_, rfl, rfl⟩, trivial⟩) rfl) ?_
   replace hF := hF.st s_4
   refine aT (kq 72 (.buildSlice 63 1 #[(0, (.tmp 71))])) rfl rfl (a_buildSlice (ys := ([⟨(i : Int), gI stl1 i⟩] : List Couple)) (e := 103) (bytes := 16) hF (by kernel_rfl) rfl (by decide) (by decide) ⟨rfl, ⟨_, rfl, rv_couple.2 rfl⟩, trivial⟩) ?_
   rintro v72 w11 ⟨s_8, g72, hF⟩
   replace ho := (ho.t s_4).t s_8
   refine aT (kq 73 (.call { callee := .builtin .append, args := #[(.tmp 65), (.tmp 72)], argTypes := #[63, 63] })) rfl rfl (a_append (e := 103) (bytes := 16) hF (by decide) rfl rfl (by kernel_rfl) (by decide) ho g72 (by simp only [List.length_cons, List.length_nil]; omega) (by simp only [List.length_cons, List.length_nil]; omega)) ?_
   rintro v73 w12 ⟨Cw12, s_9, ho, hF⟩
   refine yA 12 73 ?_
   refine Sch.nil ?_
   rw [← outI_take hgi2 (by omega)] at ho
   refine run_inBlock (run_pl [yy 0, yy 1] ?_)
   refine yI 77 3 29 1 ?_
   refine yM 29 77 ?_
   refine Sch.nil ?_
   replace hT := ((hT.t s_4).t s_8).t s_9; replace hg := ((hg.t s_4).t s_8).t s_9; replace hst := (hst.t s_8).t s_9
   refine kp (sr 1 (sr 10 (sr 11 (sr 12 (sr 28 (sub_cons 29 rfl (eq_int (by simp)) (sub_nil _))))))) (next1 (i + 1, stl1, v73, Cw12) _ ⟨(by first | omega | (simp only; omega)), hsl1, hgi1, hF, hT, hg, hst, ho⟩ (by first | omega | (simp only; omega)))
  rw [← hsg] at h64
  refine run_pl [yy 0, yy 1, yy 2, nn 3] ?_
  refine yM 74 11 ?_
  refine yM 75 13 ?_
  refine oR 3 76 22 74 75 hst rfl (by omega) (h := ?_)
  intro g76 hg76
  try simp only [Int.toNat_natCast]
  refine aU (k0 (.store 3 (.tmp 76) (.const (.int .i64 (-1))))) rfl (a_storeO hst hg76 (by omega) rfl rfl (by kernel_rfl) (rv_int.2 rfl)) ?_
  rintro _ w13 ⟨rfl, s_10, hst⟩
  obtain ⟨stl2, hs2⟩ : ∃ x, x = stl1.set i (-1 : Int) := ⟨_, rfl⟩
  rw [← hs2] at hst
  have hsl2 : stl2.length = n := by rw [hs2, List.length_set]; exact hsl1
  have he2 : ∀ q, gI stl2 q = if i = q then (-1 : Int) else gI stl1 q := fun q => by rw [hs2]; exact getD_set (by omega)
  clear hs2
  obtain ⟨hgi1, hgi2⟩ := hGR.none hGI hin (by omega) (fun f hf => hf.le i hin) (by omega) he2
  replace ho := (ho.t s_4).t s_10
  rw [← outI_pass hgi2 (by rw [he2, if_pos rfl]; decide)] at ho
  refine Sch.nil (run_inBlock (run_pl [yy 0, yy 1] ?_))
  refine yI 77 3 29 1 ?_
  refine yM 29 77 ?_
  refine Sch.nil ?_
  replace hF := (hF.st s_4).st s_10; replace hT := (hT.t s_4).t s_10; replace hg := (hg.t s_4).t s_10
  refine kp (sr 1 (sr 10 (sr 11 (sr 12 (sr 28 (sub_cons 29 rfl (eq_int (by simp)) (sub_nil _))))))) (next1 (i + 1, stl2, vo, C2) _ ⟨(by first | omega | (simp only; omega)), hsl2, hgi1, hF, hT, hg, hst, ho⟩ (by first | omega | (simp only; omega)))
 have hin : i = n := by omega
 rw [hin] at hGI ho
 obtain ⟨hout1, hout2⟩ := sol_fin hck hG.pr hGI
 refine run_ex 0 ?_
 refine run_sq ?_
 refine run_draw (id := 21) (ops := F36.o21) [] (C1) [yy 0, yy 1, yy 2, yy 3, yy 4, yy 5, yy 6, yy 7] Tryz_mixed (by kernel_rfl) (by kernel_rfl) (by kernel_rfl) ?_
 intro w14 s_11
 refine yM 78 12 ?_
 refine yM 79 10 ?_
 refine yN 80 79 ?_
 replace hg := hg.t s_11
 have h81 := RA.gT hg
 refine yF 81 106 80 4 4 ?_
 refine lS (kq 82 (.load 3 (.tmp 81))) rfl rfl (fun w' hS => h81.sy hS) h81 (by kernel_rfl) rfl rfl ?_
 intro v82 g82
 first | (obtain rfl := rv_nat.1 g82) | (obtain rfl := rv_int.1 g82)
 refine yA 6 78 ?_
 refine yA 7 82 ?_
 refine yAc 8 (.int .i64 0) ?_
 refine Sch.nil ?_
 refine run_ret3 (by kernel_rfl) Tryz.func36 Tryz.results36 rfl rfl rfl ?_
 rw [hG.tot, hout2, hck]
 replace ho := ho.t s_11
 rw [hout1] at ho
 replace hT := hT.t s_11
 exact ⟨_, rfl, hT.out1 (by decide), ho.out hT hF0 (Mc_col1 C) (fun b _ => col1_lt C (by decide) b) (by rw [← hout1]; have := outI_len (gI stl) n; omega)⟩
end
end Go.Proofs.YtdmgmlmlielfbaaGreat
