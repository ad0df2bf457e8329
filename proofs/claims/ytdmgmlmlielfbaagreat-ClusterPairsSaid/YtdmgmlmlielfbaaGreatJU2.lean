/- Steps through functions of the program. -/
import Derived.Test.YtdmgmlmlielfbaaGreatJU1
set_option linter.unusedVariables false
set_option linter.unusedSimpArgs false
set_option maxRecDepth 100000
set_option maxHeartbeats 4000000
namespace Go.Proofs.YtdmgmlmlielfbaaGreat
open Go.K Go.K.Rep
noncomputable section
namespace F105
def c0 := bodyOf Tryz.f105
end F105
theorem weightOf_ok {w₀ : World} {C : Nat → Nat} {um : List (Couple × Int)} {bm b2 : Nat} {i j : Int} (hF : Lim w₀ C) (h2 : RA w₀ (Mc C) (⟨.map (some bm)⟩ : Sv) b2 0) (hm : RM w₀ (Mc C) kvC kvI um (.map (some bm))) :
    Calls Tryz.prog 105 #[.int .i64 i, .int .i64 j, .pointer (some ⟨b2, 0, none⟩)] w₀ (Ret fun v w' => v = .int .i64 ((mget um ⟨i, j⟩).getD 0) ∧ Stp [] w₀ C w' C) := by
 have hF0 := hF
 have hT := Stp.refl [2, 3, 4, 5, 6, 7, 8, 9] w₀ (col1 C)
 replace hF := hF.col1
 replace h2 := (show RA w₀ (Mc (col1 C)) _ _ 0 from by rw [Mc_col1]; exact h2)
 replace hm := (show RM w₀ (Mc (col1 C)) _ _ _ _ from by rw [Mc_col1]; exact hm)
 refine c_st F105.c0 11 [.int .i64 i, .int .i64 j, .pointer (some ⟨b2, 0, none⟩)] Tryz.func105 ?_
 show Run _ _ _ _ [(0, .int .i64 i), (1, .int .i64 j), (2, .pointer (some ⟨b2, 0, none⟩))] _ _
 refine run_sq (run_pl [yy 0] ?_)
 refine yAc 5 (.int .i64 0) ?_
 refine Sch.nil (run_sq (run_pl [nn 0, yy 1, yy 2, yy 3, nn 4, yy 5] ?_))
 refine lN (kq 6 (.load 144 (.tmp 2))) rfl rfl trivial h2 (by kernel_rfl) rfl rfl ?_
 intro v6 g6
 obtain ⟨e6, _⟩ := rv_sv.1 g6
 subst e6
 refine yM 7 0 ?_
 refine yM 8 1 ?_
 refine yV (kq 9 (.build 145 #[(0, (.tmp 7)), (1, (.tmp 8))])) (fun _ => val_buildArr (zs := [.int .i64 0, .int .i64 0]) (cs := [.int .i64 i, .int .i64 j]) (qs := [(0, [.int .i64 i]), (1, [.int .i64 j])]) Tryz.underlying145 (by kernel_rfl) (by kernel_rfl) (by kernel_rfl) (by exact ⟨rfl, ⟨_, rfl, rfl⟩, rfl, ⟨_, rfl, rfl⟩, trivial⟩) rfl) ?_
 refine nS (kq 10 (.lookup 144 (.tmp 6) (.tmp 9) false)) rfl rfl trivial (hm.lookup (z0 := (0 : Int)) (k := (⟨i, j⟩ : Couple)) Tryz.underlying144 (keyOK_arr Tryz.underlying145 Tryz.underlying3 (by kernel_rfl) (by kernel_rfl)) Tryz.zeroValue3 rfl rfl) ?_
 refine yA 5 10 ?_
 refine Sch.nil ?_
 refine rt1 Tryz.func105 Tryz.results105 ?_
 exact ⟨rfl, hT.out1 (by decide)⟩
namespace F66
def c0 := bodyOf Tryz.f66
end F66
theorem graph_all {w₀ : World} {C : Nat → Nat} {n m : Nat} {l : List K.Edge} {vl : Value} (hF : Lim w₀ C) (hV : VE n m l) (hl : RV w₀ (Mc C) l vl) :
    Calls Tryz.prog 66 #[.int .i64 n, .int .i64 m, vl] w₀ (Ret fun v w' => ∃ (b : Nat) (gr : Gr) (U V : Nat → Int), v = .pointer (some ⟨b, 0, none⟩) ∧ Stp [] w₀ C w' C ∧ RA w' (Mc C) gr b 0 ∧ GrIs n m (edW l) U V gr ∧ GiveG w₀ C w' 3 b gr) := by
 have hF0 := hF
 have hT := Stp.refl [2, 3, 4, 5, 6, 7, 8, 9] w₀ (col1 C)
 replace hF := hF.col1
 replace hl := hl.c1
 have hn1 := hV.n1
 have hm1 := hV.m1
 refine c_st F66.c0 30 [.int .i64 n, .int .i64 m, vl] Tryz.func66 ?_
 show Run _ _ _ _ [(0, .int .i64 n), (1, .int .i64 m), (2, vl)] _ _
 refine run_sq (run_pl [yy 0] ?_)
 refine yV (kq 6 (.assign (.const (.pointer none)))) (fun _ => val_assign rfl) ?_
 refine Sch.nil (run_sq (run_pl [nn 0, nn 1, nn 2] ?_))
 refine aT (kq 10 (.makeMap 144 none)) rfl rfl (a_makeMap hF 3 kvC kvI) ?_
 rintro _ wm ⟨Cm, bm, rfl, s_1, hm, hF⟩
 refine aT (kq 7 (.alloc 144)) rfl rfl (a_alloc (cs := [.map none]) hF 4 (by kernel_rfl)) ?_
 rintro _ w1 ⟨Cw1, bw1, rfl, s_2, hb7, hF⟩
 refine aU (k0 (.store 144 (.tmp 7) (.tmp 10))) rfl (a_storeAll (vs := [.map (some bm)]) (n := 1) rfl rfl (by kernel_rfl) rfl rfl (by intro u hu2; rw [List.mem_singleton.1 hu2]; rfl) hb7 rfl) ?_
 rintro _ w2 ⟨rfl, s_3, hb7⟩
 refine Sch.nil (run_sq (run_sq (run_pl [yy 0, yy 1, yy 2] ?_)))
 refine yM 11 2 ?_
 replace hl := ((hl.t s_1).t s_2).t s_3
 refine yS (kq 12 (.call { callee := .builtin .len, args := #[(.tmp 11)], argTypes := #[60] })) rfl rfl (fun w' hS => hl.lenV rfl Tryz.underlying60 w' ) ?_
 refine yC 13 (.int .i64 0) ?_
 refine Sch.nil (run_bk 0 ?_)
 refine run_lp (ι := Nat × (Nat → Nat)) (I := fun x w => x.1 ≤ l.length ∧ Lim w x.2 ∧ Stp [2, 3, 4, 5, 6, 7, 8, 9] w₀ (col1 C) w x.2 ∧ RV w (Mc x.2) l vl ∧ OwnM w x.2 3 bm kvC kvI (edM (l.take x.1)) ∧ OwnB w x.2 4 bw1 (.cells [.map (some bm)].toArray 144)) (e := fun x => [(0, .int .i64 n), (1, .int .i64 m), (7, .pointer (some ⟨bw1, 0, none⟩)), (11, vl), (12, .int .i64 l.length), (13, .int .i64 x.1)]) (m := fun x => l.length - x.1) (x₀ := (0, Cw1)) (sr 0 (sr 1 (sr 7 (sr 11 (sr 12 (sr 13 (sub_nil _))))))) ?_ ?_
 ·
   replace hT := ((hT.t s_1).t s_2).t s_3; replace hm := (hm.t s_2).t s_3; replace hF := hF.st s_3
   exact ⟨Nat.zero_le _, hF, hT, hl, hm, hb7⟩
 intro ⟨i, C1⟩ w3 hI next1
 obtain ⟨hi, hF, hT, hl, hm, hb7⟩ := hI
 try simp only at hi hF hT hl hm hb7
 show Run _ _ _ _ [(0, .int .i64 n), (1, .int .i64 m), (7, .pointer (some ⟨bw1, 0, none⟩)), (11, vl), (12, .int .i64 l.length), (13, .int .i64 i)] _ _
 have hle := hl.le
 refine run_sq (run_pl [yy 0] ?_)
 refine yL 14 3 13 12 ?_
 refine Sch.nil (run_sq ?_)
 refine run_i 14 rfl (fun h14 => ?_) (fun h14 => ?_)
 ·
  have hil : i < l.length := by omega
  refine run_sk (run_sq (run_bk 1 (run_sq (run_pl [yy 0, nn 1, nn 2, nn 3] ?_))))
  refine iR 62 15 60 11 13 hl rfl (h := ?_)
  intro b15 o15 h15
  try simp only [Int.toNat_natCast] at h15
  refine lNA (kq 16 (.load 62 (.tmp 15))) rfl rfl trivial h15 (by kernel_rfl) (by kernel_rfl) rfl rfl ?_
  intro v16 g16
  obtain rfl := rv_edge.1 g16
  refine aT (kq 9 (.alloc 62)) rfl rfl (a_alloc (cs := [.int .i64 0, .int .i64 0, .int .i64 0]) hF 5 (by kernel_rfl)) ?_
  rintro _ w4 ⟨Cw4, bw4, rfl, s_4, hx, hF⟩
  refine aU (k0 (.store 62 (.tmp 9) (.tmp 16))) rfl (a_storeAll (vs := encE (l[i]'hil)) (n := 3) rfl rfl (by kernel_rfl) rfl rfl (by intro u hu; simp only [encE, List.mem_cons, List.not_mem_nil, or_false] at hu; rcases hu with rfl | rfl | rfl <;> rfl) hx rfl) ?_
  rintro _ w5 ⟨rfl, s_5, hx⟩
  refine Sch.nil (run_pl [nn 0, yy 1, nn 2, yy 3, nn 4, yy 5, yy 6, nn 7, nn 8] ?_)
  replace hb7 := (hb7.t s_4).t s_5
  refine nO 17 144 7 hb7.at_ rfl rfl ?_
  refine yF 18 62 9 0 0 ?_
  refine nO 19 3 18 hx.at_ rfl rfl ?_
  refine yF 20 62 9 1 1 ?_
  refine nO 21 3 20 hx.at_ rfl rfl ?_
  refine yV (kq 22 (.build 145 #[(0, (.tmp 19)), (1, (.tmp 21))])) (fun _ => val_buildArr (zs := [.int .i64 0, .int .i64 0]) (cs := [.int .i64 (l[i]'hil).a, .int .i64 (l[i]'hil).b]) (qs := [(0, [.int .i64 (l[i]'hil).a]), (1, [.int .i64 (l[i]'hil).b])]) Tryz.underlying145 (by kernel_rfl) (by kernel_rfl) (by kernel_rfl) (by exact ⟨rfl, ⟨_, rfl, rfl⟩, rfl, ⟨_, rfl, rfl⟩, trivial⟩) rfl) ?_
  refine yF 23 62 9 2 2 ?_
  refine nO 24 3 23 hx.at_ rfl rfl ?_
  replace hm := (hm.t s_4).t s_5
  refine aU (k0 (.mapUpdate 144 (.tmp 17) (.tmp 22) (.tmp 24))) rfl (a_mapUpdate (k := (l[i]'hil).k) (u := (l[i]'hil).w) hm Tryz.underlying144 (keyOK_arr Tryz.underlying145 Tryz.underlying3 (by kernel_rfl) (by kernel_rfl)) rfl rfl rfl) ?_
  rintro _ w6 ⟨rfl, s_6, hm⟩
  refine Sch.nil (run_inBlock (run_pl [yy 0, yy 1] ?_))
  refine yI 25 3 13 1 ?_
  refine yM 13 25 ?_
  refine Sch.nil ?_
  replace hT := ((hT.t s_4).t s_5).t s_6; replace hl := ((hl.t s_4).t s_5).t s_6; replace hF := (hF.st s_5).st s_6; replace hb7 := hb7.t s_6
  refine kp (sr 0 (sr 1 (sr 7 (sr 11 (sr 12 (sub_cons 13 rfl (eq_int (by simp)) (sub_nil _))))))) (next1 (i + 1, Cw4) _ ⟨(by first | omega | (simp only; omega)), hF, hT, hl, (by simp only; rw [edM_take hil]; exact hm), hb7⟩ (by first | omega | (simp only; omega)))
 have hil : i = l.length := by omega
 subst hil
 rw [List.take_length] at hm
 have hb_ := hb7.frzA (n := 2) (by decide) (by rfl)
 have hm_ := hm.frz (n := 2) (by decide)
 replace hF := hF.frz 2
 replace hT := hT.frz (n := 2) (fun b => col1_lt2 C b)
 replace hl := hl.frz 2
 have hbr : RA _ _ (⟨_⟩ : Sv) _ 0 := hb_
 have hmr := hm_
 clear hb_ hb7 hm_ hm
 refine run_ex 0 ?_
 refine run_sq (run_pl [yy 0, yy 1, yy 2, nn 3, yy 4] ?_)
 refine yM 26 0 ?_
 refine yM 27 1 ?_
 refine yV (kq 28 (.makeFunc (.func 105) #[] #[(.tmp 7)])) (fun _ => val_makeFunc rfl rfl) ?_
 have hwt := fun (w1 : World) (hs1 : Stp [] _ _ w1 _) (a b : Nat) (ha : a < n) (hb : b < m) => weightOf_ok (i := (a : Int)) (j := (b : Int)) (hF.st hs1) (hbr.st hs1 (by simp)) (hmr.st hs1 (by simp))
 have hTg := hT
 refine cG 29 104 [26, 27, 28] [3, 3, 111] Tryz.call104 rfl (tnew_all (wt := edW l) (W := 65536) hF (by omega) (by omega) (fun args w => Tryz.call105 args w) hwt (fun i j _ _ => (hV.wle i j).2) (by decide) (by decide) (by omega)) ?_
 rintro vw7 w7 ⟨gb, gr, U, V, rfl, s_7, hg, hG, hgv⟩
 refine yA 6 29 ?_
 refine Sch.nil ?_
 refine rt1 Tryz.func66 Tryz.results66 ?_
 replace hT := hT.t s_7
 exact ⟨gb, gr, U, V, rfl, hT.out1 (by decide), RA.out hg hT hF0 (Mc_col1 C), hG, hgv.out hTg (hT.out1 (by decide)) hF0 (Mc_col1 C) (fun b => col1_lt C (by decide) b)⟩
theorem graph_ok {w₀ : World} {C : Nat → Nat} {n m : Nat} {l : List K.Edge} {vl : Value} (hF : Lim w₀ C) (hV : VE n m l) (hl : RV w₀ (Mc C) l vl) :
    Calls Tryz.prog 66 #[.int .i64 n, .int .i64 m, vl] w₀ (Ret fun v w' => ∃ (b : Nat) (gr : Gr) (U V : Nat → Int), v = .pointer (some ⟨b, 0, none⟩) ∧ Stp [] w₀ C w' C ∧ RA w' (Mc C) gr b 0 ∧ GrIs n m (edW l) U V gr) := by
  refine (graph_all hF hV hl).mono ?_
  rintro e w' ⟨v, rfl, b, gr, U, V, h1, h2, h3, h4, _⟩
  exact ⟨v, rfl, b, gr, U, V, h1, h2, h3, h4⟩
end
end Go.Proofs.YtdmgmlmlielfbaaGreat
