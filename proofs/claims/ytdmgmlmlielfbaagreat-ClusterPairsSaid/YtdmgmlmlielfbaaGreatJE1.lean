/- Steps through functions of the program. -/
import Derived.Test.YtdmgmlmlielfbaaGreatJD4
import Derived.Test.YtdmgmlmlielfbaaGreatL2
set_option linter.unusedVariables false
set_option linter.unusedSimpArgs false
set_option maxRecDepth 100000
set_option maxHeartbeats 4000000
namespace Go.Proofs.YtdmgmlmlielfbaaGreat
open Go.K Go.K.Rep
noncomputable section
namespace F52
def c0 := bodyOf Tryz.f52
end F52
theorem cchk_ok {w₀ : World} {C : Nat → Nat} {l : List Bond} {ds : List Dcs} {vl vz : Value} (hF : Lim w₀ C) (hl : RV w₀ (Mc C) l vl) (hz : RV w₀ (Mc C) ds vz) (hck : checkS l = 0) (hm4 : ds.length ≤ 4096) (hO : ∀ i (h : i < ds.length), dcsOK ds[i]) (hA1 : ∀ i (h : i + 1 < ds.length), cmpD ds[i] ds[i + 1] < 0) : Calls Tryz.prog 52 #[vl, vz] w₀ (Ret fun v w' => ∃ vm, v = .tuple #[.agg #[vl, vm], .int .i64 0] ∧ Stp [] w₀ C w' C ∧ ApM w' (Mc C) ds vm) := by
 have hF0 := hF
 have hT := Stp.refl [2, 3, 4, 5, 6, 7, 8, 9] w₀ (col1 C)
 replace hF := hF.col1
 replace hl := hl.c1
 replace hz := hz.c1
 refine c_st F52.c0 44 [vl, vz] Tryz.func52 ?_
 show Run _ _ _ _ [(0, vl), (1, vz)] _ _
 refine run_sq (run_pl [nn 0, yy 1] ?_)
 refine aT (kq 4 (.alloc 75)) rfl rfl (a_alloc (cs := [.slice none 0 0, .map none]) hF 3 (by kernel_rfl)) ?_
 rintro _ w1 ⟨Cw1, bw1, rfl, s_1, hy, hF⟩
 refine yAc 5 (.int .i64 0) ?_
 refine Sch.nil (run_sq (run_sq (run_pl [yy 0, nn 1, yy 2] ?_)))
 refine yM 11 0 ?_
 replace hl := hl.t s_1
 refine cG 12 92 [11] [23] Tryz.call92 rfl (check_ok hF hl) ?_
 rintro vw2 w2 ⟨rfl, s_2⟩
 rw [hck]
 refine yA 6 12 ?_
 refine Sch.nil (run_sq (run_pl [yy 0, yy 1] ?_))
 refine yM 13 6 ?_
 refine yV (kq 14 (.binOp .neq 36 (.tmp 13) (.const (.int .i64 0)) 36)) (fun _ => val_is (val_neq rfl rfl) (show _ = Value.bool false from congrArg Value.bool (decide_eq_false (by decide)))) ?_
 refine Sch.nil (run_cF 14 (run_sk (run_sq (run_sq (run_pl [yy 0, nn 1, yy 2] ?_)))))
 refine yM 17 1 ?_
 replace hz := (hz.t s_1).t s_2; replace hF := hF.st s_2
 refine cG 18 93 [17] [24] Tryz.call93 rfl (decided_ok hF hz hm4 hO hA1) ?_
 rintro vw3 w3 ⟨rfl, s_3⟩
 refine yA 7 18 ?_
 refine Sch.nil (run_sq (run_pl [yy 0, yy 1] ?_))
 refine yM 19 7 ?_
 refine yV (kq 20 (.binOp .neq 36 (.tmp 19) (.const (.int .i64 0)) 36)) (fun _ => val_is (val_neq rfl rfl) (show _ = Value.bool false from congrArg Value.bool (decide_eq_false (by decide)))) ?_
 refine Sch.nil (run_cF 20 (run_sk (run_sq (run_pl [yy 0, nn 1, yy 2, nn 3, nn 4] ?_))))
 refine yM 23 0 ?_
 replace hF := hF.st s_3
 refine aT (kq 24 (.makeMap 73 none)) rfl rfl (a_makeMap hF 5 kvP (fun b : Bool => Value.bool b)) ?_
 rintro _ wm ⟨Cm, bm, rfl, s_4, hm, hF⟩
 replace hl := ((hl.t s_2).t s_3).t s_4
 refine yV (kq 25 (.build 75 #[(0, (.tmp 23)), (1, (.tmp 24))])) (fun _ => val_build (zs := [.slice none 0 0, .map none]) (ps := [(0, 1), (1, 1)]) (qs := [(0, [vl]), (1, [.map (some bm)])]) (cs := [vl, .map (some bm)]) (by kernel_rfl) (by kernel_rfl) (by exact ⟨rfl, ⟨_, rfl, (hl.one rfl).1⟩, rfl, ⟨_, rfl, rfl⟩, trivial⟩) rfl) ?_
 refine aT (kq 8 (.alloc 75)) rfl rfl (a_alloc (cs := [.slice none 0 0, .map none]) hF 4 (by kernel_rfl)) ?_
 rintro _ w4 ⟨Cw4, bw4, rfl, s_5, bx, hF⟩
 replace hl := hl.t s_5
 refine aU (k0 (.store 75 (.tmp 8) (.tmp 25))) rfl (a_storeAll (vs := [vl, .map (some bm)]) (n := 2) rfl rfl (by kernel_rfl) rfl rfl (by intro u hu; simp only [List.mem_cons, List.not_mem_nil, or_false] at hu; rcases hu with rfl | rfl <;> first | rfl | exact (hl.one rfl).2) bx rfl) ?_
 rintro _ w5 ⟨rfl, s_6, bx⟩
 refine Sch.nil (run_sq (run_sq (run_pl [yy 0, yy 1, yy 2] ?_)))
 refine yM 26 1 ?_
 replace hz := (((hz.t s_3).t s_4).t s_5).t s_6
 refine yS (kq 27 (.call { callee := .builtin .len, args := #[(.tmp 26)], argTypes := #[24] })) rfl rfl (fun w' hS => hz.lenV rfl Tryz.underlying24 w' ) ?_
 refine yC 28 (.int .i64 0) ?_
 refine Sch.nil (run_bk 0 ?_)
 refine run_lp (ι := Nat × (List ((Couple × Couple) × Bool)) × (Nat → Nat)) (I := fun x w => x.1 ≤ ds.length ∧ (∀ a b, (mget x.2.1 (a, b)).getD false = apB (ds.take x.1) a b) ∧ Lim w x.2.2 ∧ Stp [2, 3, 4, 5, 6, 7, 8, 9] w₀ (col1 C) w x.2.2 ∧ RV w (Mc x.2.2) l vl ∧ RV w (Mc x.2.2) ds vz ∧ OwnB w x.2.2 3 bw1 (.cells [.slice none 0 0, .map none].toArray 75) ∧ OwnB w x.2.2 4 bw4 (.cells [vl, .map (some bm)].toArray 75) ∧ OwnM w x.2.2 5 bm kvP (fun b : Bool => Value.bool b) x.2.1) (e := fun x => [(4, .pointer (some ⟨bw1, 0, none⟩)), (8, .pointer (some ⟨bw4, 0, none⟩)), (26, vz), (27, .int .i64 ds.length), (28, .int .i64 x.1)]) (m := fun x => ds.length - x.1) (x₀ := (0, [], Cw4)) (sr 4 (sr 8 (sr 26 (sr 27 (sr 28 (sub_nil _)))))) ?_ ?_
 ·
   replace hT := (((((hT.t s_1).t s_2).t s_3).t s_4).t s_5).t s_6; replace hy := ((((hy.t s_2).t s_3).t s_4).t s_5).t s_6; replace hm := (hm.t s_5).t s_6; replace hF := hF.st s_6; replace hl := hl.t s_6
   exact ⟨Nat.zero_le _, fun a b => by simp [mget, apB], hF, hT, hl, hz, hy, bx, hm⟩
 intro ⟨k, m, C1⟩ w6 hI next1
 obtain ⟨hk, hap, hF, hT, hl, hz, hy, bx, hm⟩ := hI
 try simp only at hk hap hF hT hl hz hy bx hm
 show Run _ _ _ _ [(4, .pointer (some ⟨bw1, 0, none⟩)), (8, .pointer (some ⟨bw4, 0, none⟩)), (26, vz), (27, .int .i64 ds.length), (28, .int .i64 k)] _ _
 have hle := hz.le
 refine run_sq (run_pl [yy 0] ?_)
 refine yL 29 3 28 27 ?_
 refine Sch.nil (run_sq ?_)
 refine run_i 29 rfl (fun h29 => ?_) (fun h29 => ?_)
 ·
  have hkl : k < ds.length := by omega
  have htk := apB_take hkl
  refine run_sk (run_sq (run_bk 1 (run_sq (run_pl [yy 0, nn 1, nn 2, nn 3] ?_))))
  refine iR 52 30 24 26 28 hz rfl (h := ?_)
  intro b30 o30 h30
  try simp only [Int.toNat_natCast] at h30
  refine lNA (kq 31 (.load 52 (.tmp 30))) rfl rfl trivial h30 (by kernel_rfl) (by kernel_rfl) rfl rfl ?_
  intro v31 g31
  obtain rfl := rv_dcs.1 g31
  refine aT (kq 10 (.alloc 52)) rfl rfl (a_alloc (cs := [.int .i64 0, .int .i64 0, .int .i64 0, .int .i64 0, .int .i64 0, .int .i64 0, .bool false]) hF 6 (by kernel_rfl)) ?_
  rintro _ w7 ⟨Cw7, bw7, rfl, s_7, hd1, hF⟩
  refine aU (k0 (.store 52 (.tmp 10) (.tmp 31))) rfl (a_storeAll (vs := encD (ds[k]'hkl)) (n := 7) rfl rfl (by kernel_rfl) rfl rfl (by intro u hu; simp only [encD, List.mem_cons, List.not_mem_nil, or_false] at hu; rcases hu with rfl | rfl | rfl | rfl | rfl | rfl | rfl <;> rfl) hd1 rfl) ?_
  rintro _ w8 ⟨rfl, s_8, hd1⟩
  refine Sch.nil (run_sq (run_pl [yy 0, nn 1, yy 2] ?_))
  refine yF 32 52 10 4 6 ?_
  refine nO 33 4 32 hd1.at_ rfl rfl ?_
  refine yV (kq 34 (.unOp .not 4 (.tmp 33))) (fun _ => val_not rfl) ?_
  refine Sch.nil ?_
  refine run_c 34 rfl (fun h34 => ?_) (fun h34 => ?_)
  ·
   have hsm : (ds[k]'hkl).same = false := by simpa using h34
   refine run_pl [yy 0, nn 1, yy 2, nn 3, yy 4, nn 5, yy 6, nn 7] ?_
   refine yF 35 75 8 1 1 ?_
   replace bx := (bx.t s_7).t s_8
   refine nO 36 73 35 bx.at_ rfl rfl ?_
   refine yF 37 52 10 0 0 ?_
   refine nS (kq 38 (.load 47 (.tmp 37))) rfl rfl trivial (val_loadOwnAgg (n := 2) (vs := encR (ds[k]'hkl).A) hd1.at_ (by kernel_rfl) (by kernel_rfl) rfl rfl rfl) ?_
   refine yF 39 52 10 1 2 ?_
   refine nS (kq 40 (.load 47 (.tmp 39))) rfl rfl trivial (val_loadOwnAgg (n := 2) (vs := encR (ds[k]'hkl).B) hd1.at_ (by kernel_rfl) (by kernel_rfl) rfl rfl rfl) ?_
   refine yV (kq 41 (.build 135 #[(0, (.tmp 38)), (1, (.tmp 40))])) (fun _ => val_build (zs := [.int .i64 0, .int .i64 0, .int .i64 0, .int .i64 0]) (ps := [(0, 2), (2, 2)]) (qs := [(0, encR ((ds[k]'hkl).A)), (1, encR ((ds[k]'hkl).B))]) (cs := [.int .i64 ((ds[k]'hkl).A).a, .int .i64 ((ds[k]'hkl).A).b, .int .i64 ((ds[k]'hkl).B).a, .int .i64 ((ds[k]'hkl).B).b]) (by kernel_rfl) (by kernel_rfl) (by exact ⟨rfl, ⟨_, rfl, rfl⟩, rfl, ⟨_, rfl, rfl⟩, trivial⟩) rfl) ?_
   replace hm := (hm.t s_7).t s_8
   refine aU (k0 (.mapUpdate 73 (.tmp 36) (.tmp 41) (.const (.bool true)))) rfl (a_mapUpdate (k := ((ds[k]'hkl).A, (ds[k]'hkl).B)) (u := true) hm Tryz.underlying73 (keyOK_pair Tryz.underlying135 (by decide) (by decide) (by kernel_rfl) Tryz.underlying47 (by decide) (by decide) (by kernel_rfl) Tryz.underlying3 (by kernel_rfl) (by kernel_rfl)) rfl rfl rfl) ?_
   rintro _ w9 ⟨rfl, s_9, hm⟩
   refine Sch.nil (run_inBlock (run_pl [yy 0, yy 1] ?_))
   refine yI 42 3 28 1 ?_
   refine yM 28 42 ?_
   refine Sch.nil ?_
   replace hT := ((hT.t s_7).t s_8).t s_9; replace hl := ((hl.t s_7).t s_8).t s_9; replace hz := ((hz.t s_7).t s_8).t s_9; replace hy := ((hy.t s_7).t s_8).t s_9; replace hF := (hF.st s_8).st s_9; replace bx := bx.t s_9
   refine kp (sub_cons 4 rfl rfl (sub_cons 8 rfl rfl (sub_cons 26 rfl rfl (sub_cons 27 rfl rfl (sub_cons 28 rfl (eq_int (by simp)) (sub_nil _)))))) (next1 (k + 1, mput m ((ds[k]'hkl).A, (ds[k]'hkl).B) true, Cw7) _ ⟨(by first | omega | (simp only; omega)), (fun a b => by
       simp only
       rw [mget_mput, htk, hsm, ← hap a b]
       by_cases e : ((ds[k]'hkl).A, (ds[k]'hkl).B) = (a, b)
       · rw [if_pos e]; injection e with e1 e2; simp [e1, e2]
       · rw [if_neg e, decide_eq_false (fun e2 => e (by rw [e2.1, e2.2]))]; simp), hF, hT, hl, hz, hy, bx, hm⟩ (by first | omega | (simp only; omega)))
  have hsm : (ds[k]'hkl).same = true := by simpa using h34
  refine run_sk (run_inBlock (run_pl [yy 0, yy 1] ?_))
  refine yI 42 3 28 1 ?_
  refine yM 28 42 ?_
  refine Sch.nil ?_
  replace hT := (hT.t s_7).t s_8; replace hl := (hl.t s_7).t s_8; replace hz := (hz.t s_7).t s_8; replace hy := (hy.t s_7).t s_8; replace bx := (bx.t s_7).t s_8; replace hm := (hm.t s_7).t s_8; replace hF := hF.st s_8
  refine kp (sr 4 (sr 8 (sr 26 (sr 27 (sub_cons 28 rfl (eq_int (by simp)) (sub_nil _)))))) (next1 (k + 1, m, Cw7) _ ⟨(by first | omega | (simp only; omega)), (fun a b => by simp only; rw [htk, hsm, ← hap a b]; simp), hF, hT, hl, hz, hy, bx, hm⟩ (by first | omega | (simp only; omega)))
 have hkl : k = ds.length := by omega
 rw [hkl, List.take_length] at hap
 refine run_ex 0 ?_
 refine run_sq (run_pl [nn 0, nn 1, yy 2] ?_)
 refine nS (kq 43 (.load 75 (.tmp 8))) rfl rfl trivial (val_loadOwnAgg (n := 2) (vs := [vl, .map (some bm)]) bx.at_ (by kernel_rfl) (by kernel_rfl) rfl rfl rfl) ?_
 refine aU (k0 (.store 75 (.tmp 4) (.tmp 43))) rfl (a_storeAll (vs := [vl, .map (some bm)]) (n := 2) rfl rfl (by kernel_rfl) rfl rfl (by intro u hu; simp only [List.mem_cons, List.not_mem_nil, or_false] at hu; rcases hu with rfl | rfl <;> first | rfl | exact (hl.one rfl).2) hy rfl) ?_
 rintro _ w10 ⟨rfl, s_10, hy⟩
 refine yAc 5 (.int .i64 0) ?_
 refine Sch.nil ?_
 refine run_retC2 (by kernel_rfl) Tryz.func52 Tryz.results52 rfl rfl hy.at_ (by kernel_rfl) (by kernel_rfl) rfl ?_
 replace hT := hT.t s_10; replace hm := hm.t s_10
 exact ⟨_, rfl, hT.out1 (by decide), m, hm.out hT hF0 (Mc_col1 C) (fun b _ => col1_lt C (by decide) b), hap⟩
namespace F80
def c0 := bodyOf Tryz.f80
end F80
theorem bars_ok {w₀ : World} {C : Nat → Nat} {ds : List Dcs} {vb vm : Value} {a b : Couple} (hF : Lim w₀ C) (hap0 : ApM w₀ (Mc C) ds vm) : Calls Tryz.prog 80 #[.agg #[vb, vm], .agg #[.int .i64 a.a, .int .i64 a.b], .agg #[.int .i64 b.a, .int .i64 b.b]] w₀ (Ret fun v w' => v = .bool (barB ds a b) ∧ Stp [] w₀ C w' C) := by
 have hF0 := hF
 have hT := Stp.refl [2, 3, 4, 5, 6, 7, 8, 9] w₀ (col1 C)
 replace hF := hF.col1
 obtain ⟨m, hm, hap⟩ := hap0
 replace hm : RM w₀ (Mc (col1 C)) kvP (fun b : Bool => Value.bool b) m vm := by rw [Mc_col1]; exact hm
 refine c_st F80.c0 28 [.agg #[vb, vm], .agg #[.int .i64 a.a, .int .i64 a.b], .agg #[.int .i64 b.a, .int .i64 b.b]] Tryz.func80 ?_
 show Run _ _ _ _ [(0, .agg #[vb, vm]), (1, .agg #[.int .i64 a.a, .int .i64 a.b]), (2, .agg #[.int .i64 b.a, .int .i64 b.b])] _ _
 refine run_sq (run_pl [nn 0, nn 1, nn 2, yy 3] ?_)
 refine aT (kq 3 (.box 75 (.tmp 0))) rfl rfl (a_box (cs := [vb, vm]) hF 3 rfl rfl) ?_
 rintro _ w1 ⟨Cw1, bw1, rfl, s_1, hx, hF⟩
 refine aT (kq 4 (.box 47 (.tmp 1))) rfl rfl (a_box (cs := encR a) hF 3 rfl rfl) ?_
 rintro _ w2 ⟨Cw2, bw2, rfl, s_2, ha, hF⟩
 refine aT (kq 5 (.box 47 (.tmp 2))) rfl rfl (a_box (cs := encR b) hF 3 rfl rfl) ?_
 rintro _ w3 ⟨Cw3, bw3, rfl, s_3, hb, hF⟩
 refine yAc 6 (.bool false) ?_
 refine Sch.nil (run_sq ?_)
 by_cases hA : a.a = b.a
 ·
  refine run_pl [yy 0, nn 1, yy 2, nn 3, yy 4, yy 5, yy 6, nn 7, nn 8, nn 9, yy 10, nn 11, yy 12, yy 13, yy 14, nn 15, nn 16, nn 17, yy 18, nn 19, yy 20, yy 21] ?_
  refine yF 7 47 4 0 0 ?_
  replace ha := ha.t s_3
  refine nO 8 3 7 ha.at_ rfl rfl ?_
  refine yF 9 47 5 0 0 ?_
  refine nO 10 3 9 hb.at_ rfl rfl ?_
  refine yV (kq 11 (.binOp .eql 3 (.tmp 8) (.tmp 10) 3)) (fun _ => val_T (val_eql rfl rfl) hA) ?_
  refine yM 12 11 ?_
  refine pX 13 5 false ?_
  refine pW (kg 14 (.load 73 (.tmp 13)) 5 false) rfl rfl trivial ?_
  refine pW (kg 15 (.load 47 (.tmp 4)) 5 false) rfl rfl trivial ?_
  refine pW (kg 16 (.load 47 (.tmp 5)) 5 false) rfl rfl trivial ?_
  refine pX 17 5 false ?_
  refine pW (kg 18 (.lookup 73 (.tmp 14) (.tmp 17) false) 5 false) rfl rfl trivial ?_
  refine yOt 19 12 18 ?_
  refine yM 20 19 ?_
  refine pX 21 13 false ?_
  refine pW (kg 22 (.load 73 (.tmp 21)) 13 false) rfl rfl trivial ?_
  refine pW (kg 23 (.load 47 (.tmp 5)) 13 false) rfl rfl trivial ?_
  refine pW (kg 24 (.load 47 (.tmp 4)) 13 false) rfl rfl trivial ?_
  refine pX 25 13 false ?_
  refine pW (kg 26 (.lookup 73 (.tmp 22) (.tmp 25) false) 13 false) rfl rfl trivial ?_
  refine yOt 27 20 26 ?_
  refine yA 6 27 ?_
  refine Sch.nil ?_
  refine rt1 Tryz.func80 Tryz.results80 ?_
  replace hT := ((hT.t s_1).t s_2).t s_3
  exact ⟨by unfold barB; rw [decide_eq_true hA]; rfl, hT.out1 (by decide)⟩
 by_cases hX : apB ds a b = true
 ·
  refine run_pl [yy 0, nn 1, yy 2, nn 3, yy 4, yy 5, yy 6, nn 7, nn 8, nn 9, yy 10, nn 11, yy 12, yy 13, yy 14, nn 15, nn 16, nn 17, yy 18, nn 19, yy 20, yy 21] ?_
  refine yF 7 47 4 0 0 ?_
  replace ha := ha.t s_3
  refine nO 8 3 7 ha.at_ rfl rfl ?_
  refine yF 9 47 5 0 0 ?_
  refine nO 10 3 9 hb.at_ rfl rfl ?_
  refine yV (kq 11 (.binOp .eql 3 (.tmp 8) (.tmp 10) 3)) (fun _ => val_F (val_eql rfl rfl) hA) ?_
  refine yM 12 11 ?_
  refine yFg 13 75 3 1 1 5 false ?_
  replace hx := (hx.t s_2).t s_3
  refine nS (kg 14 (.load 73 (.tmp 13)) 5 false) rfl rfl trivial (val_loadOwn hx.at_ (by kernel_rfl) rfl rfl) ?_
  refine nS (kg 15 (.load 47 (.tmp 4)) 5 false) rfl rfl trivial (val_loadOwnAgg (n := 2) (vs := encR a) ha.at_ (by kernel_rfl) (by kernel_rfl) rfl rfl rfl) ?_
  refine nS (kg 16 (.load 47 (.tmp 5)) 5 false) rfl rfl trivial (val_loadOwnAgg (n := 2) (vs := encR b) hb.at_ (by kernel_rfl) (by kernel_rfl) rfl rfl rfl) ?_
  refine yV (kg 17 (.build 135 #[(0, (.tmp 15)), (1, (.tmp 16))]) 5 false) (fun _ => val_build (zs := [.int .i64 0, .int .i64 0, .int .i64 0, .int .i64 0]) (ps := [(0, 2), (2, 2)]) (qs := [(0, encR (a)), (1, encR (b))]) (cs := [.int .i64 (a).a, .int .i64 (a).b, .int .i64 (b).a, .int .i64 (b).b]) (by kernel_rfl) (by kernel_rfl) (by exact ⟨rfl, ⟨_, rfl, rfl⟩, rfl, ⟨_, rfl, rfl⟩, trivial⟩) rfl) ?_
  replace hm := ((hm.t s_1).t s_2).t s_3
  refine nS (kg 18 (.lookup 73 (.tmp 14) (.tmp 17) false) 5 false) rfl rfl trivial (val_is (hm.lookup (z0 := false) (k := (a, b)) Tryz.underlying73 (keyOK_pair Tryz.underlying135 (by decide) (by decide) (by kernel_rfl) Tryz.underlying47 (by decide) (by decide) (by kernel_rfl) Tryz.underlying3 (by kernel_rfl) (by kernel_rfl)) Tryz.zeroValue4 rfl rfl) (show _ = Value.bool true from congrArg Value.bool ((hap a b).trans hX))) ?_
  refine yOf 19 12 18 ?_
  refine yM 20 19 ?_
  refine pX 21 13 false ?_
  refine pW (kg 22 (.load 73 (.tmp 21)) 13 false) rfl rfl trivial ?_
  refine pW (kg 23 (.load 47 (.tmp 5)) 13 false) rfl rfl trivial ?_
  refine pW (kg 24 (.load 47 (.tmp 4)) 13 false) rfl rfl trivial ?_
  refine pX 25 13 false ?_
  refine pW (kg 26 (.lookup 73 (.tmp 22) (.tmp 25) false) 13 false) rfl rfl trivial ?_
  refine yOt 27 20 26 ?_
  refine yA 6 27 ?_
  refine Sch.nil ?_
  refine rt1 Tryz.func80 Tryz.results80 ?_
  replace hT := ((hT.t s_1).t s_2).t s_3
  exact ⟨by unfold barB; rw [hX]; simp, hT.out1 (by decide)⟩
 by_cases hY : apB ds b a = true
 ·
  refine run_pl [yy 0, nn 1, yy 2, nn 3, yy 4, yy 5, yy 6, nn 7, nn 8, nn 9, yy 10, nn 11, yy 12, yy 13, yy 14, nn 15, nn 16, nn 17, yy 18, nn 19, yy 20, yy 21] ?_
  refine yF 7 47 4 0 0 ?_
  replace ha := ha.t s_3
  refine nO 8 3 7 ha.at_ rfl rfl ?_
  refine yF 9 47 5 0 0 ?_
  refine nO 10 3 9 hb.at_ rfl rfl ?_
  refine yV (kq 11 (.binOp .eql 3 (.tmp 8) (.tmp 10) 3)) (fun _ => val_F (val_eql rfl rfl) hA) ?_
  refine yM 12 11 ?_
  refine yFg 13 75 3 1 1 5 false ?_
  replace hx := (hx.t s_2).t s_3
  refine nS (kg 14 (.load 73 (.tmp 13)) 5 false) rfl rfl trivial (val_loadOwn hx.at_ (by kernel_rfl) rfl rfl) ?_
  refine nS (kg 15 (.load 47 (.tmp 4)) 5 false) rfl rfl trivial (val_loadOwnAgg (n := 2) (vs := encR a) ha.at_ (by kernel_rfl) (by kernel_rfl) rfl rfl rfl) ?_
  refine nS (kg 16 (.load 47 (.tmp 5)) 5 false) rfl rfl trivial (val_loadOwnAgg (n := 2) (vs := encR b) hb.at_ (by kernel_rfl) (by kernel_rfl) rfl rfl rfl) ?_
  refine yV (kg 17 (.build 135 #[(0, (.tmp 15)), (1, (.tmp 16))]) 5 false) (fun _ => val_build (zs := [.int .i64 0, .int .i64 0, .int .i64 0, .int .i64 0]) (ps := [(0, 2), (2, 2)]) (qs := [(0, encR (a)), (1, encR (b))]) (cs := [.int .i64 (a).a, .int .i64 (a).b, .int .i64 (b).a, .int .i64 (b).b]) (by kernel_rfl) (by kernel_rfl) (by exact ⟨rfl, ⟨_, rfl, rfl⟩, rfl, ⟨_, rfl, rfl⟩, trivial⟩) rfl) ?_
  replace hm := ((hm.t s_1).t s_2).t s_3
  refine nS (kg 18 (.lookup 73 (.tmp 14) (.tmp 17) false) 5 false) rfl rfl trivial (val_is (hm.lookup (z0 := false) (k := (a, b)) Tryz.underlying73 (keyOK_pair Tryz.underlying135 (by decide) (by decide) (by kernel_rfl) Tryz.underlying47 (by decide) (by decide) (by kernel_rfl) Tryz.underlying3 (by kernel_rfl) (by kernel_rfl)) Tryz.zeroValue4 rfl rfl) (show _ = Value.bool false from congrArg Value.bool ((hap a b).trans (Bool.eq_false_iff.2 hX)))) ?_
  refine yOf 19 12 18 ?_
  refine yM 20 19 ?_
  refine yFg 21 75 3 1 1 13 false ?_
  refine nS (kg 22 (.load 73 (.tmp 21)) 13 false) rfl rfl trivial (val_loadOwn hx.at_ (by kernel_rfl) rfl rfl) ?_
  refine nS (kg 23 (.load 47 (.tmp 5)) 13 false) rfl rfl trivial (val_loadOwnAgg (n := 2) (vs := encR b) hb.at_ (by kernel_rfl) (by kernel_rfl) rfl rfl rfl) ?_
  refine nS (kg 24 (.load 47 (.tmp 4)) 13 false) rfl rfl trivial (val_loadOwnAgg (n := 2) (vs := encR a) ha.at_ (by kernel_rfl) (by kernel_rfl) rfl rfl rfl) ?_
  refine yV (kg 25 (.build 135 #[(0, (.tmp 23)), (1, (.tmp 24))]) 13 false) (fun _ => val_build (zs := [.int .i64 0, .int .i64 0, .int .i64 0, .int .i64 0]) (ps := [(0, 2), (2, 2)]) (qs := [(0, encR (b)), (1, encR (a))]) (cs := [.int .i64 (b).a, .int .i64 (b).b, .int .i64 (a).a, .int .i64 (a).b]) (by kernel_rfl) (by kernel_rfl) (by exact ⟨rfl, ⟨_, rfl, rfl⟩, rfl, ⟨_, rfl, rfl⟩, trivial⟩) rfl) ?_
  refine nS (kg 26 (.lookup 73 (.tmp 22) (.tmp 25) false) 13 false) rfl rfl trivial (val_is (hm.lookup (z0 := false) (k := (b, a)) Tryz.underlying73 (keyOK_pair Tryz.underlying135 (by decide) (by decide) (by kernel_rfl) Tryz.underlying47 (by decide) (by decide) (by kernel_rfl) Tryz.underlying3 (by kernel_rfl) (by kernel_rfl)) Tryz.zeroValue4 rfl rfl) (show _ = Value.bool true from congrArg Value.bool ((hap b a).trans hY))) ?_
  refine yOf 27 20 26 ?_
  refine yA 6 27 ?_
  refine Sch.nil ?_
  refine rt1 Tryz.func80 Tryz.results80 ?_
  replace hT := ((hT.t s_1).t s_2).t s_3
  exact ⟨by unfold barB; rw [hY]; simp, hT.out1 (by decide)⟩
 refine run_pl [yy 0, nn 1, yy 2, nn 3, yy 4, yy 5, yy 6, nn 7, nn 8, nn 9, yy 10, nn 11, yy 12, yy 13, yy 14, nn 15, nn 16, nn 17, yy 18, nn 19, yy 20, yy 21] ?_
 refine yF 7 47 4 0 0 ?_
 replace ha := ha.t s_3
 refine nO 8 3 7 ha.at_ rfl rfl ?_
 refine yF 9 47 5 0 0 ?_
 refine nO 10 3 9 hb.at_ rfl rfl ?_
 refine yV (kq 11 (.binOp .eql 3 (.tmp 8) (.tmp 10) 3)) (fun _ => val_F (val_eql rfl rfl) hA) ?_
 refine yM 12 11 ?_
 refine yFg 13 75 3 1 1 5 false ?_
 replace hx := (hx.t s_2).t s_3
 refine nS (kg 14 (.load 73 (.tmp 13)) 5 false) rfl rfl trivial (val_loadOwn hx.at_ (by kernel_rfl) rfl rfl) ?_
 refine nS (kg 15 (.load 47 (.tmp 4)) 5 false) rfl rfl trivial (val_loadOwnAgg (n := 2) (vs := encR a) ha.at_ (by kernel_rfl) (by kernel_rfl) rfl rfl rfl) ?_
 refine nS (kg 16 (.load 47 (.tmp 5)) 5 false) rfl rfl trivial (val_loadOwnAgg (n := 2) (vs := encR b) hb.at_ (by kernel_rfl) (by kernel_rfl) rfl rfl rfl) ?_
 refine yV (kg 17 (.build 135 #[(0, (.tmp 15)), (1, (.tmp 16))]) 5 false) (fun _ => val_build (zs := [.int .i64 0, .int .i64 0, .int .i64 0, .int .i64 0]) (ps := [(0, 2), (2, 2)]) (qs := [(0, encR (a)), (1, encR (b))]) (cs := [.int .i64 (a).a, .int .i64 (a).b, .int .i64 (b).a, .int .i64 (b).b]) (by kernel_rfl) (by kernel_rfl) (by exact ⟨rfl, ⟨_, rfl, rfl⟩, rfl, ⟨_, rfl, rfl⟩, trivial⟩) rfl) ?_
 replace hm := ((hm.t s_1).t s_2).t s_3
 refine nS (kg 18 (.lookup 73 (.tmp 14) (.tmp 17) false) 5 false) rfl rfl trivial (val_is (hm.lookup (z0 := false) (k := (a, b)) Tryz.underlying73 (keyOK_pair Tryz.underlying135 (by decide) (by decide) (by kernel_rfl) Tryz.underlying47 (by decide) (by decide) (by kernel_rfl) Tryz.underlying3 (by kernel_rfl) (by kernel_rfl)) Tryz.zeroValue4 rfl rfl) (show _ = Value.bool false from congrArg Value.bool ((hap a b).trans (Bool.eq_false_iff.2 hX)))) ?_
 refine yOf 19 12 18 ?_
 refine yM 20 19 ?_
 refine yFg 21 75 3 1 1 13 false ?_
 refine nS (kg 22 (.load 73 (.tmp 21)) 13 false) rfl rfl trivial (val_loadOwn hx.at_ (by kernel_rfl) rfl rfl) ?_
 refine nS (kg 23 (.load 47 (.tmp 5)) 13 false) rfl rfl trivial (val_loadOwnAgg (n := 2) (vs := encR b) hb.at_ (by kernel_rfl) (by kernel_rfl) rfl rfl rfl) ?_
 refine nS (kg 24 (.load 47 (.tmp 4)) 13 false) rfl rfl trivial (val_loadOwnAgg (n := 2) (vs := encR a) ha.at_ (by kernel_rfl) (by kernel_rfl) rfl rfl rfl) ?_
 refine yV (kg 25 (.build 135 #[(0, (.tmp 23)), (1, (.tmp 24))]) 13 false) (fun _ => val_build (zs := [.int .i64 0, .int .i64 0, .int .i64 0, .int .i64 0]) (ps := [(0, 2), (2, 2)]) (qs := [(0, encR (b)), (1, encR (a))]) (cs := [.int .i64 (b).a, .int .i64 (b).b, .int .i64 (a).a, .int .i64 (a).b]) (by kernel_rfl) (by kernel_rfl) (by exact ⟨rfl, ⟨_, rfl, rfl⟩, rfl, ⟨_, rfl, rfl⟩, trivial⟩) rfl) ?_
 refine nS (kg 26 (.lookup 73 (.tmp 22) (.tmp 25) false) 13 false) rfl rfl trivial (val_is (hm.lookup (z0 := false) (k := (b, a)) Tryz.underlying73 (keyOK_pair Tryz.underlying135 (by decide) (by decide) (by kernel_rfl) Tryz.underlying47 (by decide) (by decide) (by kernel_rfl) Tryz.underlying3 (by kernel_rfl) (by kernel_rfl)) Tryz.zeroValue4 rfl rfl) (show _ = Value.bool false from congrArg Value.bool ((hap b a).trans (Bool.eq_false_iff.2 hY)))) ?_
 refine yOf 27 20 26 ?_
 refine yA 6 27 ?_
 refine Sch.nil ?_
 refine rt1 Tryz.func80 Tryz.results80 ?_
 replace hT := ((hT.t s_1).t s_2).t s_3
 exact ⟨by unfold barB; rw [decide_eq_false hA, Bool.eq_false_iff.2 hX, Bool.eq_false_iff.2 hY]; rfl, hT.out1 (by decide)⟩
end
end Go.Proofs.YtdmgmlmlielfbaaGreat
