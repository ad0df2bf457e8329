/- Steps through functions of the program. -/
import Derived.Test.YtdmgmlmlielfbaaGreatJF4
import Derived.Test.YtdmgmlmlielfbaaGreatJF5
import Derived.Test.YtdmgmlmlielfbaaGreatJF6
import Derived.Test.YtdmgmlmlielfbaaGreatJF7
import Derived.Test.YtdmgmlmlielfbaaGreatL2
import Derived.Test.YtdmgmlmlielfbaaGreatJE4
set_option linter.unusedVariables false
set_option linter.unusedSimpArgs false
set_option maxRecDepth 100000
set_option maxHeartbeats 4000000
namespace Go.Proofs.YtdmgmlmlielfbaaGreat
open Go.K Go.K.Rep
noncomputable section
theorem keep_iff {s : List Couple} {r : Couple} (h : (1 : Int) < s.length) : s[(0 : Int).toNat]'(by simp; omega) = r ↔ 1 < s.length ∧ s.head? = some r := by
  rw [List.head?_eq_getElem?, List.getElem?_eq_getElem (by omega)]
  simp only [Option.some.injEq]
  exact ⟨fun e => ⟨by omega, e⟩, fun e => e.2⟩
namespace F41
def c0 := bodyOf Tryz.f41
def c25 := (cr (cr (cr (cr (cr c0)))))
def c32 := (cr (cl (cl (cr (cl c25)))))
def c41 := (cl (cr (cl (cl (cr c32)))))
def o12 := rops c41
def c73 := (cl (cr (cl (cr (cr c25)))))
def c82 := (cl (cl (cr (cr (cl c73)))))
def o26 := rops (cl (cr (cr c82)))
end F41
theorem greedy_ok {w₀ : World} {C : Nat → Nat} {l : List Bond} {ds : List Dcs} {vb vm vl : Value} (hF : Lim w₀ C) (hl : RV w₀ (Mc C) l vl) (hap : ApM w₀ (Mc C) ds vm) (hne : l ≠ []) (hlen : l.length ≤ 19) : Calls Tryz.prog 41 #[.agg #[vb, vm], vl] w₀ (Ret fun v w' => ∃ zs, StS cmpW l zs ∧ Stp [] w₀ C w' C ∧ RV w' (Mc C) (grOut (refsS l) (grG ds zs)) v) := by
 have hF0 := hF
 have hT := Stp.refl [2, 3, 4, 5, 6, 7, 8, 9] w₀ (col1 C)
 replace hF := hF.col1
 replace hl := hl.c1
 replace hap : ApM w₀ (Mc (col1 C)) ds vm := by rw [Mc_col1]; exact hap
 have hrln := refsS_len l
 refine c_st F41.c0 103 [.agg #[vb, vm], vl] Tryz.func41 ?_
 show Run _ _ _ _ [(0, .agg #[vb, vm]), (1, vl)] _ _
 refine run_sq (run_pl [nn 0, yy 1] ?_)
 refine aT (kq 2 (.box 75 (.tmp 0))) rfl rfl (a_box (cs := [vb, vm]) hF 3 rfl rfl) ?_
 rintro _ w1 ⟨Cw1, bw1, rfl, s_1, hx, hF⟩
 refine yV (kq 4 (.assign (.const (.slice none 0 0)))) (fun _ => val_assign rfl) ?_
 refine Sch.nil (run_sq (run_pl [nn 0, yy 1] ?_))
 refine aT (kq 20 (.makeMap 108 none)) rfl rfl (a_makeMap hF 5 kvC (fun s : Sv => s.v)) ?_
 rintro _ wm ⟨Cm, bm, rfl, s_2, hm, hF⟩
 refine yA 5 20 ?_
 refine Sch.nil (run_sq (run_sq (run_pl [yy 0, nn 1, yy 2, yy 3] ?_)))
 refine yM 21 1 ?_
 replace hl := (hl.t s_1).t s_2
 refine cG 22 72 [21] [23] Tryz.call72 rfl (refs_ok hF hl (by omega)) ?_
 rintro vhrf w2 ⟨s_3, hrf⟩
 refine yS (kq 23 (.call { callee := .builtin .len, args := #[(.tmp 22)], argTypes := #[53] })) rfl rfl (fun w' hS => hrf.lenV rfl Tryz.underlying53 w' ) ?_
 refine yC 24 (.int .i64 0) ?_
 refine Sch.nil (run_bk 0 ?_)
 refine run_lp (ι := Nat × (List (Couple × Sv)) × (Nat → Nat)) (I := fun x w => x.1 ≤ (refsS l).length ∧ Lim w x.2.2 ∧ Stp [2, 3, 4, 5, 6, 7, 8, 9] w₀ (col1 C) w x.2.2 ∧ RV w (Mc x.2.2) l vl ∧ ApM w (Mc x.2.2) ds vm ∧ OwnB w x.2.2 3 bw1 (.cells [vb, vm].toArray 75) ∧ OwnM w x.2.2 5 bm kvC (fun s : Sv => s.v) x.2.1 ∧ RV w (Mc x.2.2) (refsS l) vhrf ∧ GM w x.2.2 x.2.1 ((refsS l).take x.1) (fun r => [r])) (e := fun x => [(1, vl), (2, .pointer (some ⟨bw1, 0, none⟩)), (5, .map (some bm)), (22, vhrf), (23, .int .i64 (refsS l).length), (24, .int .i64 x.1)]) (m := fun x => (refsS l).length - x.1) (x₀ := (0, [], Cm)) (sr 1 (sr 2 (sr 5 (sr 22 (sr 23 (sr 24 (sub_nil _))))))) ?_ ?_
 ·
   replace hT := ((hT.t s_1).t s_2).t s_3; replace hap := ((hap.t s_1).t s_2).t s_3; replace hx := (hx.t s_2).t s_3; replace hF := hF.st s_3; replace hl := hl.t s_3; replace hm := hm.t s_3
   exact ⟨Nat.zero_le _, hF, hT, hl, hap, hx, hm, hrf, GM.nil⟩
 intro ⟨i, m, C1⟩ w3 hI next1
 obtain ⟨hi, hF, hT, hl, hap, hx, hm, hrf, hg⟩ := hI
 try simp only at hi hF hT hl hap hx hm hrf hg
 show Run _ _ _ _ [(1, vl), (2, .pointer (some ⟨bw1, 0, none⟩)), (5, .map (some bm)), (22, vhrf), (23, .int .i64 (refsS l).length), (24, .int .i64 i)] _ _
 have hle := hrf.le
 refine run_sq (run_pl [yy 0] ?_)
 refine yL 25 3 24 23 ?_
 refine Sch.nil (run_sq ?_)
 refine run_i 25 rfl (fun h25 => ?_) (fun h25 => ?_)
 ·
  have hil : i < (refsS l).length := by omega
  refine run_sk (run_sq (run_bk 1 (run_sq (run_pl [yy 0, nn 1, nn 2, nn 3] ?_))))
  refine iR 47 26 53 22 24 hrf rfl (h := ?_)
  intro b26 o26 h26
  try simp only [Int.toNat_natCast] at h26
  refine lNA (kq 27 (.load 47 (.tmp 26))) rfl rfl trivial h26 (by kernel_rfl) (by kernel_rfl) rfl rfl ?_
  intro v27 g27
  obtain rfl := rv_couple.1 g27
  refine aT (kq 7 (.alloc 47)) rfl rfl (a_alloc (cs := [.int .i64 0, .int .i64 0]) hF 4 (by kernel_rfl)) ?_
  rintro _ w4 ⟨Cw4, bw4, rfl, s_4, ha, hF⟩
  refine aU (k0 (.store 47 (.tmp 7) (.tmp 27))) rfl (a_storeAll (vs := encR (((refsS l)[i]'hil))) (n := 2) rfl rfl (by kernel_rfl) rfl rfl (by intro u hu; simp only [encR, List.mem_cons, List.not_mem_nil, or_false] at hu; rcases hu with rfl | rfl <;> rfl) ha rfl) ?_
  rintro _ w5 ⟨rfl, s_5, ha⟩
  refine Sch.nil (run_pl [yy 0, nn 1, nn 2, nn 3, nn 4] ?_)
  refine yM 28 5 ?_
  refine nS (kq 29 (.load 47 (.tmp 7))) rfl rfl trivial (val_loadOwnAgg (n := 2) (vs := encR ((refsS l)[i]'hil)) ha.at_ (by kernel_rfl) (by kernel_rfl) rfl rfl rfl) ?_
  refine nS (kq 30 (.load 47 (.tmp 7))) rfl rfl trivial (val_loadOwnAgg (n := 2) (vs := encR ((refsS l)[i]'hil)) ha.at_ (by kernel_rfl) (by kernel_rfl) rfl rfl rfl) ?_
  replace hF := hF.st s_5
  refine aT (kq 31 (.buildSlice 53 1 #[(0, (.tmp 30))])) rfl rfl (a_buildSlice (ys := ([((refsS l)[i]'hil)] : List Couple)) (e := 47) (bytes := 16) hF (by kernel_rfl) rfl (by decide) (by decide) ⟨rfl, ⟨_, rfl, rv_couple.2 rfl⟩, trivial⟩) ?_
  rintro v31 w6 ⟨s_6, g31, hF⟩
  replace hm := ((hm.t s_4).t s_5).t s_6
  refine aU (k0 (.mapUpdate 108 (.tmp 28) (.tmp 29) (.tmp 31))) rfl (a_mapUpdate (k := ((refsS l)[i]'hil)) (u := (⟨v31⟩ : Sv)) hm Tryz.underlying108 (keyOK_couple Tryz.underlying47 (by decide) (by decide) (by kernel_rfl) Tryz.underlying3) rfl rfl rfl) ?_
  rintro _ w7 ⟨rfl, s_7, hm⟩
  refine Sch.nil (run_inBlock (run_pl [yy 0, yy 1] ?_))
  refine yI 32 3 24 1 ?_
  refine yM 24 32 ?_
  refine Sch.nil ?_
  replace hT := (((hT.t s_4).t s_5).t s_6).t s_7; replace hl := (((hl.t s_4).t s_5).t s_6).t s_7; replace hap := (((hap.t s_4).t s_5).t s_6).t s_7; replace hx := (((hx.t s_4).t s_5).t s_6).t s_7; replace hrf := (((hrf.t s_4).t s_5).t s_6).t s_7; replace hg := (((hg.t s_4).t s_5).t s_6).t s_7; replace hF := hF.st s_7; replace g31 := g31.t s_7
  refine kp (sr 1 (sr 2 (sr 5 (sr 22 (sr 23 (sub_cons 24 rfl (eq_int (by simp)) (sub_nil _))))))) (next1 (i + 1, mput m ((refsS l)[i]'hil) ⟨v31⟩, Cw4) _ ⟨(by first | omega | (simp only; omega)), hF, hT, hl, hap, hx, hm, hrf, (by simp only; rw [take_next hil]; exact hg.add g31)⟩ (by first | omega | (simp only; omega)))
 have hil : i = (refsS l).length := by omega
 rw [hil, List.take_length] at hg
 refine run_ex 0 ?_
 refine run_sq (run_pl [yy 0, nn 1, yy 2] ?_)
 refine yM 33 1 ?_
 refine cG 34 73 [33] [23] Tryz.call73 rfl (cloneB_ok hF hl hne (by omega) 7 (by decide)) ?_
 rintro v34 w8 ⟨Cw8, s_8, hF, ho⟩
 refine yA 8 34 ?_
 refine Sch.nil (run_sq (run_pl [yy 0, nn 1] ?_))
 refine yM 35 8 ?_
 refine cT (kq 36 (.call { callee := .value (.func 74), args := #[(.tmp 35), (.func 75)], argTypes := #[23, 112] })) rfl rfl (ent Tryz.call74 rfl) (sortW_ok hF (by decide) ho (by omega)) ?_
 rintro vw9 w9 ⟨rfl, zs, hSt, s_9, ho, hF⟩
 have hzl : zs.length = l.length := hSt.len
 replace hx := (hx.t s_8).t s_9
 have hzm : ∀ x ∈ zs, x ∈ l := fun x hx => hSt.sub x hx
 refine Sch.nil (run_sq (run_sq (run_pl [yy 0, yy 1, yy 2] ?_)))
 refine yM 37 8 ?_
 refine yS (kq 38 (.call { callee := .builtin .len, args := #[(.tmp 37)], argTypes := #[23] })) rfl rfl (fun w' hS => ho.lenV rfl Tryz.underlying23 w' ) ?_
 refine yC 39 (.int .i64 0) ?_
 refine Sch.nil (run_bk 2 ?_)
 refine run_lp (ι := Nat × (List (Couple × Sv)) × (Nat → Nat)) (I := fun x w => x.1 ≤ zs.length ∧ GI l ds (grG ds (zs.take x.1)) ∧ Lim w x.2.2 ∧ Stp [2, 3, 4, 5, 6, 7, 8, 9] w₀ (col1 C) w x.2.2 ∧ RV w (Mc x.2.2) l vl ∧ ApM w (Mc x.2.2) ds vm ∧ OwnB w x.2.2 3 bw1 (.cells [vb, vm].toArray 75) ∧ OwnM w x.2.2 5 bm kvC (fun s : Sv => s.v) x.2.1 ∧ OwnL w x.2.2 7 49 v34 zs ∧ GM w x.2.2 x.2.1 (refsS l) (grG ds (zs.take x.1))) (e := fun x => [(1, vl), (2, .pointer (some ⟨bw1, 0, none⟩)), (5, .map (some bm)), (8, v34), (37, v34), (38, .int .i64 zs.length), (39, .int .i64 x.1)]) (m := fun x => zs.length - x.1) (x₀ := (0, m, Cw8)) (sr 1 (sr 2 (sr 5 (sr 8 (sr 37 (sr 38 (sr 39 (sub_nil _)))))))) ?_ ?_
 ·
   replace hT := (hT.t s_8).t s_9; replace hl := (hl.t s_8).t s_9; replace hap := (hap.t s_8).t s_9; replace hm := (hm.t s_8).t s_9; replace hg := (hg.t s_8).t s_9
   exact ⟨Nat.zero_le _, GI.start, hF, hT, hl, hap, hx, hm, ho, hg⟩
 intro ⟨k, m, C2⟩ w10 hI next2
 obtain ⟨hk, hI, hF, hT, hl, hap, hx, hm, ho, hg⟩ := hI
 try simp only at hk hI hF hT hl hap hx hm ho hg
 show Run _ _ _ _ [(1, vl), (2, .pointer (some ⟨bw1, 0, none⟩)), (5, .map (some bm)), (8, v34), (37, v34), (38, .int .i64 zs.length), (39, .int .i64 k)] _ _
 refine run_sq (run_pl [yy 0] ?_)
 refine yL 40 3 39 38 ?_
 refine Sch.nil (run_sq ?_)
 refine run_i 40 rfl (fun h40 => ?_) (fun h40 => ?_)
 ·
  have hkl : k < zs.length := by omega
  have hbl := hzm _ (List.getElem_mem hkl)
  have hAr : (zs[k]'hkl).A ∈ refsS l := mem_refsS.2 ⟨_, hbl, .inl rfl⟩
  have hBr : (zs[k]'hkl).B ∈ refsS l := mem_refsS.2 ⟨_, hbl, .inr rfl⟩
  have hnx := grG_next (ds := ds) hkl
  have hI2 := hI.step hbl
  rw [← hnx] at hI2
  have hpl := hI.len hAr
  have hql := hI.len hBr
  refine run_sk (run_sq (run_bk 3 (run_sq (run_pl [yy 0, nn 1, nn 2, nn 3] ?_))))
  refine oR 49 41 23 37 39 ho rfl (by omega) (h := ?_)
  intro g41 hg41
  try simp only [Int.toNat_natCast]
  refine oNA (kq 42 (.load 49 (.tmp 41))) rfl rfl trivial ho hg41 (by omega) (by kernel_rfl) (by kernel_rfl) rfl rfl ?_
  intro v42 g42
  try simp only [Int.toNat_natCast] at g42
  obtain rfl := rv_bond.1 g42
  refine aT (kq 10 (.alloc 49)) rfl rfl (a_alloc (cs := [.int .i64 0, .int .i64 0, .int .i64 0, .int .i64 0, .int .i64 0]) hF 4 (by kernel_rfl)) ?_
  rintro _ w11 ⟨Cw11, bw11, rfl, s_10, hb, hF⟩
  refine aU (k0 (.store 49 (.tmp 10) (.tmp 42))) rfl (a_storeAll (vs := encB (zs[k]'hkl)) (n := 5) rfl rfl (by kernel_rfl) rfl rfl (by intro u hu; simp only [encB, List.mem_cons, List.not_mem_nil, or_false] at hu; rcases hu with rfl | rfl | rfl | rfl | rfl <;> rfl) hb rfl) ?_
  rintro _ w12 ⟨rfl, s_11, hb⟩
  refine Sch.nil (run_sq ?_)
  refine run_draw (id := 12) (ops := F41.o12) [] (Cw11) [yy 0, yy 1, yy 2, yy 3, yy 4, yy 5, yy 6, yy 7, nn 8, yy 9, nn 10] Tryz_mixed (by kernel_rfl) (by kernel_rfl) (by kernel_rfl) ?_
  intro w13 s_12
  have hR := Stp.refl [] w13 (Cw11)
  replace hg := ((hg.t s_10).t s_11).t s_12
  obtain ⟨vp, hvp, hp⟩ := hg.look hAr
  obtain ⟨vq, hvq, hq⟩ := hg.look hBr
  refine yM 43 5 ?_
  refine yF 44 49 10 0 0 ?_
  replace hb := hb.t s_12
  refine yS (kq 45 (.load 47 (.tmp 44))) rfl rfl (fun w' hS => val_loadOwnAgg (n := 2) (vs := encR (zs[k]'hkl).A) (hb.stay hS (by decide)) (by kernel_rfl) (by kernel_rfl) rfl rfl rfl) ?_
  replace hm := ((hm.t s_10).t s_11).t s_12
  refine yS (kq 46 (.lookup 108 (.tmp 43) (.tmp 45) false)) rfl rfl (fun w' hS => val_is ((hm.stay hS (by decide)).lookup (z0 := (⟨.slice none 0 0⟩ : Sv)) (k := (zs[k]'hkl).A) Tryz.underlying108 (keyOK_couple Tryz.underlying47 (by decide) (by decide) (by kernel_rfl) Tryz.underlying3) Tryz.zeroValue53 rfl rfl) hvp) ?_
  refine yM 47 5 ?_
  refine yF 48 49 10 1 2 ?_
  refine yS (kq 49 (.load 47 (.tmp 48))) rfl rfl (fun w' hS => val_loadOwnAgg (n := 2) (vs := encR (zs[k]'hkl).B) (hb.stay hS (by decide)) (by kernel_rfl) (by kernel_rfl) rfl rfl rfl) ?_
  refine yS (kq 50 (.lookup 108 (.tmp 47) (.tmp 49) false)) rfl rfl (fun w' hS => val_is ((hm.stay hS (by decide)).lookup (z0 := (⟨.slice none 0 0⟩ : Sv)) (k := (zs[k]'hkl).B) Tryz.underlying108 (keyOK_couple Tryz.underlying47 (by decide) (by decide) (by kernel_rfl) Tryz.underlying3) Tryz.zeroValue53 rfl rfl) hvq) ?_
  replace hF := (hF.st s_11).st s_12
  refine aS (kq 12 (.alloc 53)) rfl rfl (a_alloc (cs := [.slice none 0 0]) hF 8 (by kernel_rfl)) ?_
  rintro _ w14 ⟨Cw14, bw14, rfl, s_13, hqc, hF⟩
  refine ⟨(hR.trans s_13 (by simp)).ext, ?_⟩
  refine yA 11 46 ?_
  refine Sch.free rfl ?_
  replace hq := hq.t s_13
  refine aU (k0 (.store 53 (.tmp 12) (.tmp 50))) rfl (a_store1 rfl rfl (by kernel_rfl) (hq.one rfl).1 (hq.one rfl).2 hqc (by simp)) ?_
  rintro _ w15 ⟨rfl, s_14, hqc⟩
  refine Sch.nil (run_sq (run_sq ?_))
  by_cases hX : (zs[k]'hkl).B ∈ (grG ds (zs.take k) (zs[k]'hkl).A)
  ·
   refine run_pl [yy 0, yy 1, nn 2, nn 3, yy 4, yy 5, yy 6, nn 7, yy 8] ?_
   refine yM 51 11 ?_
   refine yF 52 49 10 1 2 ?_
   replace hb := (hb.t s_13).t s_14
   refine nS (kq 53 (.load 47 (.tmp 52))) rfl rfl trivial (val_loadOwnAgg (n := 2) (vs := encR (zs[k]'hkl).B) hb.at_ (by kernel_rfl) (by kernel_rfl) rfl rfl rfl) ?_
   replace hp := (hp.t s_13).t s_14; replace hF := hF.st s_14
   refine cG 54 61 [51, 53] [53, 47] Tryz.call61 rfl (contains_ok (c := (zs[k]'hkl).B) hF hp) ?_
   rintro vw16 w16 ⟨rfl, s_15⟩
   rw [any_dec, decide_eq_true hX]
   refine yM 55 54 ?_
   refine pX 56 4 false ?_
   refine pX 57 4 false ?_
   refine pW (kg 58 (.call { callee := .value (.func 77), args := #[(.tmp 56), (.tmp 57)], argTypes := #[53, 114] }) 4 false) rfl rfl trivial ?_
   refine yOt 59 55 58 ?_
   refine Sch.nil (run_cT 59 (run_ex 3 ?_))
   refine run_pl [yy 0, yy 1] ?_
   refine yI 74 3 39 1 ?_
   refine yM 39 74 ?_
   refine Sch.nil ?_
   replace hT := (((((hT.t s_10).t s_11).t s_12).t s_13).t s_14).t s_15; replace hl := (((((hl.t s_10).t s_11).t s_12).t s_13).t s_14).t s_15; replace hap := (((((hap.t s_10).t s_11).t s_12).t s_13).t s_14).t s_15; replace hx := (((((hx.t s_10).t s_11).t s_12).t s_13).t s_14).t s_15; replace ho := (((((ho.t s_10).t s_11).t s_12).t s_13).t s_14).t s_15; replace hm := ((hm.t s_13).t s_14).t s_15; replace hg := ((hg.t s_13).t s_14).t s_15; replace hF := hF.st s_15
   refine kp (sr 1 (sr 2 (sr 5 (sr 8 (sr 37 (sr 38 (sub_cons 39 rfl (eq_int (by simp)) (sub_nil _)))))))) (next2 (k + 1, m, Cw14) _ ⟨(by first | omega | (simp only; omega)), hI2, hF, hT, hl, hap, hx, hm, ho, (by simp only; rw [hnx, grStep_no (.inl hX)]; exact hg)⟩ (by first | omega | (simp only; omega)))
  by_cases hY : sepB ds (grG ds (zs.take k) (zs[k]'hkl).A) (grG ds (zs.take k) (zs[k]'hkl).B) = true
  ·
   refine run_pl [yy 0, yy 1, nn 2, nn 3, yy 4, yy 5, yy 6, nn 7, yy 8] ?_
   refine yM 51 11 ?_
   refine yF 52 49 10 1 2 ?_
   replace hb := (hb.t s_13).t s_14
   refine nS (kq 53 (.load 47 (.tmp 52))) rfl rfl trivial (val_loadOwnAgg (n := 2) (vs := encR (zs[k]'hkl).B) hb.at_ (by kernel_rfl) (by kernel_rfl) rfl rfl rfl) ?_
   replace hp := (hp.t s_13).t s_14; replace hF := hF.st s_14
   refine cG 54 61 [51, 53] [53, 47] Tryz.call61 rfl (contains_ok (c := (zs[k]'hkl).B) hF hp) ?_
   rintro vw17 w17 ⟨rfl, s_16⟩
   rw [any_dec, decide_eq_false hX]
   refine yM 55 54 ?_
   refine yMg 56 11 4 false ?_
   refine yV (kg 57 (.makeFunc (.func 78) #[] #[(.tmp 12), (.tmp 2)]) 4 false) (fun _ => val_makeFunc rfl rfl) ?_
   replace hap := (((((hap.t s_10).t s_11).t s_12).t s_13).t s_14).t s_16; replace hx := (((((hx.t s_10).t s_11).t s_12).t s_13).t s_14).t s_16; replace hq := (hq.t s_14).t s_16; replace hF := hF.st s_16; replace hqc := hqc.t s_16
   have hcl : ∀ w1, Stp [] _ (Cw14) w1 (Cw14) → ∀ x ∈ (grG ds (zs.take k) (zs[k]'hkl).A), Calls Tryz.prog 78 ([kvC x] ++ #[Value.pointer (some ⟨bw14, 0, none⟩), Value.pointer (some ⟨bw1, 0, none⟩)].toList).toArray w1 (Ret fun v w' => v = .bool ((grG ds (zs.take k) (zs[k]'hkl).B).any fun o => barB ds x o) ∧ Stp [] w1 (Cw14) w' (Cw14)) := fun w1 h1 x _ => greedy2_ok (hF.st h1) (hap.st h1 (by decide)) (hq.st h1 (by decide)) (h1.same hx.at_) (h1.same hqc.at_)
   replace hp := hp.t s_16
   refine cT (kg 58 (.call { callee := .value (.func 77), args := #[(.tmp 56), (.tmp 57)], argTypes := #[53, 114] }) 4 false) rfl rfl (ent Tryz.call77 rfl) (containsR_ok (p := fun x => (grG ds (zs.take k) (zs[k]'hkl).B).any fun o => barB ds x o) (nf := 78) (caps := #[Value.pointer (some ⟨bw14, 0, none⟩), Value.pointer (some ⟨bw1, 0, none⟩)]) (fun args w => Tryz.call78 args w) hcl hF hp) ?_
   rintro vw18 w18 ⟨rfl, s_17⟩
   rw [show ((grG ds (zs.take k) (zs[k]'hkl).A).any fun x => (grG ds (zs.take k) (zs[k]'hkl).B).any fun o => barB ds x o) = true from hY]
   refine yOf 59 55 58 ?_
   refine Sch.nil (run_cT 59 (run_ex 3 ?_))
   refine run_pl [yy 0, yy 1] ?_
   refine yI 74 3 39 1 ?_
   refine yM 39 74 ?_
   refine Sch.nil ?_
   replace hT := ((((((hT.t s_10).t s_11).t s_12).t s_13).t s_14).t s_16).t s_17; replace hl := ((((((hl.t s_10).t s_11).t s_12).t s_13).t s_14).t s_16).t s_17; replace ho := ((((((ho.t s_10).t s_11).t s_12).t s_13).t s_14).t s_16).t s_17; replace hm := (((hm.t s_13).t s_14).t s_16).t s_17; replace hg := (((hg.t s_13).t s_14).t s_16).t s_17; replace hF := hF.st s_17; replace hap := hap.t s_17; replace hx := hx.t s_17
   refine kp (sr 1 (sr 2 (sr 5 (sr 8 (sr 37 (sr 38 (sub_cons 39 rfl (eq_int (by simp)) (sub_nil _)))))))) (next2 (k + 1, m, Cw14) _ ⟨(by first | omega | (simp only; omega)), hI2, hF, hT, hl, hap, hx, hm, ho, (by simp only; rw [hnx, grStep_no (.inr hY)]; exact hg)⟩ (by first | omega | (simp only; omega)))
  refine run_pl [yy 0, yy 1, nn 2, nn 3, yy 4, yy 5, yy 6, nn 7, yy 8] ?_
  refine yM 51 11 ?_
  refine yF 52 49 10 1 2 ?_
  replace hb := (hb.t s_13).t s_14
  refine nS (kq 53 (.load 47 (.tmp 52))) rfl rfl trivial (val_loadOwnAgg (n := 2) (vs := encR (zs[k]'hkl).B) hb.at_ (by kernel_rfl) (by kernel_rfl) rfl rfl rfl) ?_
  replace hp := (hp.t s_13).t s_14; replace hF := hF.st s_14
  refine cG 54 61 [51, 53] [53, 47] Tryz.call61 rfl (contains_ok (c := (zs[k]'hkl).B) hF hp) ?_
  rintro vw19 w19 ⟨rfl, s_18⟩
  rw [any_dec, decide_eq_false hX]
  refine yM 55 54 ?_
  refine yMg 56 11 4 false ?_
  refine yV (kg 57 (.makeFunc (.func 78) #[] #[(.tmp 12), (.tmp 2)]) 4 false) (fun _ => val_makeFunc rfl rfl) ?_
  replace hap := (((((hap.t s_10).t s_11).t s_12).t s_13).t s_14).t s_18; replace hx := (((((hx.t s_10).t s_11).t s_12).t s_13).t s_14).t s_18; replace hq := (hq.t s_14).t s_18; replace hF := hF.st s_18; replace hqc := hqc.t s_18
  have hcl : ∀ w1, Stp [] _ (Cw14) w1 (Cw14) → ∀ x ∈ (grG ds (zs.take k) (zs[k]'hkl).A), Calls Tryz.prog 78 ([kvC x] ++ #[Value.pointer (some ⟨bw14, 0, none⟩), Value.pointer (some ⟨bw1, 0, none⟩)].toList).toArray w1 (Ret fun v w' => v = .bool ((grG ds (zs.take k) (zs[k]'hkl).B).any fun o => barB ds x o) ∧ Stp [] w1 (Cw14) w' (Cw14)) := fun w1 h1 x _ => greedy2_ok (hF.st h1) (hap.st h1 (by decide)) (hq.st h1 (by decide)) (h1.same hx.at_) (h1.same hqc.at_)
  replace hp := hp.t s_18
  refine cT (kg 58 (.call { callee := .value (.func 77), args := #[(.tmp 56), (.tmp 57)], argTypes := #[53, 114] }) 4 false) rfl rfl (ent Tryz.call77 rfl) (containsR_ok (p := fun x => (grG ds (zs.take k) (zs[k]'hkl).B).any fun o => barB ds x o) (nf := 78) (caps := #[Value.pointer (some ⟨bw14, 0, none⟩), Value.pointer (some ⟨bw1, 0, none⟩)]) (fun args w => Tryz.call78 args w) hcl hF hp) ?_
  rintro vw20 w20 ⟨rfl, s_19⟩
  rw [show ((grG ds (zs.take k) (zs[k]'hkl).A).any fun x => (grG ds (zs.take k) (zs[k]'hkl).B).any fun o => barB ds x o) = false from (Bool.eq_false_iff.2 hY)]
  refine yOf 59 55 58 ?_
  refine Sch.nil (run_cF 59 (run_sk (run_sq (run_pl [yy 0, nn 1, nn 2, nn 3, yy 4] ?_))))
  refine yM 60 11 ?_
  replace hqc := hqc.t s_19
  refine nO 61 53 12 hqc.at_ rfl rfl ?_
  replace hF := hF.st s_19; replace hp := hp.t s_19; replace hq := hq.t s_19
  refine aT (kq 62 (.buildSlice 25 2 #[(0, (.tmp 60)), (1, (.tmp 61))])) rfl rfl (a_buildSlice (ys := ([(grG ds (zs.take k) (zs[k]'hkl).A), (grG ds (zs.take k) (zs[k]'hkl).B)] : List (List Couple))) (e := 53) (bytes := 24) hF (by kernel_rfl) rfl (by decide) (by decide) ⟨rfl, ⟨_, rfl, hp⟩, rfl, ⟨_, rfl, hq⟩, trivial⟩) ?_
  rintro v62 w21 ⟨s_20, g62, hF⟩
  have hfl : [(grG ds (zs.take k) (zs[k]'hkl).A), (grG ds (zs.take k) (zs[k]'hkl).B)].flatten = ((grG ds (zs.take k) (zs[k]'hkl).A) ++ (grG ds (zs.take k) (zs[k]'hkl).B)) := by simp
  have hfll : ((grG ds (zs.take k) (zs[k]'hkl).A) ++ (grG ds (zs.take k) (zs[k]'hkl).B)).length ≤ 4 * l.length := by rw [List.length_append]; omega
  refine cG 63 81 [62] [25] Tryz.call81 rfl (concatR_ok hF g62 (by rw [hfl]; omega)) ?_
  rintro vbo w22 ⟨s_21, hbo⟩
  rw [hfl] at hbo
  refine yA 13 63 ?_
  refine Sch.nil (run_sq (run_pl [yy 0, yy 1, yy 2] ?_))
  refine yM 64 13 ?_
  refine yS (kq 65 (.call { callee := .builtin .len, args := #[(.tmp 64)], argTypes := #[53] })) rfl rfl (fun w' hS => hbo.lenV rfl Tryz.underlying53 w' ) ?_
  refine yC 66 (.int .i64 0) ?_
  refine Sch.nil (run_bk 4 ?_)
  refine run_lp (ι := Nat × (List (Couple × Sv)) × (Nat → Nat)) (I := fun x w => x.1 ≤ ((grG ds (zs.take k) (zs[k]'hkl).A) ++ (grG ds (zs.take k) (zs[k]'hkl).B)).length ∧ Lim w x.2.2 ∧ Stp [2, 3, 4, 5, 6, 7, 8, 9] w₀ (col1 C) w x.2.2 ∧ RV w (Mc x.2.2) l vl ∧ ApM w (Mc x.2.2) ds vm ∧ OwnB w x.2.2 3 bw1 (.cells [vb, vm].toArray 75) ∧ OwnM w x.2.2 5 bm kvC (fun s : Sv => s.v) x.2.1 ∧ OwnL w x.2.2 7 49 v34 zs ∧ GM w x.2.2 x.2.1 (refsS l) (grMid (grG ds (zs.take k)) ((grG ds (zs.take k) (zs[k]'hkl).A) ++ (grG ds (zs.take k) (zs[k]'hkl).B)) x.1) ∧ RV w (Mc x.2.2) ((grG ds (zs.take k) (zs[k]'hkl).A) ++ (grG ds (zs.take k) (zs[k]'hkl).B)) vbo) (e := fun x => [(1, vl), (2, .pointer (some ⟨bw1, 0, none⟩)), (5, .map (some bm)), (8, v34), (13, vbo), (37, v34), (38, .int .i64 zs.length), (39, .int .i64 k), (64, vbo), (65, .int .i64 ((grG ds (zs.take k) (zs[k]'hkl).A) ++ (grG ds (zs.take k) (zs[k]'hkl).B)).length), (66, .int .i64 x.1)]) (m := fun x => ((grG ds (zs.take k) (zs[k]'hkl).A) ++ (grG ds (zs.take k) (zs[k]'hkl).B)).length - x.1) (x₀ := (0, m, Cw14)) (sr 1 (sr 2 (sr 5 (sr 8 (sr 13 (sr 37 (sr 38 (sr 39 (sr 64 (sr 65 (sr 66 (sub_nil _)))))))))))) ?_ ?_
  ·
    replace hT := ((((((((hT.t s_10).t s_11).t s_12).t s_13).t s_14).t s_18).t s_19).t s_20).t s_21; replace hl := ((((((((hl.t s_10).t s_11).t s_12).t s_13).t s_14).t s_18).t s_19).t s_20).t s_21; replace ho := ((((((((ho.t s_10).t s_11).t s_12).t s_13).t s_14).t s_18).t s_19).t s_20).t s_21; replace hm := (((((hm.t s_13).t s_14).t s_18).t s_19).t s_20).t s_21; replace hg := (((((hg.t s_13).t s_14).t s_18).t s_19).t s_20).t s_21; replace hap := ((hap.t s_19).t s_20).t s_21; replace hx := ((hx.t s_19).t s_20).t s_21; replace hF := hF.st s_21
    exact ⟨Nat.zero_le _, hF, hT, hl, hap, hx, hm, ho, (by rw [grMid_zero]; exact hg), hbo⟩
  intro ⟨j, m, C3⟩ w23 hI next3
  obtain ⟨hj, hF, hT, hl, hap, hx, hm, ho, hg, hbo⟩ := hI
  try simp only at hj hF hT hl hap hx hm ho hg hbo
  show Run _ _ _ _ [(1, vl), (2, .pointer (some ⟨bw1, 0, none⟩)), (5, .map (some bm)), (8, v34), (13, vbo), (37, v34), (38, .int .i64 zs.length), (39, .int .i64 k), (64, vbo), (65, .int .i64 ((grG ds (zs.take k) (zs[k]'hkl).A) ++ (grG ds (zs.take k) (zs[k]'hkl).B)).length), (66, .int .i64 j)] _ _
  have hble := hbo.le
  refine run_sq (run_pl [yy 0] ?_)
  refine yL 67 3 66 65 ?_
  refine Sch.nil (run_sq ?_)
  refine run_i 67 rfl (fun h67 => ?_) (fun h67 => ?_)
  ·
   have hjl : j < ((grG ds (zs.take k) (zs[k]'hkl).A) ++ (grG ds (zs.take k) (zs[k]'hkl).B)).length := by omega
   refine run_sk (run_sq (run_bk 5 (run_sq (run_pl [yy 0, nn 1, nn 2, nn 3] ?_))))
   refine iR 47 68 53 64 66 hbo rfl (h := ?_)
   intro b68 o68 h68
   try simp only [Int.toNat_natCast] at h68
   refine lNA (kq 69 (.load 47 (.tmp 68))) rfl rfl trivial h68 (by kernel_rfl) (by kernel_rfl) rfl rfl ?_
   intro v69 g69
   obtain rfl := rv_couple.1 g69
   refine aT (kq 15 (.alloc 47)) rfl rfl (a_alloc (cs := [.int .i64 0, .int .i64 0]) hF 9 (by kernel_rfl)) ?_
   rintro _ w24 ⟨Cw24, bw24, rfl, s_22, hz, hF⟩
   refine aU (k0 (.store 47 (.tmp 15) (.tmp 69))) rfl (a_storeAll (vs := encR ((((grG ds (zs.take k) (zs[k]'hkl).A) ++ (grG ds (zs.take k) (zs[k]'hkl).B))[j]'hjl))) (n := 2) rfl rfl (by kernel_rfl) rfl rfl (by intro u hu; simp only [encR, List.mem_cons, List.not_mem_nil, or_false] at hu; rcases hu with rfl | rfl <;> rfl) hz rfl) ?_
   rintro _ w25 ⟨rfl, s_23, hz⟩
   refine Sch.nil (run_pl [yy 0, nn 1, yy 2, nn 3] ?_)
   refine yM 70 5 ?_
   refine nS (kq 71 (.load 47 (.tmp 15))) rfl rfl trivial (val_loadOwnAgg (n := 2) (vs := encR (((grG ds (zs.take k) (zs[k]'hkl).A) ++ (grG ds (zs.take k) (zs[k]'hkl).B))[j]'hjl)) hz.at_ (by kernel_rfl) (by kernel_rfl) rfl rfl rfl) ?_
   refine yM 72 13 ?_
   replace hm := (hm.t s_22).t s_23
   refine aU (k0 (.mapUpdate 108 (.tmp 70) (.tmp 71) (.tmp 72))) rfl (a_mapUpdate (k := (((grG ds (zs.take k) (zs[k]'hkl).A) ++ (grG ds (zs.take k) (zs[k]'hkl).B))[j]'hjl)) (u := (⟨vbo⟩ : Sv)) hm Tryz.underlying108 (keyOK_couple Tryz.underlying47 (by decide) (by decide) (by kernel_rfl) Tryz.underlying3) rfl rfl rfl) ?_
   rintro _ w26 ⟨rfl, s_24, hm⟩
   refine Sch.nil (run_inBlock (run_pl [yy 0, yy 1] ?_))
   refine yI 73 3 66 1 ?_
   refine yM 66 73 ?_
   refine Sch.nil ?_
   replace hT := ((hT.t s_22).t s_23).t s_24; replace hl := ((hl.t s_22).t s_23).t s_24; replace hap := ((hap.t s_22).t s_23).t s_24; replace hx := ((hx.t s_22).t s_23).t s_24; replace ho := ((ho.t s_22).t s_23).t s_24; replace hg := ((hg.t s_22).t s_23).t s_24; replace hbo := ((hbo.t s_22).t s_23).t s_24; replace hF := (hF.st s_23).st s_24
   refine kp (sr 1 (sr 2 (sr 5 (sr 8 (sr 13 (sr 37 (sr 38 (sr 39 (sr 64 (sr 65 (sub_cons 66 rfl (eq_int (by simp)) (sub_nil _)))))))))))) (next3 (j + 1, mput m (((grG ds (zs.take k) (zs[k]'hkl).A) ++ (grG ds (zs.take k) (zs[k]'hkl).B))[j]'hjl) ⟨vbo⟩, Cw24) _ ⟨(by first | omega | (simp only; omega)), hF, hT, hl, hap, hx, hm, ho, (hg.put hbo (fun r _ => grMid_next hjl r)), hbo⟩ (by first | omega | (simp only; omega)))
  have hjl : j = ((grG ds (zs.take k) (zs[k]'hkl).A) ++ (grG ds (zs.take k) (zs[k]'hkl).B)).length := by omega
  rw [hjl, ← grStep_yes hX (Bool.eq_false_iff.2 hY), ← hnx] at hg
  refine run_ex 4 ?_
  refine run_inBlock (run_pl [yy 0, yy 1] ?_)
  refine yI 74 3 39 1 ?_
  refine yM 39 74 ?_
  refine Sch.nil ?_
  refine kp (sr 1 (sr 2 (sr 5 (sr 8 (sr 37 (sr 38 (sub_cons 39 rfl (eq_int (by simp)) (sub_nil _)))))))) (next2 (k + 1, m, C3) _ ⟨(by first | omega | (simp only; omega)), hI2, hF, hT, hl, hap, hx, hm, ho, hg⟩ (by first | omega | (simp only; omega)))
 have hkl : k = zs.length := by omega
 rw [hkl, List.take_length] at hI hg
 refine run_ex 2 ?_
 refine run_sq (run_pl [yy 0] ?_)
 refine yV (kq 16 (.assign (.const (.slice none 0 0)))) (fun _ => val_assign rfl) ?_
 refine Sch.nil (run_sq (run_sq (run_pl [yy 0, nn 1, yy 2, yy 3] ?_)))
 refine yM 75 1 ?_
 refine cG 76 72 [75] [23] Tryz.call72 rfl (refs_ok hF hl (by omega)) ?_
 rintro vhr2 w27 ⟨s_25, hr2⟩
 refine yS (kq 77 (.call { callee := .builtin .len, args := #[(.tmp 76)], argTypes := #[53] })) rfl rfl (fun w' hS => hr2.lenV rfl Tryz.underlying53 w' ) ?_
 refine yC 78 (.int .i64 0) ?_
 refine Sch.nil (run_bk 6 ?_)
 refine run_lp (ι := Nat × Value × (Nat → Nat)) (I := fun x w => x.1 ≤ (refsS l).length ∧ Lim w x.2.2 ∧ Stp [2, 3, 4, 5, 6, 7, 8, 9] w₀ (col1 C) w x.2.2 ∧ RV w (Mc x.2.2) l vl ∧ ApM w (Mc x.2.2) ds vm ∧ OwnB w x.2.2 3 bw1 (.cells [vb, vm].toArray 75) ∧ OwnM w x.2.2 5 bm kvC (fun s : Sv => s.v) m ∧ GM w x.2.2 m (refsS l) (grG ds zs) ∧ RV w (Mc x.2.2) (refsS l) vhr2 ∧ OwnL w x.2.2 6 53 x.2.1 (grOut ((refsS l).take x.1) (grG ds zs))) (e := fun x => [(1, vl), (5, .map (some bm)), (16, x.2.1), (76, vhr2), (77, .int .i64 (refsS l).length), (78, .int .i64 x.1)]) (m := fun x => (refsS l).length - x.1) (x₀ := (0, .slice none 0 0, C2)) (sr 1 (sr 5 (sr 16 (sr 76 (sr 77 (sr 78 (sub_nil _))))))) ?_ ?_
 ·
   replace hF := hF.st s_25; replace hT := hT.t s_25; replace hl := hl.t s_25; replace hap := hap.t s_25; replace hx := hx.t s_25; replace hm := hm.t s_25; replace hg := hg.t s_25
   exact ⟨Nat.zero_le _, hF, hT, hl, hap, hx, hm, hg, hr2, OwnL.nil⟩
 intro ⟨i, vo, C4⟩ w28 hI next4
 obtain ⟨hi, hF, hT, hl, hap, hx, hm, hg, hr2, hout⟩ := hI
 try simp only at hi hF hT hl hap hx hm hg hr2 hout
 show Run _ _ _ _ [(1, vl), (5, .map (some bm)), (16, vo), (76, vhr2), (77, .int .i64 (refsS l).length), (78, .int .i64 i)] _ _
 have hle := hr2.le
 have hol := grOut_len (g := grG ds zs) ((refsS l).take i)
 rw [List.length_take] at hol
 refine run_sq (run_pl [yy 0] ?_)
 refine yL 79 3 78 77 ?_
 refine Sch.nil (run_sq ?_)
 refine run_i 79 rfl (fun h79 => ?_) (fun h79 => ?_)
 ·
  have hil : i < (refsS l).length := by omega
  have hmr := List.getElem_mem hil
  have hgl := hI.len hmr
  have hnx4 := grOut_next (g := grG ds zs) hil
  refine run_sk (run_sq (run_bk 7 (run_sq (run_pl [yy 0, nn 1, nn 2, nn 3] ?_))))
  refine iR 47 80 53 76 78 hr2 rfl (h := ?_)
  intro b80 o80 h80
  try simp only [Int.toNat_natCast] at h80
  refine lNA (kq 81 (.load 47 (.tmp 80))) rfl rfl trivial h80 (by kernel_rfl) (by kernel_rfl) rfl rfl ?_
  intro v81 g81
  obtain rfl := rv_couple.1 g81
  refine aT (kq 18 (.alloc 47)) rfl rfl (a_alloc (cs := [.int .i64 0, .int .i64 0]) hF 4 (by kernel_rfl)) ?_
  rintro _ w29 ⟨Cw29, bw29, rfl, s_26, ha, hF⟩
  refine aU (k0 (.store 47 (.tmp 18) (.tmp 81))) rfl (a_storeAll (vs := encR (((refsS l)[i]'hil))) (n := 2) rfl rfl (by kernel_rfl) rfl rfl (by intro u hu; simp only [encR, List.mem_cons, List.not_mem_nil, or_false] at hu; rcases hu with rfl | rfl <;> rfl) ha rfl) ?_
  rintro _ w30 ⟨rfl, s_27, ha⟩
  refine Sch.nil (run_sq (run_pl [yy 0, nn 1, nn 2, nn 3, nn 4, yy 5] ?_))
  refine yM 82 5 ?_
  refine nS (kq 83 (.load 47 (.tmp 18))) rfl rfl trivial (val_loadOwnAgg (n := 2) (vs := encR ((refsS l)[i]'hil)) ha.at_ (by kernel_rfl) (by kernel_rfl) rfl rfl rfl) ?_
  replace hg := (hg.t s_26).t s_27
  obtain ⟨vp, hvp, hp⟩ := hg.look hmr
  replace hm := (hm.t s_26).t s_27
  refine nS (kq 84 (.lookup 108 (.tmp 82) (.tmp 83) false)) rfl rfl trivial (val_is (hm.lookup (z0 := (⟨.slice none 0 0⟩ : Sv)) (k := ((refsS l)[i]'hil)) Tryz.underlying108 (keyOK_couple Tryz.underlying47 (by decide) (by decide) (by kernel_rfl) Tryz.underlying3) Tryz.zeroValue53 rfl rfl) hvp) ?_
  replace hF := hF.st s_27
  refine cG 85 83 [84] [53] Tryz.call83 rfl (values_ok hF hp) ?_
  rintro vw31 w31 ⟨b1, rfl, s_28, hlw⟩
  replace hF := hF.st s_28; replace hp := hp.t s_28
  refine cT (kq 86 (.call { callee := .value (.func 82), args := #[(.tmp 85), (.func 55)], argTypes := #[118, 87] })) rfl rfl (ent Tryz.call82 rfl) (sortedF_ok hF hlw.at_ hp (by omega)) ?_
  rintro vps w32 ⟨s_29, hps⟩
  have hsl : (sortC (grG ds zs ((refsS l)[i]'hil))).length = (grG ds zs ((refsS l)[i]'hil)).length := (sortC_perm _).length_eq
  refine yA 19 86 ?_
  refine Sch.nil (run_sq ?_)
  refine run_cut 96 (grKeep (grG ds zs) ((refsS l)[i]'hil)) (Cw29) ?_ ?_
  ·
   intro hcut
   by_cases hA : (1 : Int) < (sortC (grG ds zs ((refsS l)[i]'hil))).length
   ·
    refine run_draw (id := 26) (ops := F41.o26) [] (Cw29) [yy 0, yy 1, yy 2, yy 3, yy 4, yy 5, yy 6, yy 7, yy 8, yy 9] Tryz_mixed (by kernel_rfl) (by kernel_rfl) (by kernel_rfl) ?_
    intro w33 s_30
    have hcs := s_30
    refine yM 87 19 ?_
    replace hps := hps.t s_30
    refine yS (kq 88 (.call { callee := .builtin .len, args := #[(.tmp 87)], argTypes := #[53] })) rfl rfl (fun w' hS => hps.lenV rfl Tryz.underlying53 w' ) ?_
    refine yV (kq 89 (.binOp .gtr 3 (.tmp 88) (.const (.int .i64 1)) 3)) (fun _ => val_T (val_gtr rfl rfl) hA) ?_
    refine yM 90 89 ?_
    refine yMg 91 19 3 true ?_
    refine iS (e := 47) (kg 92 (.indexAddr 53 (.tmp 91) (.const (.int .i64 0))) 3 true) rfl rfl hps rfl (by kernel_rfl) rfl (by omega) (by omega) ?_
    intro b92 o92 h92
    try simp only [Int.toNat_natCast] at h92
    refine lSA (kg 93 (.load 47 (.tmp 92)) 3 true) rfl rfl (fun w' hS => h92.sy hS) h92 (by kernel_rfl) (by kernel_rfl) rfl rfl ?_
    intro v93 g93
    replace ha := ((ha.t s_28).t s_29).t s_30
    refine yS (kg 94 (.load 47 (.tmp 18)) 3 true) rfl rfl (fun w' hS => val_loadOwnAgg (n := 2) (vs := encR ((refsS l)[i]'hil)) (ha.stay hS (by decide)) (by kernel_rfl) (by kernel_rfl) rfl rfl rfl) ?_
    obtain rfl := rv_couple.1 g93
    refine yV (kg 95 (.binOp .eql 47 (.tmp 93) (.tmp 94) 47) 3 true) (fun _ => val_eqC (a := _) (b := _) Tryz.underlying47 (by decide) (by decide) (by kernel_rfl) Tryz.underlying3 rfl rfl) ?_
    refine yAt 96 90 95 ?_
    exact Sch.nil (hcut _ _ _ hcs rfl (by unfold grKeep; congr 1; apply decide_eq_decide.2; exact keep_iff hA) (sk 10))
   refine run_draw (id := 26) (ops := F41.o26) [] (Cw29) [yy 0, yy 1, yy 2, yy 3, yy 4, yy 5, yy 6, yy 7, yy 8, yy 9] Tryz_mixed (by kernel_rfl) (by kernel_rfl) (by kernel_rfl) ?_
   intro w34 s_31
   have hcs := s_31
   refine yM 87 19 ?_
   replace hps := hps.t s_31
   refine yS (kq 88 (.call { callee := .builtin .len, args := #[(.tmp 87)], argTypes := #[53] })) rfl rfl (fun w' hS => hps.lenV rfl Tryz.underlying53 w' ) ?_
   refine yV (kq 89 (.binOp .gtr 3 (.tmp 88) (.const (.int .i64 1)) 3)) (fun _ => val_F (val_gtr rfl rfl) hA) ?_
   refine yM 90 89 ?_
   refine pX 91 3 true ?_
   refine pX 92 3 true ?_
   refine pX 93 3 true ?_
   refine pX 94 3 true ?_
   refine pX 95 3 true ?_
   refine yAf 96 90 95 ?_
   exact Sch.nil (hcut _ _ _ hcs rfl (by unfold grKeep; rw [decide_eq_false (fun e => hA (by omega))]) (sk 10))
  intro w35 s_32
  refine run_c 96 rfl (fun h96 => ?_) (fun h96 => ?_)
  ·
   rw [if_pos h96] at hnx4
   refine run_pl [yy 0, yy 1, nn 2, nn 3, yy 4] ?_
   refine yM 97 16 ?_
   refine yM 98 19 ?_
   replace hF := (hF.st s_29).st s_32; replace hps := hps.t s_32
   refine aT (kq 99 (.buildSlice 25 1 #[(0, (.tmp 98))])) rfl rfl (a_buildSlice (ys := ([sortC (grG ds zs ((refsS l)[i]'hil))] : List (List Couple))) (e := 53) (bytes := 24) hF (by kernel_rfl) rfl (by decide) (by decide) ⟨rfl, ⟨_, rfl, hps⟩, trivial⟩) ?_
   rintro v99 w36 ⟨s_33, g99, hF⟩
   replace hout := (((((hout.t s_26).t s_27).t s_28).t s_29).t s_32).t s_33
   refine aT (kq 100 (.call { callee := .builtin .append, args := #[(.tmp 97), (.tmp 99)], argTypes := #[25, 25] })) rfl rfl (a_append (e := 53) (bytes := 24) hF (by decide) rfl rfl (by kernel_rfl) (by decide) hout g99 (by simp only [List.length_cons, List.length_nil]; omega) (by simp only [List.length_cons, List.length_nil]; omega)) ?_
   rintro v100 w37 ⟨Cw37, s_34, hout, hF⟩
   refine yA 16 100 ?_
   refine Sch.nil (run_inBlock (run_pl [yy 0, yy 1] ?_))
   refine yI 101 3 78 1 ?_
   refine yM 78 101 ?_
   refine Sch.nil ?_
   replace hT := ((((((hT.t s_26).t s_27).t s_28).t s_29).t s_32).t s_33).t s_34; replace hl := ((((((hl.t s_26).t s_27).t s_28).t s_29).t s_32).t s_33).t s_34; replace hap := ((((((hap.t s_26).t s_27).t s_28).t s_29).t s_32).t s_33).t s_34; replace hx := ((((((hx.t s_26).t s_27).t s_28).t s_29).t s_32).t s_33).t s_34; replace hr2 := ((((((hr2.t s_26).t s_27).t s_28).t s_29).t s_32).t s_33).t s_34; replace hm := ((((hm.t s_28).t s_29).t s_32).t s_33).t s_34; replace hg := ((((hg.t s_28).t s_29).t s_32).t s_33).t s_34
   refine kp (sr 1 (sr 5 (sr 16 (sr 76 (sr 77 (sub_cons 78 rfl (eq_int (by simp)) (sub_nil _))))))) (next4 (i + 1, v100, Cw37) _ ⟨(by first | omega | (simp only; omega)), hF, hT, hl, hap, hx, hm, hg, hr2, (by simp only; rw [hnx4]; exact hout)⟩ (by first | omega | (simp only; omega)))
  rw [if_neg (by rw [h96]; decide)] at hnx4
  refine run_sk (run_inBlock (run_pl [yy 0, yy 1] ?_))
  refine yI 101 3 78 1 ?_
  refine yM 78 101 ?_
  refine Sch.nil ?_
  replace hT := ((((hT.t s_26).t s_27).t s_28).t s_29).t s_32; replace hl := ((((hl.t s_26).t s_27).t s_28).t s_29).t s_32; replace hap := ((((hap.t s_26).t s_27).t s_28).t s_29).t s_32; replace hx := ((((hx.t s_26).t s_27).t s_28).t s_29).t s_32; replace hr2 := ((((hr2.t s_26).t s_27).t s_28).t s_29).t s_32; replace hout := ((((hout.t s_26).t s_27).t s_28).t s_29).t s_32; replace hm := ((hm.t s_28).t s_29).t s_32; replace hg := ((hg.t s_28).t s_29).t s_32; replace hF := (hF.st s_29).st s_32
  refine kp (sr 1 (sr 5 (sr 16 (sr 76 (sr 77 (sub_cons 78 rfl (eq_int (by simp)) (sub_nil _))))))) (next4 (i + 1, vo, Cw29) _ ⟨(by first | omega | (simp only; omega)), hF, hT, hl, hap, hx, hm, hg, hr2, (by simp only; rw [hnx4]; exact hout)⟩ (by first | omega | (simp only; omega)))
 have hil : i = (refsS l).length := by omega
 rw [hil, List.take_length] at hout
 refine run_ex 6 ?_
 refine run_sq (run_pl [yy 0, yy 1] ?_)
 refine yM 102 16 ?_
 refine yA 4 102 ?_
 refine Sch.nil ?_
 refine rt1 Tryz.func41 Tryz.results41 ?_
 exact ⟨zs, hSt, hT.out1 (by decide), hout.out hT hF0 (Mc_col1 C) (fun b _ => col1_lt C (by decide) b) (by have := grOut_len (g := grG ds zs) (refsS l); omega)⟩
end
end Go.Proofs.YtdmgmlmlielfbaaGreat
