/- Steps through functions of the program. -/
import Derived.Test.YtdmgmlmlielfbaaGreatJE6
set_option linter.unusedVariables false
set_option linter.unusedSimpArgs false
set_option maxRecDepth 100000
set_option maxHeartbeats 4000000
namespace Go.Proofs.YtdmgmlmlielfbaaGreat
open Go.K Go.K.Rep
noncomputable section
namespace F26
def c0 := bodyOf Tryz.f26
def c15 := (cl (cr (cr (cr (cr c0)))))
def c25 := (cr (cr (cl (cl (cr c15)))))
def c31 := (cl (cl (cr (cl (cl c25)))))
def o8 := rops c31
end F26
theorem valid_ok {w₀ : World} {C : Nat → Nat} {l : List Bond} {ds : List Dcs} {ps : List (List Couple)} {vl vz vp : Value} (hF : Lim w₀ C) (hl : RV w₀ (Mc C) l vl) (hz : RV w₀ (Mc C) ds vz) (hp : RV w₀ (Mc C) ps vp) (hck : checkS l = 0) (hl4 : l.length ≤ 4096) (hm4 : ds.length ≤ 4096) (hO : ∀ i (h : i < ds.length), dcsOK ds[i]) (hA1 : ∀ i (h : i + 1 < ds.length), cmpD ds[i] ds[i + 1] < 0) (hP : PV l ds ps) : Calls Tryz.prog 26 #[vl, vz, vp] w₀ (Ret fun v w' => v = .int .i64 0 ∧ Stp [] w₀ C w' C) := by
 have hF0 := hF
 have hT := Stp.refl [2, 3, 4, 5, 6, 7, 8, 9] w₀ (col1 C)
 replace hF := hF.col1
 replace hl := hl.c1
 replace hz := hz.c1
 replace hp := hp.c1
 refine c_st F26.c0 71 [vl, vz, vp] Tryz.func26 ?_
 show Run _ _ _ _ [(0, vl), (1, vz), (2, vp)] _ _
 refine run_sq (run_pl [yy 0] ?_)
 refine yAc 6 (.int .i64 0) ?_
 refine Sch.nil (run_sq (run_pl [yy 0, yy 1, nn 2, yy 3, yy 4, yy 5, nn 6, nn 7, yy 8] ?_))
 refine yM 15 0 ?_
 refine yM 16 1 ?_
 refine cG 17 52 [15, 16] [23, 24] Tryz.call52 rfl (cchk_ok hF hl hz hck hm4 hO hA1) ?_
 rintro vw1 w1 ⟨vm, rfl, s_1, hap⟩
 refine yM 14 17 ?_
 refine yE 18 14 0 ?_
 refine yE 19 14 1 ?_
 replace hF := hF.st s_1
 refine aT (kq 7 (.alloc 75)) rfl rfl (a_alloc (cs := [.slice none 0 0, .map none]) hF 4 (by kernel_rfl)) ?_
 rintro _ w2 ⟨Cw2, bw2, rfl, s_2, bx, hF⟩
 replace hl := (hl.t s_1).t s_2; replace hap := hap.t s_2
 refine aU (k0 (.store 75 (.tmp 7) (.tmp 18))) rfl (a_storeAll (vs := [vl, vm]) (n := 2) rfl rfl (by kernel_rfl) rfl rfl (by intro u hu; simp only [List.mem_cons, List.not_mem_nil, or_false] at hu; rcases hu with rfl | rfl <;> first | rfl | exact (hl.one rfl).2 | exact hap.one.2) bx rfl) ?_
 rintro _ w3 ⟨rfl, s_3, bx⟩
 refine yA 8 19 ?_
 refine Sch.nil (run_sq (run_sq (run_pl [yy 0, yy 1] ?_)))
 refine yM 20 8 ?_
 refine yV (kq 21 (.binOp .neq 36 (.tmp 20) (.const (.int .i64 0)) 36)) (fun _ => val_is (val_neq rfl rfl) (show _ = Value.bool false from congrArg Value.bool (decide_eq_false (by decide)))) ?_
 refine Sch.nil (run_cF 21 (run_sk (run_sq (run_pl [nn 0, yy 1] ?_))))
 replace hF := hF.st s_3
 refine aT (kq 23 (.makeMap 85 none)) rfl rfl (a_makeMap hF 5 kvC vvB) ?_
 rintro _ wm ⟨Cm, bm, rfl, s_4, hm, hF⟩
 refine yA 9 23 ?_
 refine Sch.nil (run_sq (run_sq (run_pl [yy 0, yy 1, yy 2] ?_)))
 refine yM 24 2 ?_
 replace hp := (((hp.t s_1).t s_2).t s_3).t s_4
 refine yS (kq 25 (.call { callee := .builtin .len, args := #[(.tmp 24)], argTypes := #[25] })) rfl rfl (fun w' hS => hp.lenV rfl Tryz.underlying25 w' ) ?_
 refine yC 26 (.int .i64 0) ?_
 refine Sch.nil (run_bk 0 ?_)
 refine run_lp (ι := Nat × (List (Couple × Bool)) × (Nat → Nat)) (I := fun x w => x.1 ≤ ps.length ∧ Seen x.2.1 ((ps.take x.1).flatten) ∧ Lim w x.2.2 ∧ Stp [2, 3, 4, 5, 6, 7, 8, 9] w₀ (col1 C) w x.2.2 ∧ RV w (Mc x.2.2) l vl ∧ RV w (Mc x.2.2) ps vp ∧ ApM w (Mc x.2.2) ds vm ∧ OwnB w x.2.2 4 bw2 (.cells [vl, vm].toArray 75) ∧ OwnM w x.2.2 5 bm kvC vvB x.2.1) (e := fun x => [(2, vp), (7, .pointer (some ⟨bw2, 0, none⟩)), (9, .map (some bm)), (24, vp), (25, .int .i64 ps.length), (26, .int .i64 x.1)]) (m := fun x => ps.length - x.1) (x₀ := (0, [], Cm)) (sr 2 (sr 7 (sr 9 (sr 24 (sr 25 (sr 26 (sub_nil _))))))) ?_ ?_
 ·
   replace hT := (((hT.t s_1).t s_2).t s_3).t s_4; replace hl := (hl.t s_3).t s_4; replace hap := (hap.t s_3).t s_4; replace bx := bx.t s_4
   exact ⟨Nat.zero_le _, Seen.nil, hF, hT, hl, hp, hap, bx, hm⟩
 intro ⟨i, m, C1⟩ w4 hI next1
 obtain ⟨hi, hS, hF, hT, hl, hp, hap, bx, hm⟩ := hI
 try simp only at hi hS hF hT hl hp hap bx hm
 show Run _ _ _ _ [(2, vp), (7, .pointer (some ⟨bw2, 0, none⟩)), (9, .map (some bm)), (24, vp), (25, .int .i64 ps.length), (26, .int .i64 i)] _ _
 have hle := hp.le
 refine run_sq (run_pl [yy 0] ?_)
 refine yL 27 3 26 25 ?_
 refine Sch.nil (run_sq ?_)
 refine run_i 27 rfl (fun h27 => ?_) (fun h27 => ?_)
 ·
  have hil : i < ps.length := by omega
  have hmem := List.getElem_mem hil
  have h2l := hP.len _ hmem
  have hpl := hP.plen hmem
  refine run_sk (run_sq (run_bk 1 (run_sq (run_pl [yy 0, yy 1, nn 2, yy 3, yy 4] ?_))))
  refine yM 28 26 ?_
  refine iR 53 29 25 24 26 hp rfl (h := ?_)
  intro b29 o29 h29
  try simp only [Int.toNat_natCast] at h29
  refine lN (kq 30 (.load 53 (.tmp 29))) rfl rfl trivial h29 (by kernel_rfl) rfl rfl ?_
  intro v30 g30
  refine yA 10 28 ?_
  refine yA 11 30 ?_
  refine Sch.nil (run_sq (run_sq ?_))
  refine run_cut 57 (false) (C1) ?_ ?_
  ·
   intro hcut
   by_cases hA : (0 : Int) < i
   ·
    refine run_draw (id := 8) (ops := F26.o8) [] (C1) [yy 0, nn 1, yy 2, yy 3, yy 4, yy 5, nn 6, yy 7, yy 8, yy 9, yy 10, yy 11, yy 12, yy 13, yy 14, yy 15, yy 16, yy 17, yy 18, yy 19, yy 20, yy 21, yy 22, nn 23, yy 24, yy 25, yy 26] Tryz_mixed (by kernel_rfl) (by kernel_rfl) (by kernel_rfl) ?_
    intro w5 s_5
    have hcs := s_5
    have hR := Stp.refl [] w5 (C1)
    have h2l1 := hP.len _ (List.getElem_mem (show i - 1 < ps.length by omega))
    have hhl := hP.head_lt (by omega) hil (by omega) (by omega)
    replace bx := bx.t s_5
    have bx0 := bx
    replace hp := hp.t s_5
    have hp_b := hp
    replace g30 := g30.t s_5
    have g30_b := g30
    refine yM 31 11 ?_
    replace hF := hF.st s_5
    refine cF 32 53 [31] [53] Tryz.call53 rfl (ascending_ok hF g30 (hP.asc _ hmem)) ?_
    rintro vw6 w6 ⟨rfl, s_6⟩
    refine ⟨(hR.trans s_6 (by simp)).ext, ?_⟩
    refine yV (kq 33 (.unOp .not 4 (.tmp 32))) (fun _ => val_not rfl) ?_
    refine yM 34 33 ?_
    refine yS (kg 35 (.load 75 (.tmp 7)) 3 false) rfl rfl (fun w' hS => val_loadOwnAgg (n := 2) (vs := [vl, vm]) (bx0.stay hS (by decide)) (by kernel_rfl) (by kernel_rfl) rfl rfl rfl) ?_
    refine yMg 36 11 3 false ?_
    replace hl := (hl.t s_5).t s_6; replace hap := (hap.t s_5).t s_6; replace hF := hF.st s_6; replace g30 := g30.t s_6
    refine cS (kg 37 (.call { callee := .value (.func 54), args := #[(.tmp 35), (.tmp 36)], argTypes := #[75, 53] }) 3 false) rfl rfl (ent Tryz.call54 rfl) (person_ok hF hl hap g30 (by omega)) ?_
    rintro vw7 w7 ⟨rfl, s_7⟩
    rw [hP.person hmem]
    replace hR := hR.t s_6
    refine ⟨(hR.trans s_7 (by simp)).ext, ?_⟩
    refine yV (kg 38 (.unOp .not 4 (.tmp 37)) 3 false) (fun _ => val_not rfl) ?_
    refine yOf 39 34 38 ?_
    refine yM 40 39 ?_
    refine yMg 41 10 9 false ?_
    refine yV (kg 42 (.binOp .gtr 3 (.tmp 41) (.const (.int .i64 0)) 3) 9 false) (fun _ => val_T (val_gtr rfl rfl) hA) ?_
    refine yMg 43 42 9 false ?_
    refine yMg 44 2 12 true ?_
    refine yMg 45 10 12 true ?_
    refine yV (kg 46 (.binOp .sub 3 (.tmp 45) (.const (.int .i64 1)) 3) 12 true) (fun _ => val_subi rfl rfl (by omega) (by omega)) ?_
    refine iS (e := 53) (kg 47 (.indexAddr 25 (.tmp 44) (.tmp 46)) 12 true) rfl rfl hp_b rfl (by kernel_rfl) rfl (by omega) (by omega) ?_
    intro b47 o47 h47
    try simp only [Int.toNat_natCast] at h47
    refine lS (kg 48 (.load 53 (.tmp 47)) 12 true) rfl rfl (fun w' hS => h47.sy hS) h47 (by kernel_rfl) rfl rfl ?_
    intro v48 g48
    have gb48 := g48
    replace hR := hR.t s_7
    replace g48 := g48.st hR (by first | decide | (simp <;> omega))
    have eq1 : ((i : Int) - 1).toNat = i - 1 := by omega
    simp only [eq1] at g48 gb48
    refine iS (e := 47) (kg 49 (.indexAddr 53 (.tmp 48) (.const (.int .i64 0))) 12 true) rfl rfl gb48 rfl (by kernel_rfl) rfl (by omega) (by omega) ?_
    intro b49 o49 h49
    try simp only [Int.toNat_natCast] at h49
    refine lSA (kg 50 (.load 47 (.tmp 49)) 12 true) rfl rfl (fun w' hS => h49.sy hS) h49 (by kernel_rfl) (by kernel_rfl) rfl rfl ?_
    intro v50 g50
    have gb50 := g50
    replace g50 := g50.st hR (by first | decide | (simp <;> omega))
    obtain rfl := rv_couple.1 g50
    refine yMg 51 11 12 true ?_
    refine iS (e := 47) (kg 52 (.indexAddr 53 (.tmp 51) (.const (.int .i64 0))) 12 true) rfl rfl g30_b rfl (by kernel_rfl) rfl (by omega) (by omega) ?_
    intro b52 o52 h52
    try simp only [Int.toNat_natCast] at h52
    refine lSA (kg 53 (.load 47 (.tmp 52)) 12 true) rfl rfl (fun w' hS => h52.sy hS) h52 (by kernel_rfl) (by kernel_rfl) rfl rfl ?_
    intro v53 g53
    have gb53 := g53
    replace g53 := g53.st hR (by first | decide | (simp <;> omega))
    obtain rfl := rv_couple.1 g53
    replace hF := hF.st s_7
    refine cS (kg 54 (.call { callee := .value (.func 55), args := #[(.tmp 50), (.tmp 53)], argTypes := #[47, 47] }) 12 true) rfl rfl (ent Tryz.call55 rfl) (compare_ok hF) ?_
    rintro vw8 w8 ⟨rfl, s_8⟩
    refine ⟨(hR.trans s_8 (by simp)).ext, ?_⟩
    refine yV (kg 55 (.binOp .geq 3 (.tmp 54) (.const (.int .i64 0)) 3) 12 true) (fun _ => val_is (val_geq rfl rfl) (show _ = Value.bool false from congrArg Value.bool (decide_eq_false (by simp only [show (0 : Int).toNat = 0 from rfl]; omega)))) ?_
    refine yV (kg 56 (.pick (.tmp 43) (.tmp 55) (.const (.bool false))) 9 false) (fun _ => val_pick_t rfl rfl) ?_
    refine yOf 57 40 56 ?_
    replace hcs := ((hcs.t s_6).t s_7).t s_8
    exact Sch.nil (hcut _ _ _ hcs rfl (rfl) (sk 27))
   refine run_draw (id := 8) (ops := F26.o8) [] (C1) [yy 0, nn 1, yy 2, yy 3, yy 4, yy 5, nn 6, yy 7, yy 8, yy 9, yy 10, yy 11, yy 12, yy 13, yy 14, yy 15, yy 16, yy 17, yy 18, yy 19, yy 20, yy 21, yy 22, nn 23, yy 24, yy 25, yy 26] Tryz_mixed (by kernel_rfl) (by kernel_rfl) (by kernel_rfl) ?_
   intro w9 s_9
   have hcs := s_9
   have hR := Stp.refl [] w9 (C1)
   replace bx := bx.t s_9
   have bx0 := bx
   replace hp := hp.t s_9
   have hp_b := hp
   replace g30 := g30.t s_9
   have g30_b := g30
   refine yM 31 11 ?_
   replace hF := hF.st s_9
   refine cF 32 53 [31] [53] Tryz.call53 rfl (ascending_ok hF g30 (hP.asc _ hmem)) ?_
   rintro vw10 w10 ⟨rfl, s_10⟩
   refine ⟨(hR.trans s_10 (by simp)).ext, ?_⟩
   refine yV (kq 33 (.unOp .not 4 (.tmp 32))) (fun _ => val_not rfl) ?_
   refine yM 34 33 ?_
   refine yS (kg 35 (.load 75 (.tmp 7)) 3 false) rfl rfl (fun w' hS => val_loadOwnAgg (n := 2) (vs := [vl, vm]) (bx0.stay hS (by decide)) (by kernel_rfl) (by kernel_rfl) rfl rfl rfl) ?_
   refine yMg 36 11 3 false ?_
   replace hl := (hl.t s_9).t s_10; replace hap := (hap.t s_9).t s_10; replace hF := hF.st s_10; replace g30 := g30.t s_10
   refine cS (kg 37 (.call { callee := .value (.func 54), args := #[(.tmp 35), (.tmp 36)], argTypes := #[75, 53] }) 3 false) rfl rfl (ent Tryz.call54 rfl) (person_ok hF hl hap g30 (by omega)) ?_
   rintro vw11 w11 ⟨rfl, s_11⟩
   rw [hP.person hmem]
   replace hR := hR.t s_10
   refine ⟨(hR.trans s_11 (by simp)).ext, ?_⟩
   refine yV (kg 38 (.unOp .not 4 (.tmp 37)) 3 false) (fun _ => val_not rfl) ?_
   refine yOf 39 34 38 ?_
   refine yM 40 39 ?_
   refine yMg 41 10 9 false ?_
   refine yV (kg 42 (.binOp .gtr 3 (.tmp 41) (.const (.int .i64 0)) 3) 9 false) (fun _ => val_F (val_gtr rfl rfl) hA) ?_
   refine yMg 43 42 9 false ?_
   refine pX 44 12 true ?_
   refine pX 45 12 true ?_
   refine pX 46 12 true ?_
   refine pX 47 12 true ?_
   refine pX 48 12 true ?_
   refine pX 49 12 true ?_
   refine pX 50 12 true ?_
   refine pX 51 12 true ?_
   refine pX 52 12 true ?_
   refine pX 53 12 true ?_
   replace hR := hR.t s_11
   refine pW (kg 54 (.call { callee := .value (.func 55), args := #[(.tmp 50), (.tmp 53)], argTypes := #[47, 47] }) 12 true) rfl rfl hR.ext ?_
   refine pX 55 12 true ?_
   refine yV (kg 56 (.pick (.tmp 43) (.tmp 55) (.const (.bool false))) 9 false) (fun _ => val_pick_f rfl rfl) ?_
   refine yOf 57 40 56 ?_
   replace hcs := (hcs.t s_10).t s_11
   exact Sch.nil (hcut _ _ _ hcs rfl (rfl) (sk 27))
  intro w12 s_12
  refine run_cF 57 (run_sk (run_sq (run_pl [yy 0, yy 1, yy 2] ?_)))
  refine yM 58 11 ?_
  replace g30 := g30.t s_12
  refine yS (kq 59 (.call { callee := .builtin .len, args := #[(.tmp 58)], argTypes := #[53] })) rfl rfl (fun w' hS => g30.lenV rfl Tryz.underlying53 w' ) ?_
  refine yC 60 (.int .i64 0) ?_
  refine Sch.nil (run_bk 2 ?_)
  refine run_lp (ι := Nat × (List (Couple × Bool)) × (Nat → Nat)) (I := fun x w => x.1 ≤ (ps[i]'hil).length ∧ Seen x.2.1 ((ps.take i).flatten ++ (ps[i]'hil).take x.1) ∧ Lim w x.2.2 ∧ Stp [2, 3, 4, 5, 6, 7, 8, 9] w₀ (col1 C) w x.2.2 ∧ RV w (Mc x.2.2) l vl ∧ RV w (Mc x.2.2) ps vp ∧ ApM w (Mc x.2.2) ds vm ∧ OwnB w x.2.2 4 bw2 (.cells [vl, vm].toArray 75) ∧ OwnM w x.2.2 5 bm kvC vvB x.2.1 ∧ RV w (Mc x.2.2) (ps[i]'hil) v30) (e := fun x => [(2, vp), (7, .pointer (some ⟨bw2, 0, none⟩)), (9, .map (some bm)), (24, vp), (25, .int .i64 ps.length), (26, .int .i64 i), (58, v30), (59, .int .i64 (ps[i]'hil).length), (60, .int .i64 x.1)]) (m := fun x => (ps[i]'hil).length - x.1) (x₀ := (0, m, C1)) (sr 2 (sr 7 (sr 9 (sr 24 (sr 25 (sr 26 (sr 58 (sr 59 (sr 60 (sub_nil _)))))))))) ?_ ?_
  ·
    replace hF := hF.st s_12; replace hT := hT.t s_12; replace hl := hl.t s_12; replace hp := hp.t s_12; replace hap := hap.t s_12; replace bx := bx.t s_12; replace hm := hm.t s_12
    exact ⟨Nat.zero_le _, (by simpa using hS), hF, hT, hl, hp, hap, bx, hm, g30⟩
  intro ⟨j, m, C2⟩ w13 hI next2
  obtain ⟨hj, hS, hF, hT, hl, hp, hap, bx, hm, g30⟩ := hI
  try simp only at hj hS hF hT hl hp hap bx hm g30
  show Run _ _ _ _ [(2, vp), (7, .pointer (some ⟨bw2, 0, none⟩)), (9, .map (some bm)), (24, vp), (25, .int .i64 ps.length), (26, .int .i64 i), (58, v30), (59, .int .i64 (ps[i]'hil).length), (60, .int .i64 j)] _ _
  have hle := hp.le
  refine run_sq (run_pl [yy 0] ?_)
  refine yL 61 3 60 59 ?_
  refine Sch.nil (run_sq ?_)
  refine run_i 61 rfl (fun h61 => ?_) (fun h61 => ?_)
  ·
   have hjl : j < (ps[i]'hil).length := by omega
   have hfr := hP.fresh hil hjl
   have hno := hS.not hfr
   refine run_sk (run_sq (run_bk 3 (run_sq (run_pl [yy 0, nn 1, nn 2, nn 3] ?_))))
   refine iR 47 62 53 58 60 g30 rfl (h := ?_)
   intro b62 o62 h62
   try simp only [Int.toNat_natCast] at h62
   refine lNA (kq 63 (.load 47 (.tmp 62))) rfl rfl trivial h62 (by kernel_rfl) (by kernel_rfl) rfl rfl ?_
   intro v63 g63
   obtain rfl := rv_couple.1 g63
   refine aT (kq 13 (.alloc 47)) rfl rfl (a_alloc (cs := [.int .i64 0, .int .i64 0]) hF 6 (by kernel_rfl)) ?_
   rintro _ w14 ⟨Cw14, bw14, rfl, s_13, hb, hF⟩
   refine aU (k0 (.store 47 (.tmp 13) (.tmp 63))) rfl (a_storeAll (vs := encR (((ps[i]'hil)[j]'hjl))) (n := 2) rfl rfl (by kernel_rfl) rfl rfl (by intro u hu; simp only [encR, List.mem_cons, List.not_mem_nil, or_false] at hu; rcases hu with rfl | rfl <;> rfl) hb rfl) ?_
   rintro _ w15 ⟨rfl, s_14, hb⟩
   refine Sch.nil (run_sq (run_sq (run_pl [yy 0, nn 1, nn 2] ?_)))
   refine yM 64 9 ?_
   refine nS (kq 65 (.load 47 (.tmp 13))) rfl rfl trivial (val_loadOwnAgg (n := 2) (vs := encR ((ps[i]'hil)[j]'hjl)) hb.at_ (by kernel_rfl) (by kernel_rfl) rfl rfl rfl) ?_
   replace hm := (hm.t s_13).t s_14
   refine nS (kq 66 (.lookup 85 (.tmp 64) (.tmp 65) false)) rfl rfl trivial (val_is (hm.lookup (z0 := false) (k := ((ps[i]'hil)[j]'hjl)) Tryz.underlying85 (keyOK_couple Tryz.underlying47 (by decide) (by decide) (by kernel_rfl) Tryz.underlying3) Tryz.zeroValue4 rfl rfl) (show _ = Value.bool false from congrArg Value.bool hno)) ?_
   refine Sch.nil (run_cF 66 (run_sk (run_pl [yy 0, nn 1, nn 2] ?_)))
   refine yM 67 9 ?_
   refine nS (kq 68 (.load 47 (.tmp 13))) rfl rfl trivial (val_loadOwnAgg (n := 2) (vs := encR ((ps[i]'hil)[j]'hjl)) hb.at_ (by kernel_rfl) (by kernel_rfl) rfl rfl rfl) ?_
   refine aU (k0 (.mapUpdate 85 (.tmp 67) (.tmp 68) (.const (.bool true)))) rfl (a_mapUpdate (k := ((ps[i]'hil)[j]'hjl)) (u := true) hm Tryz.underlying85 (keyOK_couple Tryz.underlying47 (by decide) (by decide) (by kernel_rfl) Tryz.underlying3) rfl rfl rfl) ?_
   rintro _ w16 ⟨rfl, s_15, hm⟩
   refine Sch.nil (run_inBlock (run_pl [yy 0, yy 1] ?_))
   refine yI 69 3 60 1 ?_
   refine yM 60 69 ?_
   refine Sch.nil ?_
   replace hT := ((hT.t s_13).t s_14).t s_15; replace hl := ((hl.t s_13).t s_14).t s_15; replace hp := ((hp.t s_13).t s_14).t s_15; replace hap := ((hap.t s_13).t s_14).t s_15; replace bx := ((bx.t s_13).t s_14).t s_15; replace g30 := ((g30.t s_13).t s_14).t s_15; replace hF := (hF.st s_14).st s_15
   refine kp (sr 2 (sr 7 (sr 9 (sr 24 (sr 25 (sr 26 (sr 58 (sr 59 (sub_cons 60 rfl (eq_int (by simp)) (sub_nil _)))))))))) (next2 (j + 1, mput m ((ps[i]'hil)[j]'hjl) true, Cw14) _ ⟨(by first | omega | (simp only; omega)), (by simp only; rw [List.take_succ_eq_append_getElem hjl, ← List.append_assoc]; exact hS.put _), hF, hT, hl, hp, hap, bx, hm, g30⟩ (by first | omega | (simp only; omega)))
  have hjl : j = (ps[i]'hil).length := by omega
  rw [hjl, ← flat_next hil] at hS
  refine run_ex 2 ?_
  refine run_inBlock (run_pl [yy 0, yy 1] ?_)
  refine yI 70 3 26 1 ?_
  refine yM 26 70 ?_
  refine Sch.nil ?_
  refine kp (sr 2 (sr 7 (sr 9 (sr 24 (sr 25 (sub_cons 26 rfl (eq_int (by simp)) (sub_nil _))))))) (next1 (i + 1, m, C2) _ ⟨(by first | omega | (simp only; omega)), hS, hF, hT, hl, hp, hap, bx, hm⟩ (by first | omega | (simp only; omega)))
 have hil : i = ps.length := by omega
 refine run_ex 0 ?_
 refine run_sq (run_pl [yy 0] ?_)
 refine yAc 6 (.int .i64 0) ?_
 refine Sch.nil ?_
 refine rt1 Tryz.func26 Tryz.results26 ?_
 exact ⟨rfl, hT.out1 (by decide)⟩
end
end Go.Proofs.YtdmgmlmlielfbaaGreat
