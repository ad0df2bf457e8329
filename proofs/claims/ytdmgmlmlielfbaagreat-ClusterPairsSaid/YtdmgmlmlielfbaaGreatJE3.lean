/- Steps through functions of the program. -/
import Derived.Test.YtdmgmlmlielfbaaGreatJE2
set_option linter.unusedVariables false
set_option linter.unusedSimpArgs false
set_option maxRecDepth 100000
set_option maxHeartbeats 4000000
namespace Go.Proofs.YtdmgmlmlielfbaaGreat
open Go.K Go.K.Rep
noncomputable section
namespace F53
def c0 := bodyOf Tryz.f53
def c7 := (cl (cl (cr (cl (cr c0)))))
def o4 := rops (cl (cl (cl (cr c7))))
end F53
theorem ascending_ok {w₀ : World} {C : Nat → Nat} {l : List Couple} {vl : Value} (hF : Lim w₀ C) (hl : RV w₀ (Mc C) l vl) (hasc : l.Pairwise ltP) : Calls Tryz.prog 53 #[vl] w₀ (Ret fun v w' => v = .bool true ∧ Stp [] w₀ C w' C) := by
 have hF0 := hF
 have hT := Stp.refl [2, 3, 4, 5, 6, 7, 8, 9] w₀ (col1 C)
 replace hF := hF.col1
 replace hl := hl.c1
 refine c_st F53.c0 21 [vl] Tryz.func53 ?_
 show Run _ _ _ _ [(0, vl)] _ _
 refine run_sq (run_pl [yy 0] ?_)
 refine yAc 2 (.bool false) ?_
 refine Sch.nil (run_sq (run_sq (run_pl [yy 0] ?_)))
 refine yAc 3 (.int .i64 1) ?_
 refine Sch.nil (run_bk 0 ?_)
 refine run_lp (ι := Nat × (Nat → Nat)) (I := fun x w => 1 ≤ x.1 ∧ x.1 ≤ max 1 l.length ∧ Lim w x.2 ∧ Stp [2, 3, 4, 5, 6, 7, 8, 9] w₀ (col1 C) w x.2 ∧ RV w (Mc x.2) l vl) (e := fun x => [(0, vl), (3, .int .i64 x.1)]) (m := fun x => l.length - x.1) (x₀ := (1, col1 C)) (sr 0 (sr 3 (sub_nil _))) ?_ ?_
 · exact ⟨Nat.le_refl _, by omega, hF, hT, hl⟩
 intro ⟨i, C1⟩ w1 hI next1
 obtain ⟨hi, hi2, hF, hT, hl⟩ := hI
 try simp only at hi hi2 hF hT hl
 show Run _ _ _ _ [(0, vl), (3, .int .i64 i)] _ _
 have hle := hl.le
 refine run_sq (run_sq (run_pl [yy 0, yy 1, yy 2, yy 3] ?_))
 refine yM 4 3 ?_
 refine yM 5 0 ?_
 refine yS (kq 6 (.call { callee := .builtin .len, args := #[(.tmp 5)], argTypes := #[53] })) rfl rfl (fun w' hS => hl.lenV rfl Tryz.underlying53 w' ) ?_
 refine yL 7 3 4 6 ?_
 refine Sch.nil ?_
 refine run_i 7 rfl (fun h7 => ?_) (fun h7 => ?_)
 ·
  have hil : i < l.length := by omega
  refine run_sk (run_sq (run_bk 1 (run_sq ?_)))
  refine run_draw (id := 4) (ops := F53.o4) [] (C1) [yy 0, yy 1, yy 2, yy 3, yy 4, yy 5, yy 6, yy 7, yy 8, nn 9, yy 10] Tryz_mixed (by kernel_rfl) (by kernel_rfl) (by kernel_rfl) ?_
  intro w2 s_1
  have hR := Stp.refl [] w2 (C1)
  refine yM 10 0 ?_
  refine yM 11 3 ?_
  refine yV (kq 12 (.binOp .sub 3 (.tmp 11) (.const (.int .i64 1)) 3)) (fun _ => val_subi rfl rfl (by omega) (by omega)) ?_
  replace hl := hl.t s_1
  refine iR 47 13 53 10 12 hl rfl (h := ?_)
  intro b13 o13 h13
  try simp only [Int.toNat_natCast] at h13
  refine lSA (kq 14 (.load 47 (.tmp 13))) rfl rfl (fun w' hS => h13.sy hS) h13 (by kernel_rfl) (by kernel_rfl) rfl rfl ?_
  intro v14 g14
  have eq1 : ((i : Int) - 1).toNat = i - 1 := by omega
  simp only [eq1] at g14
  obtain rfl := rv_couple.1 g14
  refine yM 15 0 ?_
  refine yM 16 3 ?_
  refine iR 47 17 53 15 16 hl rfl (h := ?_)
  intro b17 o17 h17
  try simp only [Int.toNat_natCast] at h17
  refine lSA (kq 18 (.load 47 (.tmp 17))) rfl rfl (fun w' hS => h17.sy hS) h17 (by kernel_rfl) (by kernel_rfl) rfl rfl ?_
  intro v18 g18
  obtain rfl := rv_couple.1 g18
  replace hF := hF.st s_1
  refine cF 19 55 [14, 18] [47, 47] Tryz.call55 rfl (compare_ok (x := l[i - 1]'(by omega)) (y := l[i]'hil) hF) ?_
  rintro vw3 w3 ⟨rfl, s_2⟩
  have hlt : cmpC (l[i - 1]'(by omega)) (l[i]'hil) < 0 := cmpC_neg.2 (List.pairwise_iff_getElem.1 hasc (i - 1) i (by omega) hil (by omega))
  refine ⟨(hR.trans s_2 (by simp)).ext, ?_⟩
  refine yV (kq 20 (.binOp .geq 3 (.tmp 19) (.const (.int .i64 0)) 3)) (fun _ => val_is (val_geq rfl rfl) (show _ = Value.bool false from congrArg Value.bool (decide_eq_false (by omega)))) ?_
  refine Sch.nil (run_cF 20 (run_sk (run_inBlock (run_pl [yy 0, yy 1, yy 2] ?_))))
  refine yM 8 3 ?_
  refine yI 9 3 8 1 ?_
  refine yA 3 9 ?_
  refine Sch.nil ?_
  replace hT := (hT.t s_1).t s_2; replace hF := hF.st s_2; replace hl := hl.t s_2
  refine kp (sr 0 (sub_cons 3 rfl (eq_int (by simp)) (sub_nil _))) (next1 (i + 1, C1) _ ⟨(by first | omega | (simp only; omega)), (by first | omega | (simp only; omega)), hF, hT, hl⟩ (by first | omega | (simp only; omega)))
 refine run_ex 0 ?_
 refine run_sq (run_pl [yy 0] ?_)
 refine yAc 2 (.bool true) ?_
 refine Sch.nil ?_
 refine rt1 Tryz.func53 Tryz.results53 ?_
 exact ⟨rfl, hT.out1 (by decide)⟩
theorem any_dec {s : List Couple} {c : Couple} : (s.any fun x => decide (c = x)) = decide (c ∈ s) := by
  rw [Bool.eq_iff_iff, any_is, decide_eq_true_iff]
namespace F95
def c0 := bodyOf Tryz.f95
def c8 := (cl (cr (cl (cr (cr c0)))))
def c20 := (cr (cr (cl (cr (cl c8)))))
def c29 := (cl (cr (cr (cl (cl c20)))))
def o9 := rops (cl (cr (cr (cl c29))))
end F95
theorem joined_ok {w₀ : World} {C : Nat → Nat} {l : List Bond} {s : List Couple} {vb vm vs : Value} (hF : Lim w₀ C) (hl : RV w₀ (Mc C) l vb) (hs0 : RV w₀ (Mc C) s vs) (h1 : 1 ≤ s.length) (hn : s.Nodup) (hlen : s.length ≤ 1000000) : Calls Tryz.prog 95 #[.agg #[vb, vm], vs] w₀ (Ret fun v w' => v = .bool (joinB l s) ∧ Stp [] w₀ C w' C) := by
 have hF0 := hF
 have hT := Stp.refl [2, 3, 4, 5, 6, 7, 8, 9] w₀ (col1 C)
 replace hF := hF.col1
 replace hl := hl.c1
 replace hs0 := hs0.c1
 refine c_st F95.c0 69 [.agg #[vb, vm], vs] Tryz.func95 ?_
 show Run _ _ _ _ [(0, .agg #[vb, vm]), (1, vs)] _ _
 refine run_sq (run_pl [nn 0, yy 1] ?_)
 refine aT (kq 2 (.box 75 (.tmp 0))) rfl rfl (a_box (cs := [vb, vm]) hF 3 rfl rfl) ?_
 rintro _ w1 ⟨Cw1, bw1, rfl, s_1, hx, hF⟩
 refine yAc 4 (.bool false) ?_
 refine Sch.nil (run_sq (run_pl [yy 0, yy 1, yy 2] ?_))
 refine yM 11 1 ?_
 replace hs0 := hs0.t s_1
 refine sFullK (e' := 47) (m := 1) (kq 12 (.slice 53 (.tmp 11) none (some (.const (.int .i64 1))) (some (.const (.int .i64 1))))) rfl rfl hs0 rfl (by kernel_rfl) rfl rfl h1 ?_
 intro a1 hr1
 refine yA 5 12 ?_
 refine Sch.nil (run_sq (run_sq (run_pl [yy 0] ?_)))
 have hs1 : (s.take 1).length = 1 := by rw [List.length_take]; omega
 refine yAc 6 (.bool true) ?_
 refine Sch.nil (run_bk 0 ?_)
 refine run_lp (ι := Bool × (List Couple) × Value × (Nat → Nat)) (I := fun x w => Rch l s x.2.1 ∧ (x.1 = false → ∀ bd ∈ l, bd.A ∈ s → bd.B ∈ s → (bd.A ∈ x.2.1 ↔ bd.B ∈ x.2.1)) ∧ Lim w x.2.2.2 ∧ Stp [2, 3, 4, 5, 6, 7, 8, 9] w₀ (col1 C) w x.2.2.2 ∧ RV w (Mc x.2.2.2) l vb ∧ RV w (Mc x.2.2.2) s vs ∧ OwnB w x.2.2.2 3 bw1 (.cells [vb, vm].toArray 75) ∧ AppF w x.2.2.2 5 47 x.2.2.1 x.2.1) (e := fun x => [(1, vs), (2, .pointer (some ⟨bw1, 0, none⟩)), (5, x.2.2.1), (6, .bool x.1)]) (m := fun x => 2 * (s.length - x.2.1.length) + (if x.1 then 1 else 0)) (x₀ := (true, s.take 1, .slice a1 1 1, Cw1)) (sr 1 (sr 2 (sr 5 (sr 6 (sub_nil _))))) ?_ ?_
 ·
   replace hT := hT.t s_1; replace hl := hl.t s_1
   exact ⟨Rch.start h1, fun e => (by cases e), hF, hT, hl, hs0, hx, .inr ⟨a1, (by rw [hs1]), hr1⟩⟩
 intro ⟨g0, ys, vy, C1⟩ w2 hI next1
 obtain ⟨hR, hg, hF, hT, hl, hs0, hx, hy⟩ := hI
 try simp only at hR hg hF hT hl hs0 hx hy
 show Run _ _ _ _ [(1, vs), (2, .pointer (some ⟨bw1, 0, none⟩)), (5, vy), (6, .bool g0)] _ _
 have hyl := hR.len
 refine run_sq (run_sq (run_pl [yy 0] ?_))
 refine yM 13 6 ?_
 refine Sch.nil ?_
 refine run_c 13 rfl (fun h13 => ?_) (fun h13 => ?_)
 ·
  subst h13
  refine run_sk (run_bk 1 (run_sq (run_pl [yy 0] ?_)))
  refine yAc 6 (.bool false) ?_
  refine Sch.nil (run_sq (run_pl [yy 0, nn 1, yy 2, yy 3] ?_))
  refine yF 14 75 2 0 0 ?_
  refine nO 15 23 14 hx.at_ rfl rfl ?_
  refine yS (kq 16 (.call { callee := .builtin .len, args := #[(.tmp 15)], argTypes := #[23] })) rfl rfl (fun w' hS => hl.lenV rfl Tryz.underlying23 w' ) ?_
  refine yC 17 (.int .i64 0) ?_
  refine Sch.nil (run_bk 2 ?_)
  refine run_lp (ι := Nat × Bool × (List Couple) × Value × (Nat → Nat)) (I := fun x w => x.1 ≤ l.length ∧ Rch l s x.2.2.1 ∧ (x.2.1 = true → ys.length < x.2.2.1.length) ∧ (x.2.1 = false → x.2.2.1 = ys ∧ ∀ i (hi : i < x.1) (hl : i < l.length), l[i].A ∈ s → l[i].B ∈ s → (l[i].A ∈ ys ↔ l[i].B ∈ ys)) ∧ Lim w x.2.2.2.2 ∧ Stp [2, 3, 4, 5, 6, 7, 8, 9] w₀ (col1 C) w x.2.2.2.2 ∧ RV w (Mc x.2.2.2.2) l vb ∧ RV w (Mc x.2.2.2.2) s vs ∧ OwnB w x.2.2.2.2 3 bw1 (.cells [vb, vm].toArray 75) ∧ AppF w x.2.2.2.2 5 47 x.2.2.2.1 x.2.2.1) (e := fun x => [(1, vs), (2, .pointer (some ⟨bw1, 0, none⟩)), (5, x.2.2.2.1), (6, .bool x.2.1), (15, vb), (16, .int .i64 l.length), (17, .int .i64 x.1)]) (m := fun x => l.length - x.1) (x₀ := (0, false, ys, vy, C1)) (sr 1 (sr 2 (sr 5 (sr 6 (sr 15 (sr 16 (sr 17 (sub_nil _)))))))) ?_ ?_
  · exact ⟨Nat.zero_le _, hR, fun e => (by cases e), fun _ => ⟨rfl, fun i hi => by simp only at hi; omega⟩, hF, hT, hl, hs0, hx, hy⟩
  intro ⟨k, g, zs, vy, C2⟩ w3 hI next2
  obtain ⟨hk, hR2, hgr, hgf, hF, hT, hl, hs0, hx, hy⟩ := hI
  try simp only at hk hR2 hgr hgf hF hT hl hs0 hx hy
  show Run _ _ _ _ [(1, vs), (2, .pointer (some ⟨bw1, 0, none⟩)), (5, vy), (6, .bool g), (15, vb), (16, .int .i64 l.length), (17, .int .i64 k)] _ _
  have hle := hl.le
  have hsle := hs0.le
  have hzl := hR2.len
  refine run_sq (run_pl [yy 0] ?_)
  refine yL 18 3 17 16 ?_
  refine Sch.nil (run_sq ?_)
  refine run_i 18 rfl (fun h18 => ?_) (fun h18 => ?_)
  ·
   have hkl : k < l.length := by omega
   have hxm := List.getElem_mem hkl
   refine run_sk (run_sq (run_bk 3 (run_sq (run_pl [yy 0, nn 1, nn 2, nn 3] ?_))))
   refine iR 49 19 23 15 17 hl rfl (h := ?_)
   intro b19 o19 h19
   try simp only [Int.toNat_natCast] at h19
   refine lNA (kq 20 (.load 49 (.tmp 19))) rfl rfl trivial h19 (by kernel_rfl) (by kernel_rfl) rfl rfl ?_
   intro v20 g20
   obtain rfl := rv_bond.1 g20
   refine aT (kq 8 (.alloc 49)) rfl rfl (a_alloc (cs := [.int .i64 0, .int .i64 0, .int .i64 0, .int .i64 0, .int .i64 0]) hF 6 (by kernel_rfl)) ?_
   rintro _ w4 ⟨Cw4, bw4, rfl, s_2, hb, hF⟩
   refine aU (k0 (.store 49 (.tmp 8) (.tmp 20))) rfl (a_storeAll (vs := encB (l[k]'hkl)) (n := 5) rfl rfl (by kernel_rfl) rfl rfl (by intro u hu; simp only [encB, List.mem_cons, List.not_mem_nil, or_false] at hu; rcases hu with rfl | rfl | rfl | rfl | rfl <;> rfl) hb rfl) ?_
   rintro _ w5 ⟨rfl, s_3, hb⟩
   refine Sch.nil (run_sq (run_sq ?_))
   by_cases hA : (l[k]'hkl).A ∈ s
   ·
    by_cases hB : (l[k]'hkl).B ∈ s
    ·
     refine run_pl [yy 0, yy 1, nn 2, nn 3, yy 4, yy 5, yy 6, yy 7, nn 8, nn 9, yy 10, yy 11] ?_
     refine yM 21 1 ?_
     refine yF 22 49 8 0 0 ?_
     refine nS (kq 23 (.load 47 (.tmp 22))) rfl rfl trivial (val_loadOwnAgg (n := 2) (vs := encR (l[k]'hkl).A) hb.at_ (by kernel_rfl) (by kernel_rfl) rfl rfl rfl) ?_
     replace hs0 := (hs0.t s_2).t s_3; replace hF := hF.st s_3
     refine cG 24 61 [21, 23] [53, 47] Tryz.call61 rfl (contains_ok (c := (l[k]'hkl).A) hF hs0) ?_
     rintro vw6 w6 ⟨rfl, s_4⟩
     rw [any_dec, decide_eq_true hA]
     refine yV (kq 25 (.unOp .not 4 (.tmp 24))) (fun _ => val_not rfl) ?_
     refine yM 26 25 ?_
     refine yMg 27 1 5 false ?_
     refine yFg 28 49 8 1 2 5 false ?_
     replace hb := hb.t s_4
     refine nS (kg 29 (.load 47 (.tmp 28)) 5 false) rfl rfl trivial (val_loadOwnAgg (n := 2) (vs := encR (l[k]'hkl).B) hb.at_ (by kernel_rfl) (by kernel_rfl) rfl rfl rfl) ?_
     replace hF := hF.st s_4; replace hs0 := hs0.t s_4
     refine cT (kg 30 (.call { callee := .value (.func 61), args := #[(.tmp 27), (.tmp 29)], argTypes := #[53, 47] }) 5 false) rfl rfl (ent Tryz.call61 rfl) (contains_ok (c := (l[k]'hkl).B) hF hs0) ?_
     rintro vw7 w7 ⟨rfl, s_5⟩
     rw [any_dec, decide_eq_true hB]
     refine yV (kg 31 (.unOp .not 4 (.tmp 30)) 5 false) (fun _ => val_not rfl) ?_
     refine yOf 32 26 31 ?_
     refine Sch.nil (run_cF 32 (run_sk (run_sq ?_)))
     by_cases hP : (l[k]'hkl).A ∈ zs
     ·
      by_cases hQ : (l[k]'hkl).B ∈ zs
      ·
       refine run_draw (id := 9) (ops := F95.o9) [] (Cw4) [yy 0, yy 1, yy 2, yy 4, yy 5, yy 6, nn 3, nn 7, yy 8, yy 9] Tryz_mixed (by kernel_rfl) (by kernel_rfl) (by kernel_rfl) ?_
       intro w8 s_6
       have hR := Stp.refl [] w8 (Cw4)
       refine yM 33 5 ?_
       refine yF 34 49 8 0 0 ?_
       replace hb := (hb.t s_5).t s_6
       refine yS (kq 35 (.load 47 (.tmp 34))) rfl rfl (fun w' hS => val_loadOwnAgg (n := 2) (vs := encR (l[k]'hkl).A) (hb.stay hS (by decide)) (by kernel_rfl) (by kernel_rfl) rfl rfl rfl) ?_
       refine yM 37 5 ?_
       refine yF 38 49 8 1 2 ?_
       refine yS (kq 39 (.load 47 (.tmp 38))) rfl rfl (fun w' hS => val_loadOwnAgg (n := 2) (vs := encR (l[k]'hkl).B) (hb.stay hS (by decide)) (by kernel_rfl) (by kernel_rfl) rfl rfl rfl) ?_
       replace hy := ((((hy.t s_2).t s_3).t s_4).t s_5).t s_6
       refine cF 36 61 [33, 35] [53, 47] Tryz.call61 rfl (contains_ok (C := C0) (c := (l[k]'hkl).A) (lim00 _) (hy.rv0 (by omega))) ?_
       rintro _ w9 ⟨rfl, s_7⟩
       replace s_7 := s_7.re (Cw4)
       rw [any_dec, decide_eq_true hP]
       refine ⟨(hR.trans s_7 (by simp)).ext, ?_⟩
       replace hy := hy.t s_7
       refine cF 40 61 [37, 39] [53, 47] Tryz.call61 rfl (contains_ok (C := C0) (c := (l[k]'hkl).B) (lim00 _) (hy.rv0 (by omega))) ?_
       rintro _ w10 ⟨rfl, s_8⟩
       replace s_8 := s_8.re (Cw4)
       rw [any_dec, decide_eq_true hQ]
       replace hR := hR.t s_7
       refine ⟨(hR.trans s_8 (by simp)).ext, ?_⟩
       refine yA 9 36 ?_
       refine yA 10 40 ?_
       refine Sch.nil (run_bk 4 (run_sq (run_pl [yy 0, yy 1, yy 2, yy 3, yy 4, yy 5] ?_)))
       refine yM 42 9 ?_
       refine yM 43 42 ?_
       refine yMg 44 10 1 true ?_
       refine yV (kg 45 (.unOp .not 4 (.tmp 44)) 1 true) (fun _ => val_not rfl) ?_
       refine yAt 46 43 45 ?_
       refine yA 41 46 ?_
       refine Sch.nil (run_cF 41 (run_sq (run_pl [yy 0, yy 1, yy 2, yy 3, yy 4, yy 5] ?_)))
       refine yM 53 10 ?_
       refine yM 54 53 ?_
       refine yMg 55 9 1 true ?_
       refine yV (kg 56 (.unOp .not 4 (.tmp 55)) 1 true) (fun _ => val_not rfl) ?_
       refine yAt 57 54 56 ?_
       refine yA 52 57 ?_
       refine Sch.nil (run_cF 52 (run_sk (run_inBlock (run_inBlock (run_pl [yy 0, yy 1] ?_)))))
       refine yI 63 3 17 1 ?_
       refine yM 17 63 ?_
       refine Sch.nil ?_
       replace hT := ((((((hT.t s_2).t s_3).t s_4).t s_5).t s_6).t s_7).t s_8; replace hl := ((((((hl.t s_2).t s_3).t s_4).t s_5).t s_6).t s_7).t s_8; replace hx := ((((((hx.t s_2).t s_3).t s_4).t s_5).t s_6).t s_7).t s_8; replace hF := (((hF.st s_5).st s_6).st s_7).st s_8; replace hs0 := (((hs0.t s_5).t s_6).t s_7).t s_8; replace hy := hy.t s_8
       refine kp (sub_cons 1 rfl rfl (sub_cons 2 rfl rfl (sub_cons 5 rfl rfl (sub_cons 6 rfl rfl (sub_cons 15 rfl rfl (sub_cons 16 rfl rfl (sub_cons 17 rfl (eq_int (by simp)) (sub_nil _)))))))) (next2 (k + 1, g, zs, vy, Cw4) _ ⟨(by first | omega | (simp only; omega)), (by first | omega | (simp only; omega)), (by first | omega | (simp only; omega)), (fun e => by
           obtain ⟨h1, h2⟩ := hgf e
           exact ⟨h1, fun i hi hl' a b => by
             simp only at hi
             by_cases e2 : i = k
             · subst e2; rw [← h1]; first | exact ⟨fun _ => hQ, fun _ => hP⟩ | exact ⟨fun e => absurd e hP, fun e => absurd e hQ⟩
             · exact h2 i (by omega) hl' a b⟩), hF, hT, hl, hs0, hx, hy⟩ (by first | omega | (simp only; omega)))
      refine run_draw (id := 9) (ops := F95.o9) [] (Cw4) [yy 0, yy 1, yy 2, yy 4, yy 5, yy 6, nn 3, nn 7, yy 8, yy 9] Tryz_mixed (by kernel_rfl) (by kernel_rfl) (by kernel_rfl) ?_
      intro w11 s_9
      have hR := Stp.refl [] w11 (Cw4)
      refine yM 33 5 ?_
      refine yF 34 49 8 0 0 ?_
      replace hb := (hb.t s_5).t s_9
      refine yS (kq 35 (.load 47 (.tmp 34))) rfl rfl (fun w' hS => val_loadOwnAgg (n := 2) (vs := encR (l[k]'hkl).A) (hb.stay hS (by decide)) (by kernel_rfl) (by kernel_rfl) rfl rfl rfl) ?_
      refine yM 37 5 ?_
      refine yF 38 49 8 1 2 ?_
      refine yS (kq 39 (.load 47 (.tmp 38))) rfl rfl (fun w' hS => val_loadOwnAgg (n := 2) (vs := encR (l[k]'hkl).B) (hb.stay hS (by decide)) (by kernel_rfl) (by kernel_rfl) rfl rfl rfl) ?_
      replace hy := ((((hy.t s_2).t s_3).t s_4).t s_5).t s_9
      refine cF 36 61 [33, 35] [53, 47] Tryz.call61 rfl (contains_ok (C := C0) (c := (l[k]'hkl).A) (lim00 _) (hy.rv0 (by omega))) ?_
      rintro _ w12 ⟨rfl, s_10⟩
      replace s_10 := s_10.re (Cw4)
      rw [any_dec, decide_eq_true hP]
      refine ⟨(hR.trans s_10 (by simp)).ext, ?_⟩
      replace hy := hy.t s_10
      refine cF 40 61 [37, 39] [53, 47] Tryz.call61 rfl (contains_ok (C := C0) (c := (l[k]'hkl).B) (lim00 _) (hy.rv0 (by omega))) ?_
      rintro _ w13 ⟨rfl, s_11⟩
      replace s_11 := s_11.re (Cw4)
      rw [any_dec, decide_eq_false hQ]
      replace hR := hR.t s_10
      refine ⟨(hR.trans s_11 (by simp)).ext, ?_⟩
      refine yA 9 36 ?_
      refine yA 10 40 ?_
      refine Sch.nil (run_bk 4 (run_sq (run_pl [yy 0, yy 1, yy 2, yy 3, yy 4, yy 5] ?_)))
      refine yM 42 9 ?_
      refine yM 43 42 ?_
      refine yMg 44 10 1 true ?_
      refine yV (kg 45 (.unOp .not 4 (.tmp 44)) 1 true) (fun _ => val_not rfl) ?_
      refine yAt 46 43 45 ?_
      refine yA 41 46 ?_
      refine Sch.nil (run_cT 41 (run_pl [yy 0, yy 1, nn 2, nn 3, nn 4, yy 5, yy 6] ?_))
      refine yM 47 5 ?_
      refine yF 48 49 8 1 2 ?_
      replace hb := (hb.t s_10).t s_11
      refine nS (kq 49 (.load 47 (.tmp 48))) rfl rfl trivial (val_loadOwnAgg (n := 2) (vs := encR (l[k]'hkl).B) hb.at_ (by kernel_rfl) (by kernel_rfl) rfl rfl rfl) ?_
      replace hF := (((hF.st s_5).st s_9).st s_10).st s_11
      refine aT (kq 50 (.buildSlice 53 1 #[(0, (.tmp 49))])) rfl rfl (a_buildSlice (ys := ([(l[k]'hkl).B] : List Couple)) (e := 47) (bytes := 16) hF (by kernel_rfl) rfl (by decide) (by decide) ⟨rfl, ⟨_, rfl, rv_couple.2 rfl⟩, trivial⟩) ?_
      rintro v50 w14 ⟨s_12, g50, hF⟩
      replace hy := (hy.t s_11).t s_12
      refine aT (kq 51 (.call { callee := .builtin .append, args := #[(.tmp 47), (.tmp 50)], argTypes := #[53, 53] })) rfl rfl (a_appendF (e := 47) (bytes := 16) hF (j := 5) (by decide) rfl rfl (by kernel_rfl) (by decide) hy g50 (by simp) (by simp only [List.length_cons, List.length_nil]; omega) (by simp only [List.length_cons, List.length_nil]; omega)) ?_
      rintro vy2 w15 ⟨Cw15, s_13, hy, hF⟩
      refine yA 5 51 ?_
      refine yAc 6 (.bool true) ?_
      refine Sch.nil (run_inBlock (run_inBlock (run_pl [yy 0, yy 1] ?_)))
      refine yI 63 3 17 1 ?_
      refine yM 17 63 ?_
      refine Sch.nil ?_
      replace hT := ((((((((hT.t s_2).t s_3).t s_4).t s_5).t s_9).t s_10).t s_11).t s_12).t s_13; replace hl := ((((((((hl.t s_2).t s_3).t s_4).t s_5).t s_9).t s_10).t s_11).t s_12).t s_13; replace hx := ((((((((hx.t s_2).t s_3).t s_4).t s_5).t s_9).t s_10).t s_11).t s_12).t s_13; replace hs0 := (((((hs0.t s_5).t s_9).t s_10).t s_11).t s_12).t s_13
      refine kp (sub_cons 1 rfl rfl (sub_cons 2 rfl rfl (sub_cons 5 rfl rfl (sub_cons 6 rfl rfl (sub_cons 15 rfl rfl (sub_cons 16 rfl rfl (sub_cons 17 rfl (eq_int (by simp)) (sub_nil _)))))))) (next2 (k + 1, true, zs ++ [(l[k]'hkl).B], vy2, Cw15) _ ⟨(by first | omega | (simp only; omega)), (hR2.add hxm hA hB (.inr ⟨rfl, hP⟩) hQ), (fun _ => by
           simp only [List.length_append, List.length_cons, List.length_nil]
           cases eg : g with
           | true => have := hgr eg; omega
           | false => have := (hgf eg).1; rw [this]; omega), (fun e => by cases e), hF, hT, hl, hs0, hx, (.inl hy)⟩ (by first | omega | (simp only; omega)))
     by_cases hQ : (l[k]'hkl).B ∈ zs
     ·
      refine run_draw (id := 9) (ops := F95.o9) [] (Cw4) [yy 0, yy 1, yy 2, yy 4, yy 5, yy 6, nn 3, nn 7, yy 8, yy 9] Tryz_mixed (by kernel_rfl) (by kernel_rfl) (by kernel_rfl) ?_
      intro w16 s_14
      have hR := Stp.refl [] w16 (Cw4)
      refine yM 33 5 ?_
      refine yF 34 49 8 0 0 ?_
      replace hb := (hb.t s_5).t s_14
      refine yS (kq 35 (.load 47 (.tmp 34))) rfl rfl (fun w' hS => val_loadOwnAgg (n := 2) (vs := encR (l[k]'hkl).A) (hb.stay hS (by decide)) (by kernel_rfl) (by kernel_rfl) rfl rfl rfl) ?_
      refine yM 37 5 ?_
      refine yF 38 49 8 1 2 ?_
      refine yS (kq 39 (.load 47 (.tmp 38))) rfl rfl (fun w' hS => val_loadOwnAgg (n := 2) (vs := encR (l[k]'hkl).B) (hb.stay hS (by decide)) (by kernel_rfl) (by kernel_rfl) rfl rfl rfl) ?_
      replace hy := ((((hy.t s_2).t s_3).t s_4).t s_5).t s_14
      refine cF 36 61 [33, 35] [53, 47] Tryz.call61 rfl (contains_ok (C := C0) (c := (l[k]'hkl).A) (lim00 _) (hy.rv0 (by omega))) ?_
      rintro _ w17 ⟨rfl, s_15⟩
      replace s_15 := s_15.re (Cw4)
      rw [any_dec, decide_eq_false hP]
      refine ⟨(hR.trans s_15 (by simp)).ext, ?_⟩
      replace hy := hy.t s_15
      refine cF 40 61 [37, 39] [53, 47] Tryz.call61 rfl (contains_ok (C := C0) (c := (l[k]'hkl).B) (lim00 _) (hy.rv0 (by omega))) ?_
      rintro _ w18 ⟨rfl, s_16⟩
      replace s_16 := s_16.re (Cw4)
      rw [any_dec, decide_eq_true hQ]
      replace hR := hR.t s_15
      refine ⟨(hR.trans s_16 (by simp)).ext, ?_⟩
      refine yA 9 36 ?_
      refine yA 10 40 ?_
      refine Sch.nil (run_bk 4 (run_sq (run_pl [yy 0, yy 1, yy 2, yy 3, yy 4, yy 5] ?_)))
      refine yM 42 9 ?_
      refine yM 43 42 ?_
      refine pX 44 1 true ?_
      refine pX 45 1 true ?_
      refine yAf 46 43 45 ?_
      refine yA 41 46 ?_
      refine Sch.nil (run_cF 41 (run_sq (run_pl [yy 0, yy 1, yy 2, yy 3, yy 4, yy 5] ?_)))
      refine yM 53 10 ?_
      refine yM 54 53 ?_
      refine yMg 55 9 1 true ?_
      refine yV (kg 56 (.unOp .not 4 (.tmp 55)) 1 true) (fun _ => val_not rfl) ?_
      refine yAt 57 54 56 ?_
      refine yA 52 57 ?_
      refine Sch.nil (run_cT 52 (run_pl [yy 0, yy 1, nn 2, nn 3, nn 4, yy 5, yy 6] ?_))
      refine yM 58 5 ?_
      refine yF 59 49 8 0 0 ?_
      replace hb := (hb.t s_15).t s_16
      refine nS (kq 60 (.load 47 (.tmp 59))) rfl rfl trivial (val_loadOwnAgg (n := 2) (vs := encR (l[k]'hkl).A) hb.at_ (by kernel_rfl) (by kernel_rfl) rfl rfl rfl) ?_
      replace hF := (((hF.st s_5).st s_14).st s_15).st s_16
      refine aT (kq 61 (.buildSlice 53 1 #[(0, (.tmp 60))])) rfl rfl (a_buildSlice (ys := ([(l[k]'hkl).A] : List Couple)) (e := 47) (bytes := 16) hF (by kernel_rfl) rfl (by decide) (by decide) ⟨rfl, ⟨_, rfl, rv_couple.2 rfl⟩, trivial⟩) ?_
      rintro v61 w19 ⟨s_17, g61, hF⟩
      replace hy := (hy.t s_16).t s_17
      refine aT (kq 62 (.call { callee := .builtin .append, args := #[(.tmp 58), (.tmp 61)], argTypes := #[53, 53] })) rfl rfl (a_appendF (e := 47) (bytes := 16) hF (j := 5) (by decide) rfl rfl (by kernel_rfl) (by decide) hy g61 (by simp) (by simp only [List.length_cons, List.length_nil]; omega) (by simp only [List.length_cons, List.length_nil]; omega)) ?_
      rintro vy2 w20 ⟨Cw20, s_18, hy, hF⟩
      refine yA 5 62 ?_
      refine yAc 6 (.bool true) ?_
      refine Sch.nil (run_inBlock (run_inBlock (run_pl [yy 0, yy 1] ?_)))
      refine yI 63 3 17 1 ?_
      refine yM 17 63 ?_
      refine Sch.nil ?_
      replace hT := ((((((((hT.t s_2).t s_3).t s_4).t s_5).t s_14).t s_15).t s_16).t s_17).t s_18; replace hl := ((((((((hl.t s_2).t s_3).t s_4).t s_5).t s_14).t s_15).t s_16).t s_17).t s_18; replace hx := ((((((((hx.t s_2).t s_3).t s_4).t s_5).t s_14).t s_15).t s_16).t s_17).t s_18; replace hs0 := (((((hs0.t s_5).t s_14).t s_15).t s_16).t s_17).t s_18
      refine kp (sub_cons 1 rfl rfl (sub_cons 2 rfl rfl (sub_cons 5 rfl rfl (sub_cons 6 rfl rfl (sub_cons 15 rfl rfl (sub_cons 16 rfl rfl (sub_cons 17 rfl (eq_int (by simp)) (sub_nil _)))))))) (next2 (k + 1, true, zs ++ [(l[k]'hkl).A], vy2, Cw20) _ ⟨(by first | omega | (simp only; omega)), (hR2.add hxm hA hB (.inl ⟨rfl, hQ⟩) hP), (fun _ => by
           simp only [List.length_append, List.length_cons, List.length_nil]
           cases eg : g with
           | true => have := hgr eg; omega
           | false => have := (hgf eg).1; rw [this]; omega), (fun e => by cases e), hF, hT, hl, hs0, hx, (.inl hy)⟩ (by first | omega | (simp only; omega)))
     refine run_draw (id := 9) (ops := F95.o9) [] (Cw4) [yy 0, yy 1, yy 2, yy 4, yy 5, yy 6, nn 3, nn 7, yy 8, yy 9] Tryz_mixed (by kernel_rfl) (by kernel_rfl) (by kernel_rfl) ?_
     intro w21 s_19
     have hR := Stp.refl [] w21 (Cw4)
     refine yM 33 5 ?_
     refine yF 34 49 8 0 0 ?_
     replace hb := (hb.t s_5).t s_19
     refine yS (kq 35 (.load 47 (.tmp 34))) rfl rfl (fun w' hS => val_loadOwnAgg (n := 2) (vs := encR (l[k]'hkl).A) (hb.stay hS (by decide)) (by kernel_rfl) (by kernel_rfl) rfl rfl rfl) ?_
     refine yM 37 5 ?_
     refine yF 38 49 8 1 2 ?_
     refine yS (kq 39 (.load 47 (.tmp 38))) rfl rfl (fun w' hS => val_loadOwnAgg (n := 2) (vs := encR (l[k]'hkl).B) (hb.stay hS (by decide)) (by kernel_rfl) (by kernel_rfl) rfl rfl rfl) ?_
     replace hy := ((((hy.t s_2).t s_3).t s_4).t s_5).t s_19
     refine cF 36 61 [33, 35] [53, 47] Tryz.call61 rfl (contains_ok (C := C0) (c := (l[k]'hkl).A) (lim00 _) (hy.rv0 (by omega))) ?_
     rintro _ w22 ⟨rfl, s_20⟩
     replace s_20 := s_20.re (Cw4)
     rw [any_dec, decide_eq_false hP]
     refine ⟨(hR.trans s_20 (by simp)).ext, ?_⟩
     replace hy := hy.t s_20
     refine cF 40 61 [37, 39] [53, 47] Tryz.call61 rfl (contains_ok (C := C0) (c := (l[k]'hkl).B) (lim00 _) (hy.rv0 (by omega))) ?_
     rintro _ w23 ⟨rfl, s_21⟩
     replace s_21 := s_21.re (Cw4)
     rw [any_dec, decide_eq_false hQ]
     replace hR := hR.t s_20
     refine ⟨(hR.trans s_21 (by simp)).ext, ?_⟩
     refine yA 9 36 ?_
     refine yA 10 40 ?_
     refine Sch.nil (run_bk 4 (run_sq (run_pl [yy 0, yy 1, yy 2, yy 3, yy 4, yy 5] ?_)))
     refine yM 42 9 ?_
     refine yM 43 42 ?_
     refine pX 44 1 true ?_
     refine pX 45 1 true ?_
     refine yAf 46 43 45 ?_
     refine yA 41 46 ?_
     refine Sch.nil (run_cF 41 (run_sq (run_pl [yy 0, yy 1, yy 2, yy 3, yy 4, yy 5] ?_)))
     refine yM 53 10 ?_
     refine yM 54 53 ?_
     refine pX 55 1 true ?_
     refine pX 56 1 true ?_
     refine yAf 57 54 56 ?_
     refine yA 52 57 ?_
     refine Sch.nil (run_cF 52 (run_sk (run_inBlock (run_inBlock (run_pl [yy 0, yy 1] ?_)))))
     refine yI 63 3 17 1 ?_
     refine yM 17 63 ?_
     refine Sch.nil ?_
     replace hT := ((((((hT.t s_2).t s_3).t s_4).t s_5).t s_19).t s_20).t s_21; replace hl := ((((((hl.t s_2).t s_3).t s_4).t s_5).t s_19).t s_20).t s_21; replace hx := ((((((hx.t s_2).t s_3).t s_4).t s_5).t s_19).t s_20).t s_21; replace hF := (((hF.st s_5).st s_19).st s_20).st s_21; replace hs0 := (((hs0.t s_5).t s_19).t s_20).t s_21; replace hy := hy.t s_21
     refine kp (sub_cons 1 rfl rfl (sub_cons 2 rfl rfl (sub_cons 5 rfl rfl (sub_cons 6 rfl rfl (sub_cons 15 rfl rfl (sub_cons 16 rfl rfl (sub_cons 17 rfl (eq_int (by simp)) (sub_nil _)))))))) (next2 (k + 1, g, zs, vy, Cw4) _ ⟨(by first | omega | (simp only; omega)), (by first | omega | (simp only; omega)), (by first | omega | (simp only; omega)), (fun e => by
           obtain ⟨h1, h2⟩ := hgf e
           exact ⟨h1, fun i hi hl' a b => by
             simp only at hi
             by_cases e2 : i = k
             · subst e2; rw [← h1]; first | exact ⟨fun _ => hQ, fun _ => hP⟩ | exact ⟨fun e => absurd e hP, fun e => absurd e hQ⟩
             · exact h2 i (by omega) hl' a b⟩), hF, hT, hl, hs0, hx, hy⟩ (by first | omega | (simp only; omega)))
    refine run_pl [yy 0, yy 1, nn 2, nn 3, yy 4, yy 5, yy 6, yy 7, nn 8, nn 9, yy 10, yy 11] ?_
    refine yM 21 1 ?_
    refine yF 22 49 8 0 0 ?_
    refine nS (kq 23 (.load 47 (.tmp 22))) rfl rfl trivial (val_loadOwnAgg (n := 2) (vs := encR (l[k]'hkl).A) hb.at_ (by kernel_rfl) (by kernel_rfl) rfl rfl rfl) ?_
    replace hs0 := (hs0.t s_2).t s_3; replace hF := hF.st s_3
    refine cG 24 61 [21, 23] [53, 47] Tryz.call61 rfl (contains_ok (c := (l[k]'hkl).A) hF hs0) ?_
    rintro vw24 w24 ⟨rfl, s_22⟩
    rw [any_dec, decide_eq_true hA]
    refine yV (kq 25 (.unOp .not 4 (.tmp 24))) (fun _ => val_not rfl) ?_
    refine yM 26 25 ?_
    refine yMg 27 1 5 false ?_
    refine yFg 28 49 8 1 2 5 false ?_
    replace hb := hb.t s_22
    refine nS (kg 29 (.load 47 (.tmp 28)) 5 false) rfl rfl trivial (val_loadOwnAgg (n := 2) (vs := encR (l[k]'hkl).B) hb.at_ (by kernel_rfl) (by kernel_rfl) rfl rfl rfl) ?_
    replace hF := hF.st s_22; replace hs0 := hs0.t s_22
    refine cT (kg 30 (.call { callee := .value (.func 61), args := #[(.tmp 27), (.tmp 29)], argTypes := #[53, 47] }) 5 false) rfl rfl (ent Tryz.call61 rfl) (contains_ok (c := (l[k]'hkl).B) hF hs0) ?_
    rintro vw25 w25 ⟨rfl, s_23⟩
    rw [any_dec, decide_eq_false hB]
    refine yV (kg 31 (.unOp .not 4 (.tmp 30)) 5 false) (fun _ => val_not rfl) ?_
    refine yOf 32 26 31 ?_
    refine Sch.nil (run_cT 32 (run_ex 3 ?_))
    refine run_pl [yy 0, yy 1] ?_
    refine yI 63 3 17 1 ?_
    refine yM 17 63 ?_
    refine Sch.nil ?_
    replace hT := (((hT.t s_2).t s_3).t s_22).t s_23; replace hl := (((hl.t s_2).t s_3).t s_22).t s_23; replace hx := (((hx.t s_2).t s_3).t s_22).t s_23; replace hy := (((hy.t s_2).t s_3).t s_22).t s_23; replace hF := hF.st s_23; replace hs0 := hs0.t s_23
    refine kp (sub_cons 1 rfl rfl (sub_cons 2 rfl rfl (sub_cons 5 rfl rfl (sub_cons 6 rfl rfl (sub_cons 15 rfl rfl (sub_cons 16 rfl rfl (sub_cons 17 rfl (eq_int (by simp)) (sub_nil _)))))))) (next2 (k + 1, g, zs, vy, Cw4) _ ⟨(by first | omega | (simp only; omega)), (by first | omega | (simp only; omega)), (by first | omega | (simp only; omega)), (fun e => by
         obtain ⟨h1, h2⟩ := hgf e
         exact ⟨h1, fun i hi hl' a b => by
           simp only at hi
           by_cases e2 : i = k
           · subst e2; first | exact absurd a hA | exact absurd b hB
           · exact h2 i (by omega) hl' a b⟩), hF, hT, hl, hs0, hx, hy⟩ (by first | omega | (simp only; omega)))
   refine run_pl [yy 0, yy 1, nn 2, nn 3, yy 4, yy 5, yy 6, yy 7, nn 8, nn 9, yy 10, yy 11] ?_
   refine yM 21 1 ?_
   refine yF 22 49 8 0 0 ?_
   refine nS (kq 23 (.load 47 (.tmp 22))) rfl rfl trivial (val_loadOwnAgg (n := 2) (vs := encR (l[k]'hkl).A) hb.at_ (by kernel_rfl) (by kernel_rfl) rfl rfl rfl) ?_
   replace hs0 := (hs0.t s_2).t s_3; replace hF := hF.st s_3
   refine cG 24 61 [21, 23] [53, 47] Tryz.call61 rfl (contains_ok (c := (l[k]'hkl).A) hF hs0) ?_
   rintro vw26 w26 ⟨rfl, s_24⟩
   rw [any_dec, decide_eq_false hA]
   refine yV (kq 25 (.unOp .not 4 (.tmp 24))) (fun _ => val_not rfl) ?_
   refine yM 26 25 ?_
   refine pX 27 5 false ?_
   refine pX 28 5 false ?_
   refine pW (kg 29 (.load 47 (.tmp 28)) 5 false) rfl rfl trivial ?_
   refine pW (kg 30 (.call { callee := .value (.func 61), args := #[(.tmp 27), (.tmp 29)], argTypes := #[53, 47] }) 5 false) rfl rfl trivial ?_
   refine pX 31 5 false ?_
   refine yOt 32 26 31 ?_
   refine Sch.nil (run_cT 32 (run_ex 3 ?_))
   refine run_pl [yy 0, yy 1] ?_
   refine yI 63 3 17 1 ?_
   refine yM 17 63 ?_
   refine Sch.nil ?_
   replace hT := ((hT.t s_2).t s_3).t s_24; replace hl := ((hl.t s_2).t s_3).t s_24; replace hx := ((hx.t s_2).t s_3).t s_24; replace hy := ((hy.t s_2).t s_3).t s_24; replace hF := hF.st s_24; replace hs0 := hs0.t s_24
   refine kp (sub_cons 1 rfl rfl (sub_cons 2 rfl rfl (sub_cons 5 rfl rfl (sub_cons 6 rfl rfl (sub_cons 15 rfl rfl (sub_cons 16 rfl rfl (sub_cons 17 rfl (eq_int (by simp)) (sub_nil _)))))))) (next2 (k + 1, g, zs, vy, Cw4) _ ⟨(by first | omega | (simp only; omega)), (by first | omega | (simp only; omega)), (by first | omega | (simp only; omega)), (fun e => by
        obtain ⟨h1, h2⟩ := hgf e
        exact ⟨h1, fun i hi hl' a b => by
          simp only at hi
          by_cases e2 : i = k
          · subst e2; first | exact absurd a hA | exact absurd b hB
          · exact h2 i (by omega) hl' a b⟩), hF, hT, hl, hs0, hx, hy⟩ (by first | omega | (simp only; omega)))
  have hkl : k = l.length := by omega
  refine run_ex 2 ?_
  refine run_inBlock ?_
  by_cases hgg : g = true
  ·
   have hlt := hgr hgg
   refine kp (sr 1 (sr 2 (sr 5 (sr 6 (sub_nil _))))) (next1 (g, zs, vy, C2) _ ⟨hR2, (fun e => by rw [hgg] at e; cases e), hF, hT, hl, hs0, hx, hy⟩ (by simp only [hgg]; have := hR2.len; simp; omega))
  obtain ⟨hz1, hz2⟩ := hgf (by simpa using hgg)
  refine kp (sub_cons 1 rfl rfl (sub_cons 2 rfl rfl (sub_cons 5 rfl rfl (sub_cons 6 rfl rfl (sub_nil _))))) (next1 (g, zs, vy, C2) _ ⟨hR2, (fun _ x hx a b => by
        obtain ⟨i, hi, rfl⟩ := List.getElem_of_mem hx
        rw [hz1]; exact hz2 i (by omega) hi a b), hF, hT, hl, hs0, hx, hy⟩ (by simp only [hgg]; rw [hz1]; simp))
 subst h13
 refine run_ex 0 ?_
 refine run_sq (run_pl [yy 0, yy 1, yy 2, yy 3, yy 4, yy 5] ?_)
 refine yM 64 5 ?_
 refine yS (kq 65 (.call { callee := .builtin .len, args := #[(.tmp 64)], argTypes := #[53] })) rfl rfl (fun w' hS => hy.lenV rfl Tryz.underlying53 w' ) ?_
 refine yM 66 1 ?_
 refine yS (kq 67 (.call { callee := .builtin .len, args := #[(.tmp 66)], argTypes := #[53] })) rfl rfl (fun w' hS => hs0.lenV rfl Tryz.underlying53 w' ) ?_
 refine yV (kq 68 (.binOp .eql 3 (.tmp 65) (.tmp 67) 3)) (fun _ => val_is (val_eql rfl rfl) (show _ = Value.bool (joinB l s) from congrArg Value.bool (by rw [Bool.eq_iff_iff, decide_eq_true_iff]; exact hR.fin hn (hg rfl)))) ?_
 refine yA 4 68 ?_
 refine Sch.nil ?_
 refine rt1 Tryz.func95 Tryz.results95 ?_
 exact ⟨rfl, hT.out1 (by decide)⟩
end
end Go.Proofs.YtdmgmlmlielfbaaGreat
