/- Steps through functions of the program. -/
import Derived.Test.YtdmgmlmlielfbaaGreatJE8
import Derived.Test.YtdmgmlmlielfbaaGreatL2
set_option linter.unusedVariables false
set_option linter.unusedSimpArgs false
set_option maxRecDepth 100000
set_option maxHeartbeats 4000000
namespace Go.Proofs.YtdmgmlmlielfbaaGreat
open Go.K Go.K.Rep
noncomputable section
namespace F127
def c0 := bodyOf Tryz.f127
def o1 := rops (cl (cr c0))
end F127
theorem place1_ok {w₀ : World} {C : Nat → Nat} {ds : List Dcs} {vb vm vr vs vbest : Value} {fd : Bool} {va : Int} {x a : Couple} {b b1 b2 : Nat} (hF : Lim w₀ C) (hap : ApM w₀ (Mc C) ds vm) (h0 : w₀.heap[b]? = some (.cells [vb, vm, vr, vs, .bool fd, vbest, .int .i64 va].toArray 128)) (h1 : w₀.heap[b1]? = some (.cells [Value.pointer (some ⟨b, 0, none⟩)].toArray 126)) (h2 : w₀.heap[b2]? = some (.cells (encR a).toArray 47)) : Calls Tryz.prog 127 #[kvC x, .pointer (some ⟨b1, 0, none⟩), .pointer (some ⟨b2, 0, none⟩)] w₀ (Ret fun v w' => v = .bool (barB ds x a) ∧ Stp [] w₀ C w' C) := by
 have hF0 := hF
 have hT := Stp.refl [2, 3, 4, 5, 6, 7, 8, 9] w₀ (col1 C)
 replace hF := hF.col1
 replace hap : ApM w₀ (Mc (col1 C)) ds vm := by rw [Mc_col1]; exact hap
 replace h0 := Low.of h0 C
 replace h1 := Low.of h1 C
 replace h2 := Low.of h2 C
 refine c_st F127.c0 12 [kvC x, .pointer (some ⟨b1, 0, none⟩), .pointer (some ⟨b2, 0, none⟩)] Tryz.func127 ?_
 show Run _ _ _ _ [(0, kvC x), (1, .pointer (some ⟨b1, 0, none⟩)), (2, .pointer (some ⟨b2, 0, none⟩))] _ _
 refine run_sq (run_pl [nn 0, yy 1] ?_)
 refine aT (kq 3 (.box 47 (.tmp 0))) rfl rfl (a_box (cs := encR x) hF 3 rfl rfl) ?_
 rintro _ w1 ⟨Cw1, bw1, rfl, s_1, hb, hF⟩
 refine yAc 4 (.bool false) ?_
 refine Sch.nil (run_sq ?_)
 refine run_draw (id := 1) (ops := F127.o1) [] (Cw1) [yy 0, yy 1, yy 2, yy 3, yy 4, yy 5, nn 6, yy 7] Tryz_mixed (by kernel_rfl) (by kernel_rfl) (by kernel_rfl) ?_
 intro w2 s_2
 have hR := Stp.refl [] w2 (Cw1)
 replace h1 := (h1.t s_1).t s_2
 refine yS (kq 5 (.load 126 (.tmp 1))) rfl rfl (fun w' hS => val_loadOwn (h1.sy hS) (by kernel_rfl) rfl rfl) ?_
 refine yN 6 5 ?_
 refine yF 7 128 6 0 0 ?_
 replace h0 := (h0.t s_1).t s_2
 refine yS (kq 8 (.load 75 (.tmp 7))) rfl rfl (fun w' hS => val_loadOwnAgg (n := 2) (vs := [vb, vm]) (h0.stay hS (by decide)) (by kernel_rfl) (by kernel_rfl) rfl rfl rfl) ?_
 replace hb := hb.t s_2
 refine yS (kq 9 (.load 47 (.tmp 3))) rfl rfl (fun w' hS => val_loadOwnAgg (n := 2) (vs := encR x) (hb.stay hS (by decide)) (by kernel_rfl) (by kernel_rfl) rfl rfl rfl) ?_
 replace h2 := (h2.t s_1).t s_2
 refine yS (kq 10 (.load 47 (.tmp 2))) rfl rfl (fun w' hS => val_loadOwnAgg (n := 2) (vs := encR a) (h2.stay hS (by decide)) (by kernel_rfl) (by kernel_rfl) rfl rfl rfl) ?_
 replace hap := (hap.t s_1).t s_2; replace hF := hF.st s_2
 refine cF 11 80 [8, 9, 10] [75, 47, 47] Tryz.call80 rfl (bars_ok (a := x) (b := a) hF hap) ?_
 rintro vw3 w3 ⟨rfl, s_3⟩
 refine ⟨(hR.trans s_3 (by simp)).ext, ?_⟩
 refine yA 4 11 ?_
 refine Sch.nil ?_
 refine rt1 Tryz.func127 Tryz.results127 ?_
 replace hT := ((hT.t s_1).t s_2).t s_3
 exact ⟨rfl, hT.out1 (by decide)⟩
namespace F89
def c0 := bodyOf Tryz.f89
def c15 := (cr (cl (cr (cr (cr c0)))))
def c24 := (cl (cr (cr (cl (cl c15)))))
def o8 := rops (cl (cr (cr (cl c24))))
def c37 := (cr (cr (cr (cr (cl c24)))))
def o10 := rops c37
def c40 := (cl (cr (cr (cr (cr c0)))))
def o12 := rops c40
def c41 := (cr (cr (cr (cr (cr c0)))))
def o14 := rops (cr c41)
end F89
theorem place_ok {l : List Bond} {ds : List Dcs} {refs : List Couple} {vb vm vr : Value} {b : Nat} (hrfn : refs.Nodup) (hrfl : refs.length ≤ 1000) (hw : ∀ x ∈ l, 1 ≤ x.w ∧ x.w ≤ 1048576) (hl4 : l.length ≤ 4096) :
    ∀ (m i : Nat) (w₀ : World) (C : Nat → Nat) (rows : List (List Couple)) (st : BestSt), refs.length = i + m → PI ds (refs.take i) rows → Lim w₀ C → RV w₀ (Mc C) l vb → RV w₀ (Mc C) refs vr → ApM w₀ (Mc C) ds vm → SAt 128 53 47 w₀ C b vb vm vr rows st →
    Calls Tryz.prog 89 #[.pointer (some ⟨b, 0, none⟩), .int .i64 (i : Int)] w₀ (Ret fun v w' => ∃ C', v = .tuple #[] ∧ Stp [3, 4, 5] w₀ C w' C' ∧ Lim w' C' ∧ SAt 128 53 47 w' C' b vb vm vr rows (placeF l ds (refs.drop i) rows st)) := by
 intro m
 induction m using Nat.strongRecOn
 rename_i m ih
 intro i w₀ C rows st hlm hPI hF hl hrf hap hS
 obtain ⟨vs, us, vbest, hx, ho, hr, hbest⟩ := hS
 have hF0 := hF
 have hT := Stp.refl [3, 4, 5, 6, 7] w₀ (colP C)
 replace hF := hF.colP
 replace hl := hl.colP
 replace hrf := hrf.colP
 replace hap := hap.colP
 replace hx := hx.colP (.inl rfl)
 replace ho := ho.colP (.inr (.inl rfl))
 replace hr := hr.colP (.inr (.inr rfl))
 replace hbest := hbest.colP
 have hrl := hr.len
 have hrows0 := hPI.rows_len
 have htl : (refs.take i).length ≤ refs.length := by rw [List.length_take]; omega
 have hrows : rows.length ≤ 1000 := by omega
 have hnd : ∀ s ∈ rows, s.Nodup := fun s hs => hrfn.sublist ((hPI.sub s hs).trans (List.take_sublist _ _))
 have hrlen : ∀ s ∈ rows, s.length ≤ 1000 := fun s hs => by have := (hPI.sub s hs).length_le; omega
 refine c_st F89.c0 112 [.pointer (some ⟨b, 0, none⟩), .int .i64 (i : Int)] Tryz.func89 ?_
 show Run _ _ _ _ [(0, .pointer (some ⟨b, 0, none⟩)), (1, .int .i64 (i : Int))] _ _
 refine run_sq (run_pl [nn 0] ?_)
 refine aT (kq 2 (.box 126 (.tmp 0))) rfl rfl (a_box (cs := [Value.pointer (some ⟨b, 0, none⟩)]) hF 6 rfl rfl) ?_
 rintro _ w1 ⟨Cw1, bw1, rfl, s_1, hs6, hF⟩
 replace hr := hr.st s_1 (by first | decide | (simp <;> omega)) (by first | decide | (simp <;> omega))
 refine Sch.nil (run_sq (run_sq (run_pl [yy 0, nn 1, yy 2, yy 3, nn 4, yy 5, yy 6] ?_)))
 refine yM 6 1 ?_
 refine nO 7 126 2 hs6.at_ rfl rfl ?_
 refine yN 8 7 ?_
 refine yF 9 128 8 1 2 ?_
 replace hx := hx.t s_1
 refine nO 10 53 9 hx.at_ rfl rfl ?_
 replace hrf := hrf.t s_1
 refine yS (kq 11 (.call { callee := .builtin .len, args := #[(.tmp 10)], argTypes := #[53] })) rfl rfl (fun w' hS => hrf.lenV rfl Tryz.underlying53 w' ) ?_
 refine yV (kq 12 (.binOp .eql 3 (.tmp 6) (.tmp 11) 3)) (fun _ => val_eql rfl rfl) ?_
 refine Sch.nil ?_
 refine run_i 12 rfl (fun h12 => ?_) (fun h12 => ?_)
 ·
  obtain rfl : m = 0 := by omega
  refine run_sq (run_pl [nn 0, nn 1] ?_)
  refine nO 13 126 2 hs6.at_ rfl rfl ?_
  replace hl := hl.t s_1; replace ho := ho.t s_1; replace hbest := hbest.t s_1
  refine cG 14 126 [13] [126] Tryz.call126 rfl (finish_ok hF hl ⟨vs, us, vbest, hx, ho, hr, hbest⟩ hnd hrlen hrows hw hl4) ?_
  rintro _ w2 ⟨Cw2, rfl, s_2, hF, hS⟩
  obtain ⟨vs, us, vbest, hx, ho, hr, hbest⟩ := hS
  refine Sch.nil ?_
  refine run_ret0 (by kernel_rfl) Tryz.func89 Tryz.results89 ?_
  rw [show refs.drop i = [] from List.drop_eq_nil_of_le (by omega), placeF_nil]
  replace hT := (hT.t s_1).t s_2
  exact ⟨_, rfl, hT.outP, outP_lim hT hF0 hF, ⟨_, _, _, hx.outP hT (.inl rfl), ho.outP hT hF0 (.inr (.inl rfl)), hr.outP hT hF0 (.inr (.inr rfl)), hbest.outP hT hF0⟩⟩
 have hir : i < refs.length := by omega
 obtain ⟨m, rfl⟩ : ∃ q, m = q + 1 := ⟨m - 1, by omega⟩
 have hdr : refs.drop i = refs[i] :: refs.drop (i + 1) := List.drop_eq_getElem_cons hir
 refine run_sk (run_sq (run_pl [nn 0, yy 1, yy 2, nn 3, yy 4, yy 5, nn 6, nn 7, nn 8] ?_))
 refine nO 15 126 2 hs6.at_ rfl rfl ?_
 refine yN 16 15 ?_
 refine yF 17 128 16 1 2 ?_
 refine nO 18 53 17 hx.at_ rfl rfl ?_
 refine yM 19 1 ?_
 refine iR 47 20 53 18 19 hrf rfl (h := ?_)
 intro b20 o20 h20
 try simp only [Int.toNat_natCast] at h20
 refine lNA (kq 21 (.load 47 (.tmp 20))) rfl rfl trivial h20 (by kernel_rfl) (by kernel_rfl) rfl rfl ?_
 intro v21 g21
 obtain rfl := rv_couple.1 g21
 refine aT (kq 4 (.alloc 47)) rfl rfl (a_alloc (cs := [.int .i64 0, .int .i64 0]) hF 7 (by kernel_rfl)) ?_
 rintro _ w3 ⟨Cw3, bw3, rfl, s_3, hrc, hF⟩
 replace hr := hr.st s_3 (by first | decide | (simp <;> omega)) (by first | decide | (simp <;> omega))
 refine aU (k0 (.store 47 (.tmp 4) (.tmp 21))) rfl (a_storeAll (vs := encR ((refs[i]'hir))) (n := 2) rfl rfl (by kernel_rfl) rfl rfl (by intro u hu; simp only [encR, List.mem_cons, List.not_mem_nil, or_false] at hu; rcases hu with rfl | rfl <;> rfl) hrc rfl) ?_
 rintro _ w4 ⟨rfl, s_4, hrc⟩
 replace hr := hr.st s_4 (by first | decide | (simp <;> omega)) (by first | decide | (simp <;> omega))
 refine Sch.nil (run_sq (run_sq (run_pl [nn 0, yy 1, yy 2, nn 3, yy 4, yy 5] ?_)))
 replace hs6 := (hs6.t s_3).t s_4
 refine nO 22 126 2 hs6.at_ rfl rfl ?_
 refine yN 23 22 ?_
 refine yF 24 128 23 2 3 ?_
 replace hx := (hx.t s_3).t s_4
 refine nO 25 25 24 hx.at_ rfl rfl ?_
 replace ho := ((ho.t s_1).t s_3).t s_4
 refine yS (kq 26 (.call { callee := .builtin .len, args := #[(.tmp 25)], argTypes := #[25] })) rfl rfl (fun w' hS => ho.lenV rfl Tryz.underlying25 w' ) ?_
 refine yC 27 (.int .i64 0) ?_
 refine Sch.nil (run_bk 0 ?_)
 refine run_lp (ι := Nat × Value × (List Value) × Value × (Nat → Nat)) (I := fun x w => x.1 ≤ rows.length ∧ Lim w x.2.2.2.2 ∧ Stp [3, 4, 5, 6, 7] w₀ (colP C) w x.2.2.2.2 ∧ RV w (Mc x.2.2.2.2) l vb ∧ RV w (Mc x.2.2.2.2) refs vr ∧ ApM w (Mc x.2.2.2.2) ds vm ∧ OwnB w x.2.2.2.2 6 bw1 (.cells [Value.pointer (some ⟨b, 0, none⟩)].toArray 126) ∧ OwnB w x.2.2.2.2 7 bw3 (.cells (encR (refs[i]'hir)).toArray 47) ∧ OwnB w x.2.2.2.2 3 b (.cells [vb, vm, vr, x.2.1, .bool (placeK l ds (refs[i]'hir) (refs.drop (i + 1)) rows st x.1).found, x.2.2.2.1, .int .i64 (placeK l ds (refs[i]'hir) (refs.drop (i + 1)) rows st x.1).val].toArray 128) ∧ OwnL w x.2.2.2.2 4 53 x.2.1 (x.2.2.1.map Sv.mk) ∧ RwS w x.2.2.2.2 5 47 x.2.2.1 rows ∧ RV w (Mc x.2.2.2.2) (placeK l ds (refs[i]'hir) (refs.drop (i + 1)) rows st x.1).best x.2.2.2.1) (e := fun x => [(1, .int .i64 (i : Int)), (2, .pointer (some ⟨bw1, 0, none⟩)), (4, .pointer (some ⟨bw3, 0, none⟩)), (26, .int .i64 rows.length), (27, .int .i64 x.1)]) (m := fun x => rows.length - x.1) (x₀ := (0, vs, us, vbest, Cw3)) (sr 1 (sr 2 (sr 4 (sub_cons 26 rfl (eq_int (by simp only [List.length_map]; omega)) (sr 27 (sub_nil _)))))) ?_ ?_
 ·
   replace hT := ((hT.t s_1).t s_3).t s_4; replace hl := ((hl.t s_1).t s_3).t s_4; replace hap := ((hap.t s_1).t s_3).t s_4; replace hbest := ((hbest.t s_1).t s_3).t s_4; replace hrf := (hrf.t s_3).t s_4; replace hF := hF.st s_4
   exact ⟨Nat.zero_le _, hF, hT, hl, hrf, hap, hs6, hrc, hx, ho, hr, hbest⟩
 intro ⟨k, vs, us, vbest, C1⟩ w5 hI next1
 obtain ⟨hk, hF, hT, hl, hrf, hap, hs6, hrc, hx, ho, hr, hbest⟩ := hI
 try simp only at hk hF hT hl hrf hap hs6 hrc hx ho hr hbest
 show Run _ _ _ _ [(1, .int .i64 (i : Int)), (2, .pointer (some ⟨bw1, 0, none⟩)), (4, .pointer (some ⟨bw3, 0, none⟩)), (26, .int .i64 rows.length), (27, .int .i64 k)] _ _
 have hrl := hr.len
 refine run_sq (run_pl [yy 0] ?_)
 refine yL 28 3 27 26 ?_
 refine Sch.nil (run_sq ?_)
 refine run_i 28 rfl (fun h28 => ?_) (fun h28 => ?_)
 ·
  have hku : k < us.length := by omega
  have hkr : k < rows.length := by omega
  have hlk := hrlen _ (List.getElem_mem hkr)
  refine run_sk (run_sq (run_bk 1 (run_sq (run_pl [yy 0, yy 1] ?_))))
  refine yM 29 27 ?_
  refine yA 5 29 ?_
  refine Sch.nil (run_sq (run_sq (run_pl [nn 0, yy 1, yy 2, nn 3, yy 4, yy 5, nn 6, yy 7, nn 8] ?_)))
  refine nO 30 126 2 hs6.at_ rfl rfl ?_
  refine yN 31 30 ?_
  refine yF 32 128 31 2 3 ?_
  refine nO 33 25 32 hx.at_ rfl rfl ?_
  refine yM 34 5 ?_
  refine oR 53 35 25 33 34 ho rfl (by first | omega | (simp only [List.length_map]; omega)) (h := ?_)
  intro g35 hg35
  try simp only [Int.toNat_natCast]
  refine oN (kq 36 (.load 53 (.tmp 35))) rfl rfl trivial ho hg35 (by first | omega | (simp only [List.length_map]; omega)) (by kernel_rfl) rfl rfl ?_
  intro v36 g36
  try simp only [Int.toNat_natCast] at g36
  obtain rfl : v36 = us[k]'hku := by have := (rv_sv.1 g36).1; simpa using this
  clear g36
  refine yV (kq 37 (.makeFunc (.func 127) #[] #[(.tmp 2), (.tmp 4)])) (fun _ => val_makeFunc rfl rfl) ?_
  have hcl : ∀ w1, Stp [] _ C0 w1 C0 → ∀ x ∈ rows[k]'hkr, Calls Tryz.prog 127 ([kvC x] ++ #[Value.pointer (some ⟨bw1, 0, none⟩), Value.pointer (some ⟨bw3, 0, none⟩)].toList).toArray w1 (Ret fun v w' => v = .bool (barB ds x (refs[i]'hir)) ∧ Stp [] w1 C0 w' C0) := fun w1 h1 x _ => place1_ok (lim00 _) (hap.c0.st h1 (by decide)) (h1.same hx.at_) (h1.same hs6.at_) (h1.same hrc.at_)
  refine cG 38 77 [36, 37] [53, 114] Tryz.call77 rfl (containsR_ok (C := C0) (p := fun x => barB ds x (refs[i]'hir)) (nf := 127) (caps := #[Value.pointer (some ⟨bw1, 0, none⟩), Value.pointer (some ⟨bw3, 0, none⟩)]) (fun args w => Tryz.call127 args w) hcl (lim00 _) (hr.rv0 hku hkr (by omega))) ?_
  rintro _ w6 ⟨rfl, s_5⟩
  replace s_5 := s_5.re (C1)
  replace hr := hr.st s_5 (by first | decide | (simp <;> omega)) (by first | decide | (simp <;> omega))
  refine Sch.nil ?_
  refine run_c 38 rfl (fun h38 => ?_) (fun h38 => ?_)
  ·
   have hok : okSet ds (rows[k]'hkr) (refs[i]'hir) = false := by rw [okSet_any, h38]; rfl
   have hst := placeK_no (l := l) (st := st) hkr hok (refs.drop (i + 1))
   refine run_ex 1 ?_
   refine run_pl [yy 0, yy 1] ?_
   refine yI 82 3 27 1 ?_
   refine yM 27 82 ?_
   refine Sch.nil ?_
   replace hF := hF.st s_5; replace hT := hT.t s_5; replace hl := hl.t s_5; replace hrf := hrf.t s_5; replace hap := hap.t s_5; replace hs6 := hs6.t s_5; replace hrc := hrc.t s_5; replace hx := hx.t s_5; replace ho := ho.t s_5; replace hbest := hbest.t s_5
   refine kp (sr 1 (sr 2 (sr 4 (sr 26 (sub_cons 27 rfl (eq_int (by simp)) (sub_nil _)))))) (next1 (k + 1, vs, us, vbest, C1) _ ⟨(by first | omega | (simp only; omega)), hF, hT, hl, hrf, hap, hs6, hrc, (by simp only; rw [hst]; exact hx), ho, hr, (by simp only; rw [hst]; exact hbest)⟩ (by first | omega | (simp only; omega)))
  have hok : okSet ds (rows[k]'hkr) (refs[i]'hir) = true := by rw [okSet_any]; simpa using h38
  have hst := placeK_yes (l := l) (st := st) hkr hok (refs.drop (i + 1))
  have hPI2 := hPI.put' hir hkr hok
  refine run_sk (run_sq ?_)
  refine run_draw (id := 8) (ops := F89.o8) [5] (C1) [yy 0, yy 1, yy 2, yy 3, yy 4, yy 5, yy 6, yy 7, yy 8, yy 9, yy 10, yy 11, yy 12, nn 13, nn 14, yy 15, nn 16] Tryz_mixed (by kernel_rfl) (by kernel_rfl) (by kernel_rfl) ?_
  intro w7 s_6
  replace hr := hr.st s_6 (by first | decide | (simp <;> omega)) (by first | decide | (simp <;> omega))
  have hR := Stp.refl [5] w7 (C1)
  replace hs6 := (hs6.t s_5).t s_6
  refine yS (kq 39 (.load 126 (.tmp 2))) rfl rfl (fun w' hS => val_loadOwn (hs6.sy hS) (by kernel_rfl) rfl rfl) ?_
  refine yN 40 39 ?_
  refine yF 41 128 40 2 3 ?_
  replace hx := (hx.t s_5).t s_6
  refine yS (kq 42 (.load 25 (.tmp 41))) rfl rfl (fun w' hS => val_loadOwn (hx.sy hS) (by kernel_rfl) rfl rfl) ?_
  refine yM 43 5 ?_
  refine yS (kq 44 (.load 126 (.tmp 2))) rfl rfl (fun w' hS => val_loadOwn (hs6.sy hS) (by kernel_rfl) rfl rfl) ?_
  refine yN 45 44 ?_
  refine yF 46 128 45 2 3 ?_
  refine yS (kq 47 (.load 25 (.tmp 46))) rfl rfl (fun w' hS => val_loadOwn (hx.sy hS) (by kernel_rfl) rfl rfl) ?_
  refine yM 48 5 ?_
  replace ho := (ho.t s_5).t s_6
  refine oR 53 49 25 47 48 ho rfl (by first | omega | (simp only [List.length_map]; omega)) (h := ?_)
  intro g49 hg49
  try simp only [Int.toNat_natCast]
  refine oS (I := [5]) (kq 50 (.load 53 (.tmp 49))) rfl rfl ho hg49 (fun w' hS => ho.sy hg49 hS) (by first | omega | (simp only [List.length_map]; omega)) (by kernel_rfl) rfl rfl ?_
  intro v50 g50
  try simp only [Int.toNat_natCast] at g50
  obtain rfl : v50 = us[k]'hku := by have := (rv_sv.1 g50).1; simpa using this
  clear g50
  replace hrc := (hrc.t s_5).t s_6
  refine yS (kq 51 (.load 47 (.tmp 4))) rfl rfl (fun w' hS => val_loadOwnAgg (n := 2) (vs := encR (refs[i]'hir)) (hrc.stay hS (by decide)) (by kernel_rfl) (by kernel_rfl) rfl rfl rfl) ?_
  replace hF := (hF.st s_5).st s_6
  refine aS (kq 52 (.buildSlice 53 1 #[(0, (.tmp 51))])) rfl rfl (a_buildSlice (ys := ([(refs[i]'hir)] : List Couple)) (e := 47) (bytes := 16) hF (by kernel_rfl) rfl (by decide) (by decide) ⟨rfl, ⟨_, rfl, rv_couple.2 rfl⟩, trivial⟩) ?_
  rintro v52 w8 ⟨s_7, g52, hF⟩
  refine ⟨(hR.trans s_7 (by simp)).ext, ?_⟩
  replace hr := hr.st s_7 (by first | decide | (simp <;> omega)) (by first | decide | (simp <;> omega))
  refine aS (kq 53 (.call { callee := .builtin .append, args := #[(.tmp 50), (.tmp 52)], argTypes := #[53, 53] })) rfl rfl (hr.append (e := 47) (bytes := 16) hF (by decide) hku hkr rfl rfl (by kernel_rfl) (by decide) g52 (by simp only [List.length_cons, List.length_nil]; omega) (by simp only [List.length_cons, List.length_nil]; omega)) ?_
  rintro v53 w9 ⟨Cw9, s_8, hF, hr⟩
  replace hR := hR.t s_7
  refine ⟨(hR.trans s_8 (by simp)).ext, ?_⟩
  have hone := hr.one k (by rw [List.length_set]; exact hku)
  rw [List.getElem_set, if_pos rfl] at hone
  replace ho := (ho.t s_7).t s_8
  refine oR 53 54 25 42 43 ho rfl (by first | omega | (simp only [List.length_map]; omega)) (h := ?_)
  intro g54 hg54
  try simp only [Int.toNat_natCast]
  refine Sch.free rfl ?_
  refine aU (k0 (.store 53 (.tmp 54) (.tmp 53))) rfl (a_storeO ho hg54 (by first | omega | (simp only [List.length_map]; omega)) rfl rfl (by kernel_rfl) ((rv_sv (x := ⟨v53⟩)).2 ⟨rfl, hone⟩)) ?_
  rintro _ w10 ⟨rfl, s_9, ho⟩
  replace hr := hr.st s_9 (by first | decide | (simp <;> omega)) (by first | decide | (simp <;> omega))
  refine Sch.nil ?_
  rw [← List.map_set] at ho
  refine run_sq (run_pl [nn 0, yy 1, yy 2, nn 3] ?_)
  replace hs6 := ((hs6.t s_7).t s_8).t s_9
  refine nO 55 126 2 hs6.at_ rfl rfl ?_
  refine yM 56 1 ?_
  refine yV (kq 57 (.binOp .add 3 (.tmp 56) (.const (.int .i64 1)) 3)) (fun _ => val_is (val_addi rfl rfl (by omega) (by omega)) (congrArg (Value.int .i64) (show (i : Int) + 1 = ((i + 1 : Nat) : Int) from by omega))) ?_
  replace hl := ((((hl.t s_5).t s_6).t s_7).t s_8).t s_9; replace hrf := ((((hrf.t s_5).t s_6).t s_7).t s_8).t s_9; replace hap := ((((hap.t s_5).t s_6).t s_7).t s_8).t s_9; replace hbest := ((((hbest.t s_5).t s_6).t s_7).t s_8).t s_9; replace hx := ((hx.t s_7).t s_8).t s_9; replace hF := hF.st s_9
  refine cG 58 89 [55, 57] [126, 3] Tryz.call89 rfl (ih m (by omega) (i + 1) _ Cw9 _ _ (by omega) hPI2 hF hl hrf hap ⟨_, _, _, hx, ho, hr, hbest⟩) ?_
  rintro _ w11 ⟨Cw11, rfl, s_10, hF, hS⟩
  clear hx ho hr hbest
  obtain ⟨vs, us, vbest, hx, ho, hr, hbest⟩ := hS
  have hrl := hr.len
  refine Sch.nil ?_
  refine run_draw (id := 10) (ops := F89.o10) [] (Cw11) [yy 0, yy 1, yy 2, yy 3, yy 4, yy 5, yy 6, yy 7, yy 8, yy 9, yy 10, yy 11, yy 12, yy 13, yy 14, yy 15, yy 16, yy 17, yy 18, yy 19, yy 20, yy 21, yy 22, nn 23] Tryz_mixed (by kernel_rfl) (by kernel_rfl) (by kernel_rfl) ?_
  intro w12 s_11
  replace hr := hr.st s_11 (by first | decide | (simp <;> omega)) (by first | decide | (simp <;> omega))
  have hR := Stp.refl [] w12 (Cw11)
  simp only [List.length_set] at hrl
  have hku2 : k < us.length := by omega
  have hkr2 : k < (rows.set k ((rows[k]'hkr) ++ [(refs[i]'hir)])).length := by rw [List.length_set]; exact hkr
  have hlk2 : ((rows.set k ((rows[k]'hkr) ++ [(refs[i]'hir)]))[k]'hkr2).length = (rows[k]'hkr).length + 1 := by rw [List.getElem_set, if_pos rfl]; simp
  replace hs6 := (hs6.t s_10).t s_11
  refine yS (kq 59 (.load 126 (.tmp 2))) rfl rfl (fun w' hS => val_loadOwn (hs6.sy hS) (by kernel_rfl) rfl rfl) ?_
  refine yN 60 59 ?_
  refine yF 61 128 60 2 3 ?_
  replace hx := hx.t s_11
  refine yS (kq 62 (.load 25 (.tmp 61))) rfl rfl (fun w' hS => val_loadOwn (hx.sy hS) (by kernel_rfl) rfl rfl) ?_
  refine yM 63 5 ?_
  refine yS (kq 64 (.load 126 (.tmp 2))) rfl rfl (fun w' hS => val_loadOwn (hs6.sy hS) (by kernel_rfl) rfl rfl) ?_
  refine yN 65 64 ?_
  refine yF 66 128 65 2 3 ?_
  refine yS (kq 67 (.load 25 (.tmp 66))) rfl rfl (fun w' hS => val_loadOwn (hx.sy hS) (by kernel_rfl) rfl rfl) ?_
  refine yM 68 5 ?_
  replace ho := ho.t s_11
  refine oR 53 69 25 67 68 ho rfl (by first | omega | (simp only [List.length_map]; omega)) (h := ?_)
  intro g69 hg69
  try simp only [Int.toNat_natCast]
  refine oS (I := []) (kq 70 (.load 53 (.tmp 69))) rfl rfl ho hg69 (fun w' hS => ho.sy hg69 hS) (by first | omega | (simp only [List.length_map]; omega)) (by kernel_rfl) rfl rfl ?_
  intro v70 g70
  try simp only [Int.toNat_natCast] at g70
  obtain rfl : v70 = us[k]'hku2 := by have := (rv_sv.1 g70).1; simpa using this
  clear g70
  refine yS (kq 71 (.load 126 (.tmp 2))) rfl rfl (fun w' hS => val_loadOwn (hs6.sy hS) (by kernel_rfl) rfl rfl) ?_
  refine yN 72 71 ?_
  refine yF 73 128 72 2 3 ?_
  refine yS (kq 74 (.load 25 (.tmp 73))) rfl rfl (fun w' hS => val_loadOwn (hx.sy hS) (by kernel_rfl) rfl rfl) ?_
  refine yM 75 5 ?_
  refine oR 53 76 25 74 75 ho rfl (by first | omega | (simp only [List.length_map]; omega)) (h := ?_)
  intro g76 hg76
  try simp only [Int.toNat_natCast]
  refine oS (I := []) (kq 77 (.load 53 (.tmp 76))) rfl rfl ho hg76 (fun w' hS => ho.sy hg76 hS) (by first | omega | (simp only [List.length_map]; omega)) (by kernel_rfl) rfl rfl ?_
  intro v77 g77
  try simp only [Int.toNat_natCast] at g77
  obtain rfl : v77 = us[k]'hku2 := by have := (rv_sv.1 g77).1; simpa using this
  clear g77
  refine yS (kq 78 (.call { callee := .builtin .len, args := #[(.tmp 77)], argTypes := #[53] })) rfl rfl (fun w' hS => (hr.rv0 hku2 hkr2 (by omega)).lenV rfl Tryz.underlying53 w') ?_
  refine yV (kq 79 (.binOp .sub 3 (.tmp 78) (.const (.int .i64 1)) 3)) (fun _ => val_subi rfl rfl (by omega) (by omega)) ?_
  refine hr.cutY (e' := 47) (kq 80 (.slice 53 (.tmp 70) none (some (.tmp 79)) none)) rfl rfl hku2 hkr2 rfl (by kernel_rfl) rfl (by omega) (by omega) (by omega) ?_
  intro v80 hr2
  rw [row_back hkr hkr2 rfl] at hr2
  clear hr
  have hr := hr2
  clear hr2
  have hone := hr.one k (by rw [List.length_set]; exact hku2)
  rw [List.getElem_set, if_pos rfl] at hone
  refine oR 53 81 25 62 63 ho rfl (by first | omega | (simp only [List.length_map]; omega)) (h := ?_)
  intro g81 hg81
  try simp only [Int.toNat_natCast]
  refine Sch.free rfl ?_
  refine aU (k0 (.store 53 (.tmp 81) (.tmp 80))) rfl (a_storeO ho hg81 (by first | omega | (simp only [List.length_map]; omega)) rfl rfl (by kernel_rfl) ((rv_sv (x := ⟨v80⟩)).2 ⟨rfl, hone⟩)) ?_
  rintro _ w13 ⟨rfl, s_12, ho⟩
  replace hr := hr.st s_12 (by first | decide | (simp <;> omega)) (by first | decide | (simp <;> omega))
  refine Sch.nil ?_
  rw [← List.map_set] at ho
  replace hbest := (hbest.t s_11).t s_12; replace hx := hx.t s_12
  rw [← hst] at hx hbest
  refine run_inBlock (run_pl [yy 0, yy 1] ?_)
  refine yI 82 3 27 1 ?_
  refine yM 27 82 ?_
  refine Sch.nil ?_
  replace hT := (((((((hT.t s_5).t s_6).t s_7).t s_8).t s_9).t s_10).t s_11).t s_12; replace hrc := (((((hrc.t s_7).t s_8).t s_9).t s_10).t s_11).t s_12; replace hl := ((hl.t s_10).t s_11).t s_12; replace hrf := ((hrf.t s_10).t s_11).t s_12; replace hap := ((hap.t s_10).t s_11).t s_12; replace hF := (hF.st s_11).st s_12; replace hs6 := hs6.t s_12
  refine kp (sr 1 (sr 2 (sr 4 (sr 26 (sub_cons 27 rfl (eq_int (by simp)) (sub_nil _)))))) (next1 (k + 1, vs, us.set k v80, vbest, Cw11) _ ⟨(by first | omega | (simp only; omega)), hF, hT, hl, hrf, hap, hs6, hrc, hx, ho, hr, hbest⟩ (by first | omega | (simp only; omega)))
 obtain rfl : k = rows.length := by omega
 refine run_ex 0 ?_
 refine run_sq ?_
 refine run_draw (id := 12) (ops := F89.o12) [4] (C1) [yy 0, yy 1, yy 2, yy 3, yy 4, yy 5, nn 6, nn 7, nn 8, yy 9, yy 10, nn 11] Tryz_mixed (by kernel_rfl) (by kernel_rfl) (by kernel_rfl) ?_
 intro w14 s_13
 replace hr := hr.st s_13 (by first | decide | (simp <;> omega)) (by first | decide | (simp <;> omega))
 have hR := Stp.refl [4] w14 (C1)
 have hlt := hr.lt
 replace hs6 := hs6.t s_13
 refine yS (kq 83 (.load 126 (.tmp 2))) rfl rfl (fun w' hS => val_loadOwn (hs6.sy hS) (by kernel_rfl) rfl rfl) ?_
 refine yS (kq 84 (.load 126 (.tmp 2))) rfl rfl (fun w' hS => val_loadOwn (hs6.sy hS) (by kernel_rfl) rfl rfl) ?_
 refine yN 85 84 ?_
 refine yF 86 128 85 2 3 ?_
 replace hx := hx.t s_13
 refine yS (kq 87 (.load 25 (.tmp 86))) rfl rfl (fun w' hS => val_loadOwn (hx.sy hS) (by kernel_rfl) rfl rfl) ?_
 replace hrc := hrc.t s_13
 refine yS (kq 88 (.load 47 (.tmp 4))) rfl rfl (fun w' hS => val_loadOwnAgg (n := 2) (vs := encR (refs[i]'hir)) (hrc.stay hS (by decide)) (by kernel_rfl) (by kernel_rfl) rfl rfl rfl) ?_
 replace hF := hF.st s_13
 refine aS (kq 89 (.buildSlice 53 1 #[(0, (.tmp 88))])) rfl rfl (a_buildOwn (ys := ([(refs[i]'hir)] : List Couple)) (e := 47) (bytes := 16) (j := 5) hF (by decide) (by kernel_rfl) rfl (by decide) (by decide) ⟨rfl, ⟨_, rfl, rv_couple.2 rfl⟩, trivial⟩) ?_
 rintro v89 w15 ⟨Cw15, s_14, hn89, hF, hfr⟩
 refine ⟨(hR.trans s_14 (by simp)).ext, ?_⟩
 replace hr := hr.st s_14 (by first | decide | (simp <;> omega)) (by first | decide | (simp <;> omega))
 have hone := hn89.one.2
 replace hr := hr.snoc (by decide) hn89 (hr.fresh hfr hlt)
 clear hlt hfr hn89
 refine aS (kq 90 (.buildSlice 25 1 #[(0, (.tmp 89))])) rfl rfl (a_buildSlice (ys := ([⟨v89⟩] : List Sv)) (e := 53) (bytes := 24) hF (by kernel_rfl) rfl (by decide) (by decide) ⟨rfl, ⟨_, rfl, rv_sv.2 ⟨rfl, hone⟩⟩, trivial⟩) ?_
 rintro v90 w16 ⟨s_15, g90, hF⟩
 replace hR := hR.t s_14
 refine ⟨(hR.trans s_15 (by simp)).ext, ?_⟩
 replace hr := hr.st s_15 (by first | decide | (simp <;> omega)) (by first | decide | (simp <;> omega))
 replace ho := ((ho.t s_13).t s_14).t s_15
 refine aS (kq 91 (.call { callee := .builtin .append, args := #[(.tmp 87), (.tmp 90)], argTypes := #[25, 25] })) rfl rfl (a_append (e := 53) (bytes := 24) hF (by decide) rfl rfl (by kernel_rfl) (by decide) ho g90 (by simp only [List.length_cons, List.length_nil, List.length_map]; omega) (by simp only [List.length_cons, List.length_nil, List.length_map]; omega)) ?_
 rintro v91 w17 ⟨Cw17, s_16, ho, hF⟩
 replace hR := hR.t s_15
 refine ⟨(hR.trans s_16 (by simp)).ext, ?_⟩
 replace hr := hr.st s_16 (by first | decide | (simp <;> omega)) (by first | decide | (simp <;> omega))
 refine yN 92 83 ?_
 refine yF 93 128 92 2 3 ?_
 refine Sch.free rfl ?_
 replace hx := ((hx.t s_14).t s_15).t s_16
 refine aU (k0 (.store 25 (.tmp 93) (.tmp 91))) rfl (a_store1 rfl rfl (by kernel_rfl) ho.one.1 ho.one.2 hx (by simp)) ?_
 rintro _ w18 ⟨rfl, s_17, hx⟩
 replace hr := hr.st s_17 (by first | decide | (simp <;> omega)) (by first | decide | (simp <;> omega))
 refine Sch.nil ?_
 replace ho := ho.t s_17
 rw [show us.map Sv.mk ++ [⟨v89⟩] = (us ++ [v89]).map Sv.mk from by simp] at ho
 refine run_sq (run_pl [nn 0, yy 1, yy 2, nn 3] ?_)
 replace hs6 := (((hs6.t s_14).t s_15).t s_16).t s_17
 refine nO 94 126 2 hs6.at_ rfl rfl ?_
 refine yM 95 1 ?_
 refine yV (kq 96 (.binOp .add 3 (.tmp 95) (.const (.int .i64 1)) 3)) (fun _ => val_is (val_addi rfl rfl (by omega) (by omega)) (congrArg (Value.int .i64) (show (i : Int) + 1 = ((i + 1 : Nat) : Int) from by omega))) ?_
 replace hl := ((((hl.t s_13).t s_14).t s_15).t s_16).t s_17; replace hrf := ((((hrf.t s_13).t s_14).t s_15).t s_16).t s_17; replace hap := ((((hap.t s_13).t s_14).t s_15).t s_16).t s_17; replace hbest := ((((hbest.t s_13).t s_14).t s_15).t s_16).t s_17; replace hF := hF.st s_17
 refine cG 97 89 [94, 96] [126, 3] Tryz.call89 rfl (ih m (by omega) (i + 1) _ Cw17 _ _ (by omega) (hPI.new' hir) hF hl hrf hap ⟨_, _, _, hx, ho, hr, hbest⟩) ?_
 rintro _ w19 ⟨Cw19, rfl, s_18, hF, hS⟩
 clear hx ho hr hbest
 obtain ⟨vs, us, vbest, hx, ho, hr, hbest⟩ := hS
 have hrl := hr.len
 refine Sch.nil ?_
 refine run_draw (id := 14) (ops := F89.o14) [] (Cw19) [yy 0, yy 1, yy 2, yy 3, yy 4, yy 5, yy 6, yy 7, yy 8, yy 9, yy 10, yy 11, yy 12, yy 13, nn 14] Tryz_mixed (by kernel_rfl) (by kernel_rfl) (by kernel_rfl) ?_
 intro w20 s_19
 replace hr := hr.st s_19 (by first | decide | (simp <;> omega)) (by first | decide | (simp <;> omega))
 have hR := Stp.refl [] w20 (Cw19)
 simp only [List.length_append, List.length_cons, List.length_nil] at hrl
 have hml : (us.map Sv.mk).length = us.length := List.length_map _
 replace hs6 := (hs6.t s_18).t s_19
 refine yS (kq 98 (.load 126 (.tmp 2))) rfl rfl (fun w' hS => val_loadOwn (hs6.sy hS) (by kernel_rfl) rfl rfl) ?_
 refine yS (kq 99 (.load 126 (.tmp 2))) rfl rfl (fun w' hS => val_loadOwn (hs6.sy hS) (by kernel_rfl) rfl rfl) ?_
 refine yN 100 99 ?_
 refine yF 101 128 100 2 3 ?_
 replace hx := hx.t s_19
 refine yS (kq 102 (.load 25 (.tmp 101))) rfl rfl (fun w' hS => val_loadOwn (hx.sy hS) (by kernel_rfl) rfl rfl) ?_
 refine yS (kq 103 (.load 126 (.tmp 2))) rfl rfl (fun w' hS => val_loadOwn (hs6.sy hS) (by kernel_rfl) rfl rfl) ?_
 refine yN 104 103 ?_
 refine yF 105 128 104 2 3 ?_
 refine yS (kq 106 (.load 25 (.tmp 105))) rfl rfl (fun w' hS => val_loadOwn (hx.sy hS) (by kernel_rfl) rfl rfl) ?_
 replace ho := ho.t s_19
 refine yS (kq 107 (.call { callee := .builtin .len, args := #[(.tmp 106)], argTypes := #[25] })) rfl rfl (fun w' hS => ho.lenV rfl Tryz.underlying25 w' ) ?_
 refine yV (kq 108 (.binOp .sub 3 (.tmp 107) (.const (.int .i64 1)) 3)) (fun _ => val_subi rfl rfl (by omega) (by omega)) ?_
 refine sTO (e' := 53) (kq 109 (.slice 25 (.tmp 102) none (some (.tmp 108)) none)) rfl rfl ho rfl (by kernel_rfl) rfl (by omega) (by omega) (by omega) ?_
 intro v109 h109
 try simp only [Int.toNat_natCast] at h109
 have e11 : (((us.map Sv.mk).length : Int) - 1).toNat = rows.length := by simp only [List.length_map]; omega
 rw [e11, ← List.map_take] at h109
 clear ho
 have ho := h109
 clear h109
 replace hr := hr.popT rfl
 refine yN 110 98 ?_
 refine yF 111 128 110 2 3 ?_
 refine Sch.free rfl ?_
 refine aU (k0 (.store 25 (.tmp 111) (.tmp 109))) rfl (a_store1 rfl rfl (by kernel_rfl) ho.one.1 ho.one.2 hx (by simp)) ?_
 rintro _ w21 ⟨rfl, s_20, hx⟩
 replace hr := hr.st s_20 (by first | decide | (simp <;> omega)) (by first | decide | (simp <;> omega))
 refine Sch.nil ?_
 replace hbest := (hbest.t s_19).t s_20
 rw [← placeF_cons, ← hdr] at hx hbest
 refine run_end0 Tryz.func89 rfl ?_
 replace hT := (((((((hT.t s_13).t s_14).t s_15).t s_16).t s_17).t s_18).t s_19).t s_20; replace hF := (hF.st s_19).st s_20; replace ho := ho.t s_20
 exact ⟨_, rfl, hT.outP, outP_lim hT hF0 hF, ⟨_, _, _, hx.outP hT (.inl rfl), ho.outP hT hF0 (.inr (.inl rfl)), hr.outP hT hF0 (.inr (.inr rfl)), hbest.outP hT hF0⟩⟩
end
end Go.Proofs.YtdmgmlmlielfbaaGreat
