/- Steps through functions of the program. -/
import Derived.Test.YtdmgmlmlielfbaaGreatJE7
import Derived.Test.YtdmgmlmlielfbaaGreatL2
set_option linter.unusedVariables false
set_option linter.unusedSimpArgs false
set_option maxRecDepth 100000
set_option maxHeartbeats 4000000
namespace Go.Proofs.YtdmgmlmlielfbaaGreat
open Go.K Go.K.Rep
noncomputable section
namespace F144
def c0 := bodyOf Tryz.f144
end F144
theorem cloneR_ok {w₀ : World} {C : Nat → Nat} {xs : List Couple} {px : Value} (hF : Lim w₀ C) (hw : RV w₀ (Mc C) xs px) (hne : xs ≠ []) (hlen : xs.length ≤ 1000000) (j : Nat) (hj : j ≠ 0) : Calls Tryz.prog 144 #[px] w₀ (Ret fun v w' => ∃ C', Stp [] w₀ C w' C' ∧ Lim w' C' ∧ OwnL w' C' j 47 v xs) := by
 have hF0 := hF
 have hT := Stp.refl [2, 3, 4, 5, 6, 7, 8, 9] w₀ (col1 C)
 replace hF := hF.col1
 replace hw := hw.c1
 obtain ⟨a0, c0, he0, hcc, _, hs0⟩ := rv_list.1 hw
 obtain ⟨b0, rfl⟩ : ∃ b, a0 = some b := by
   rcases hs0 with h | ⟨b, o, rfl, _⟩
   · exact absurd h hne
   exact ⟨_, rfl⟩
 clear hs0
 refine c_st F144.c0 8 [px] Tryz.func144 ?_
 show Run _ _ _ _ [(0, px)] _ _
 refine run_sq (run_pl [yy 0] ?_)
 refine yV (kq 2 (.assign (.const (.slice none 0 0)))) (fun _ => val_assign rfl) ?_
 refine Sch.nil (run_sq (run_sq (run_pl [yy 0, yy 1] ?_)))
 refine yM 3 0 ?_
 refine yV (kq 4 (.binOp .eql 53 (.tmp 3) (.const (.slice none 0 0)) 53)) (fun _ => val_eqNilX ((show _ = some px from rfl).trans (congrArg some he0)) Tryz.underlying53) ?_
 refine Sch.nil (run_cF 4 (run_sk (run_sq (run_pl [nn 0, yy 1, nn 2, yy 3] ?_))))
 refine aT (kq 5 (.buildSlice 53 0 #[])) rfl rfl (a_buildEmptyX (n := 2) (e := 47) (bytes := 16) hF (by kernel_rfl)) ?_
 rintro _ w1 ⟨⟨a5, rfl⟩, s_1, hF⟩
 refine yM 6 0 ?_
 replace hw := hw.t s_1
 refine aT (kq 7 (.call { callee := .builtin .append, args := #[(.tmp 5), (.tmp 6)], argTypes := #[53, 53] })) rfl rfl (a_appendR (j := 5) (e := 47) (bytes := 16) (ys := ([] : List Couple)) hF (by decide) rfl rfl (by kernel_rfl) (by decide) rv_empX hw hne (by simp only [List.length_nil]; omega) (by simp only [List.length_nil]; omega)) ?_
 rintro v7 w2 ⟨Cw2, s_2, hn, hF⟩
 refine yA 2 7 ?_
 refine Sch.nil ?_
 simp only [List.nil_append] at hn
 refine rt1 Tryz.func144 Tryz.results144 ?_
 replace hT := (hT.t s_1).t s_2
 obtain ⟨Cg, hcg, hFg, hmg, hog⟩ := hn.give hT hF0 (Mc_col1 C) (fun b _ => col1_lt C (by decide) b) (by decide) j hj
 exact ⟨Cg, (hT.out1 (by decide)).give hcg, hFg, hog⟩
namespace F126
def c0 := bodyOf Tryz.f126
end F126
theorem finish_ok {w₀ : World} {C : Nat → Nat} {l : List Bond} {rows : List (List Couple)} {st : BestSt} {vb vm vr : Value} {b : Nat} (hF : Lim w₀ C) (hl : RV w₀ (Mc C) l vb) (hS : SAt 128 53 47 w₀ C b vb vm vr rows st) (hnd : ∀ s ∈ rows, s.Nodup) (hrlen : ∀ s ∈ rows, s.length ≤ 1000) (hrows : rows.length ≤ 1000) (hw : ∀ x ∈ l, 1 ≤ x.w ∧ x.w ≤ 1048576) (hl4 : l.length ≤ 4096) :
    Calls Tryz.prog 126 #[.pointer (some ⟨b, 0, none⟩)] w₀ (Ret fun v w' => ∃ C', v = .tuple #[] ∧ Stp [3, 4, 5] w₀ C w' C' ∧ Lim w' C' ∧ SAt 128 53 47 w' C' b vb vm vr rows (finF l st rows)) := by
 obtain ⟨vs, us, vbest, hx, ho, hr, hbest⟩ := hS
 have hF0 := hF
 have hT := Stp.refl [3, 4, 5, 6, 7] w₀ (colP C)
 replace hF := hF.colP
 replace hl := hl.colP
 replace hx := hx.colP (.inl rfl)
 replace ho := ho.colP (.inr (.inl rfl))
 replace hr := hr.colP (.inr (.inr rfl))
 replace hbest := hbest.colP
 have hrl := hr.len
 refine c_st F126.c0 62 [.pointer (some ⟨b, 0, none⟩)] Tryz.func126 ?_
 show Run _ _ _ _ [(0, .pointer (some ⟨b, 0, none⟩))] _ _
 refine run_sq (run_pl [yy 0] ?_)
 refine yV (kq 2 (.assign (.const (.slice none 0 0)))) (fun _ => val_assign rfl) ?_
 refine Sch.nil (run_sq (run_sq (run_pl [yy 0, yy 1, yy 2, nn 3, yy 4, yy 5] ?_)))
 refine yM 6 0 ?_
 refine yN 7 6 ?_
 refine yF 8 128 7 2 3 ?_
 refine nO 9 25 8 hx.at_ rfl rfl ?_
 refine yS (kq 10 (.call { callee := .builtin .len, args := #[(.tmp 9)], argTypes := #[25] })) rfl rfl (fun w' hS => ho.lenV rfl Tryz.underlying25 w' ) ?_
 refine yC 11 (.int .i64 0) ?_
 refine Sch.nil (run_bk 0 ?_)
 refine run_lp (ι := Nat × Value × (Nat → Nat)) (I := fun x w => x.1 ≤ us.length ∧ (∀ q (hq : q < x.1) (hl : q < rows.length), 2 ≤ (rows[q]).length → joinB l (rows[q]) = true) ∧ Lim w x.2.2 ∧ Stp [3, 4, 5, 6, 7] w₀ (colP C) w x.2.2 ∧ RV w (Mc x.2.2) l vb ∧ OwnB w x.2.2 3 b (.cells [vb, vm, vr, vs, .bool st.found, vbest, .int .i64 st.val].toArray 128) ∧ OwnL w x.2.2 4 53 vs (us.map Sv.mk) ∧ RwS w x.2.2 5 47 us rows ∧ RV w (Mc x.2.2) st.best vbest ∧ OwnL w x.2.2 6 53 x.2.1 (bigs (rows.take x.1))) (e := fun x => [(0, .pointer (some ⟨b, 0, none⟩)), (2, x.2.1), (9, vs), (10, .int .i64 us.length), (11, .int .i64 x.1)]) (m := fun x => us.length - x.1) (x₀ := (0, .slice none 0 0, colP C)) (sr 0 (sr 2 (sr 9 (sub_cons 10 rfl (eq_int (by simp)) (sr 11 (sub_nil _)))))) ?_ ?_
 · exact ⟨Nat.zero_le _, fun q hq => by simp only at hq; omega, hF, hT, hl, hx, ho, hr, hbest, OwnL.nil⟩
 intro ⟨i, vp, C1⟩ w1 hI next1
 obtain ⟨hi, hJ, hF, hT, hl, hx, ho, hr, hbest, hp⟩ := hI
 try simp only at hi hJ hF hT hl hx ho hr hbest hp
 show Run _ _ _ _ [(0, .pointer (some ⟨b, 0, none⟩)), (2, vp), (9, vs), (10, .int .i64 us.length), (11, .int .i64 i)] _ _
 have hrl := hr.len
 have hbl := bigs_len (rows.take i)
 have htl : (rows.take i).length ≤ rows.length := by rw [List.length_take]; omega
 refine run_sq (run_pl [yy 0] ?_)
 refine yL 12 3 11 10 ?_
 refine Sch.nil (run_sq ?_)
 refine run_i 12 rfl (fun h12 => ?_) (fun h12 => ?_)
 ·
  have hiu : i < us.length := by omega
  have hir : i < rows.length := by omega
  have hmem := List.getElem_mem hir
  have hnk := hnd _ hmem
  have hlk := hrlen _ hmem
  have hbs := bigs_take hir
  refine run_sk (run_sq (run_bk 1 (run_sq (run_pl [yy 0, nn 1, yy 2] ?_))))
  refine oR 53 13 25 9 11 ho rfl (by first | omega | (simp only [List.length_map]; omega)) (h := ?_)
  intro g13 hg13
  try simp only [Int.toNat_natCast]
  refine oN (kq 14 (.load 53 (.tmp 13))) rfl rfl trivial ho hg13 (by first | omega | (simp only [List.length_map]; omega)) (by kernel_rfl) rfl rfl ?_
  intro v14 g14
  try simp only [Int.toNat_natCast] at g14
  obtain rfl : v14 = us[i]'hiu := by have := (rv_sv.1 g14).1; simpa using this
  clear g14
  refine yA 4 14 ?_
  refine Sch.nil (run_sq (run_sq (run_pl [yy 0, yy 1, yy 2] ?_)))
  refine yM 15 4 ?_
  refine yS (kq 16 (.call { callee := .builtin .len, args := #[(.tmp 15)], argTypes := #[53] })) rfl rfl (fun w' hS => (hr.rv0 hiu hir (by omega)).lenV rfl Tryz.underlying53 w') ?_
  refine yV (kq 17 (.binOp .lss 3 (.tmp 16) (.const (.int .i64 2)) 3)) (fun _ => val_lss rfl rfl) ?_
  refine Sch.nil ?_
  refine run_i 17 rfl (fun h17 => ?_) (fun h17 => ?_)
  ·
   rw [if_neg (by omega)] at hbs
   refine run_ex 1 ?_
   refine run_pl [yy 0, yy 1] ?_
   refine yI 30 3 11 1 ?_
   refine yM 11 30 ?_
   refine Sch.nil ?_
   refine kp (sub_cons 0 rfl rfl (sub_cons 2 rfl rfl (sub_cons 9 rfl rfl (sub_cons 10 rfl rfl (sub_cons 11 rfl (eq_int (by simp)) (sub_nil _)))))) (next1 (i + 1, vp, C1) _ ⟨(by first | omega | (simp only; omega)), (fun q hq hl2 h2 => by
       simp only at hq
       by_cases e : q = i
       · subst e; omega
       · exact hJ q (by omega) hl2 h2), hF, hT, hl, hx, ho, hr, hbest, (by simp only; rw [hbs]; exact hp)⟩ (by first | omega | (simp only; omega)))
  rw [if_pos (by omega)] at hbs
  refine run_sk (run_sq (run_sq (run_pl [yy 0, yy 1, yy 2, nn 3, yy 4, nn 5, yy 6] ?_)))
  refine yM 18 0 ?_
  refine yN 19 18 ?_
  refine yF 20 128 19 0 0 ?_
  refine nS (kq 21 (.load 75 (.tmp 20))) rfl rfl trivial (val_loadOwnAgg (n := 2) (vs := [vb, vm]) hx.at_ (by kernel_rfl) (by kernel_rfl) rfl rfl rfl) ?_
  refine yM 22 4 ?_
  refine cG 23 95 [21, 22] [75, 53] Tryz.call95 rfl (joined_ok (C := C0) (l := l) (vm := vm) (lim00 _) hl.c0 (hr.rv0 hiu hir (by omega)) (by omega) hnk (by omega)) ?_
  rintro _ w2 ⟨rfl, s_1⟩
  replace s_1 := s_1.re (C1)
  replace hr := hr.st s_1 (by first | decide | (simp <;> omega)) (by first | decide | (simp <;> omega))
  refine yV (kq 24 (.unOp .not 4 (.tmp 23))) (fun _ => val_not rfl) ?_
  refine Sch.nil ?_
  refine run_c 24 rfl (fun h24 => ?_) (fun h24 => ?_)
  ·
   have hjn : joinB l (rows[i]'hir) = false := by simpa using h24
   refine run_ret0 (by kernel_rfl) Tryz.func126 Tryz.results126 ?_
   have hff : finF l st rows = st := finF_no (finOK_not hir (by omega) hjn)
   rw [hff]
   replace hF := hF.st s_1; replace hT := hT.t s_1; replace hx := hx.t s_1; replace ho := ho.t s_1; replace hbest := hbest.t s_1
   exact ⟨_, rfl, hT.outP, outP_lim hT hF0 hF, ⟨vs, us, vbest, hx.outP hT (.inl rfl), ho.outP hT hF0 (.inr (.inl rfl)), hr.outP hT hF0 (.inr (.inr rfl)), hbest.outP hT hF0⟩⟩
  have hjn : joinB l (rows[i]'hir) = true := by simpa using h24
  refine run_sk (run_pl [yy 0, yy 1, nn 2, nn 3, nn 4, yy 5] ?_)
  refine yM 25 2 ?_
  refine yM 26 4 ?_
  refine cG 27 144 [26] [53] Tryz.call144 rfl (cloneR_ok (C := C0) (xs := rows[i]'hir) (lim00 _) (hr.rv0 hiu hir (by omega)) (by intro e; rw [e] at h17; simp at h17) (by omega) 9 (by decide)) ?_
  rintro v27 w3 ⟨Cq, s_2, _, hcl⟩
  replace hF := hF.st s_1
  have hn27 := hcl.fresh0 s_2 (by decide) hF (by omega)
  replace s_2 : Stp [] _ (C1) _ (C1) := ⟨s_2.ext.mono (fun b _ hb => by cases hb), fun _ _ => rfl⟩
  replace hr := hr.st s_2 (by first | decide | (simp <;> omega)) (by first | decide | (simp <;> omega))
  replace hF := hF.st s_2
  refine aT (kq 28 (.buildSlice 25 1 #[(0, (.tmp 27))])) rfl rfl (a_buildSlice (ys := ([rows[i]'hir] : List (List Couple))) (e := 53) (bytes := 24) hF (by kernel_rfl) rfl (by decide) (by decide) ⟨rfl, ⟨_, rfl, hn27⟩, trivial⟩) ?_
  rintro v28 w4 ⟨s_3, g28, hF⟩
  replace hr := hr.st s_3 (by first | decide | (simp <;> omega)) (by first | decide | (simp <;> omega))
  replace hp := ((hp.t s_1).t s_2).t s_3
  refine aT (kq 29 (.call { callee := .builtin .append, args := #[(.tmp 25), (.tmp 28)], argTypes := #[25, 25] })) rfl rfl (a_append (e := 53) (bytes := 24) hF (by decide) rfl rfl (by kernel_rfl) (by decide) hp g28 (by simp only [List.length_cons, List.length_nil]; omega) (by simp only [List.length_cons, List.length_nil]; omega)) ?_
  rintro v29 w5 ⟨Cw5, s_4, hp, hF⟩
  replace hr := hr.st s_4 (by first | decide | (simp <;> omega)) (by first | decide | (simp <;> omega))
  refine yA 2 29 ?_
  refine Sch.nil (run_inBlock (run_pl [yy 0, yy 1] ?_))
  refine yI 30 3 11 1 ?_
  refine yM 11 30 ?_
  refine Sch.nil ?_
  replace hT := (((hT.t s_1).t s_2).t s_3).t s_4; replace hl := (((hl.t s_1).t s_2).t s_3).t s_4; replace hx := (((hx.t s_1).t s_2).t s_3).t s_4; replace ho := (((ho.t s_1).t s_2).t s_3).t s_4; replace hbest := (((hbest.t s_1).t s_2).t s_3).t s_4
  refine kp (sub_cons 0 rfl rfl (sub_cons 2 rfl rfl (sub_cons 9 rfl rfl (sub_cons 10 rfl rfl (sub_cons 11 rfl (eq_int (by simp)) (sub_nil _)))))) (next1 (i + 1, v29, Cw5) _ ⟨(by first | omega | (simp only; omega)), (fun q hq hl2 h2 => by
        simp only at hq
        by_cases e : q = i
        · subst e; exact hjn
        · exact hJ q (by omega) hl2 h2), hF, hT, hl, hx, ho, hr, hbest, (by simp only; rw [hbs]; exact hp)⟩ (by first | omega | (simp only; omega)))
 have hiu : i = rows.length := by omega
 rw [hiu, List.take_length] at hp
 refine run_ex 0 ?_
 refine run_sq (run_pl [yy 0, yy 1, yy 2, yy 3, nn 4, yy 5, nn 6, yy 7] ?_)
 have hfin : finOK l rows = true := finOK_of (fun q hq h2 => hJ q (by omega) hq h2)
 obtain ⟨hvb1, hvb2⟩ := valueB_b hw (bigs rows) l.length (Nat.le_refl _)
 rw [valueB_all] at hvb1 hvb2
 have hbr := bigs_len rows
 refine yM 31 0 ?_
 refine yN 32 31 ?_
 refine yF 33 128 32 0 0 ?_
 refine yF 34 75 33 0 0 ?_
 refine nO 35 23 34 hx.at_ rfl rfl ?_
 refine yM 36 2 ?_
 refine cG 37 28 [35, 36] [23, 25] Tryz.call28 rfl (value_ok (C := C0) (lim00 _) hl.c0 (hp.rv0 (by omega)) hw hl4) ?_
 rintro _ w6 ⟨rfl, s_5⟩
 replace s_5 := s_5.re (C1)
 replace hr := hr.st s_5 (by first | decide | (simp <;> omega)) (by first | decide | (simp <;> omega))
 refine yA 5 37 ?_
 refine Sch.nil (run_sq ?_)
 by_cases hfd : st.found = true
 ·
  by_cases hgt : st.val < valueB l (bigs rows)
  ·
   refine run_pl [yy 0, yy 1, yy 2, nn 3, yy 4, yy 5, yy 6, yy 7, yy 8, yy 9, nn 10, yy 11, yy 12] ?_
   refine yM 38 0 ?_
   refine yN 39 38 ?_
   refine yF 40 128 39 3 4 ?_
   replace hx := hx.t s_5
   refine nO 41 4 40 hx.at_ rfl rfl ?_
   rw [show st.found = true from hfd]
   refine yV (kq 42 (.unOp .not 4 (.tmp 41))) (fun _ => val_not rfl) ?_
   refine yM 43 42 ?_
   refine yMg 44 5 5 false ?_
   refine yMg 45 0 5 false ?_
   refine yV (kg 46 (.nilCheck (.tmp 45)) 5 false) (fun _ => val_nilCheck rfl) ?_
   refine yFg 47 128 46 5 6 5 false ?_
   refine nS (kg 48 (.load 3 (.tmp 47)) 5 false) rfl rfl trivial (val_loadOwn hx.at_ (by kernel_rfl) rfl rfl) ?_
   refine yV (kg 49 (.binOp .gtr 3 (.tmp 44) (.tmp 48) 3) 5 false) (fun _ => val_T (val_gtr rfl rfl) (by omega)) ?_
   refine yOf 50 43 49 ?_
   refine Sch.nil (run_cT 50 (run_pl [yy 0, yy 1, yy 2, yy 3, yy 4, yy 5, yy 6, nn 7, yy 8, yy 9, nn 10, yy 11, yy 12, nn 13] ?_))
   refine yM 51 0 ?_
   refine yM 52 0 ?_
   refine yM 53 0 ?_
   refine yM 54 2 ?_
   refine yM 55 5 ?_
   refine yN 56 51 ?_
   refine yF 57 128 56 3 4 ?_
   refine aU (k0 (.store 4 (.tmp 57) (.const (.bool true)))) rfl (a_store1 rfl rfl (by kernel_rfl) rfl rfl hx (by simp)) ?_
   rintro _ w7 ⟨rfl, s_6, hx⟩
   replace hr := hr.st s_6 (by first | decide | (simp <;> omega)) (by first | decide | (simp <;> omega))
   refine yN 58 52 ?_
   refine yF 59 128 58 4 5 ?_
   replace hp := (hp.t s_5).t s_6
   refine aU (k0 (.store 25 (.tmp 59) (.tmp 54))) rfl (a_store1 rfl rfl (by kernel_rfl) hp.one.1 hp.one.2 hx (by simp)) ?_
   rintro _ w8 ⟨rfl, s_7, hx⟩
   replace hr := hr.st s_7 (by first | decide | (simp <;> omega)) (by first | decide | (simp <;> omega))
   refine yN 60 53 ?_
   refine yF 61 128 60 5 6 ?_
   refine aU (k0 (.store 3 (.tmp 61) (.tmp 55))) rfl (a_store1 rfl rfl (by kernel_rfl) rfl rfl hx (by simp)) ?_
   rintro _ w9 ⟨rfl, s_8, hx⟩
   replace hr := hr.st s_8 (by first | decide | (simp <;> omega)) (by first | decide | (simp <;> omega))
   refine Sch.nil ?_
   refine run_end0 Tryz.func126 rfl ?_
   have hff : finF l st rows = ⟨true, bigs rows, valueB l (bigs rows)⟩ := finF_new hfin (.inr (by omega))
   rw [hff]
   replace hF := (((hF.st s_5).st s_6).st s_7).st s_8; replace hT := (((hT.t s_5).t s_6).t s_7).t s_8; replace ho := (((ho.t s_5).t s_6).t s_7).t s_8; replace hp := (hp.t s_7).t s_8
   exact ⟨_, rfl, hT.outP, outP_lim hT hF0 hF, ⟨vs, us, vp, hx.outP hT (.inl rfl), ho.outP hT hF0 (.inr (.inl rfl)), hr.outP hT hF0 (.inr (.inr rfl)), hp.outR hT hF0 (by decide) (by omega)⟩⟩
  refine run_pl [yy 0, yy 1, yy 2, nn 3, yy 4, yy 5, yy 6, yy 7, yy 8, yy 9, nn 10, yy 11, yy 12] ?_
  refine yM 38 0 ?_
  refine yN 39 38 ?_
  refine yF 40 128 39 3 4 ?_
  replace hx := hx.t s_5
  refine nO 41 4 40 hx.at_ rfl rfl ?_
  rw [show st.found = true from hfd]
  refine yV (kq 42 (.unOp .not 4 (.tmp 41))) (fun _ => val_not rfl) ?_
  refine yM 43 42 ?_
  refine yMg 44 5 5 false ?_
  refine yMg 45 0 5 false ?_
  refine yV (kg 46 (.nilCheck (.tmp 45)) 5 false) (fun _ => val_nilCheck rfl) ?_
  refine yFg 47 128 46 5 6 5 false ?_
  refine nS (kg 48 (.load 3 (.tmp 47)) 5 false) rfl rfl trivial (val_loadOwn hx.at_ (by kernel_rfl) rfl rfl) ?_
  refine yV (kg 49 (.binOp .gtr 3 (.tmp 44) (.tmp 48) 3) 5 false) (fun _ => val_F (val_gtr rfl rfl) (by omega)) ?_
  refine yOf 50 43 49 ?_
  refine Sch.nil (run_cF 50 (run_sk ?_))
  refine run_end0 Tryz.func126 rfl ?_
  have hff : finF l st rows = st := finF_less hfd (by omega)
  rw [hff]
  replace hF := hF.st s_5; replace hT := hT.t s_5; replace ho := ho.t s_5; replace hbest := hbest.t s_5
  exact ⟨_, rfl, hT.outP, outP_lim hT hF0 hF, ⟨vs, us, vbest, hx.outP hT (.inl rfl), ho.outP hT hF0 (.inr (.inl rfl)), hr.outP hT hF0 (.inr (.inr rfl)), hbest.outP hT hF0⟩⟩
 refine run_pl [yy 0, yy 1, yy 2, nn 3, yy 4, yy 5, yy 6, yy 7, yy 8, yy 9, nn 10, yy 11, yy 12] ?_
 refine yM 38 0 ?_
 refine yN 39 38 ?_
 refine yF 40 128 39 3 4 ?_
 replace hx := hx.t s_5
 refine nO 41 4 40 hx.at_ rfl rfl ?_
 rw [show st.found = false from (Bool.eq_false_iff.2 hfd)]
 refine yV (kq 42 (.unOp .not 4 (.tmp 41))) (fun _ => val_not rfl) ?_
 refine yM 43 42 ?_
 refine pX 44 5 false ?_
 refine pX 45 5 false ?_
 refine pX 46 5 false ?_
 refine pX 47 5 false ?_
 refine pW (kg 48 (.load 3 (.tmp 47)) 5 false) rfl rfl trivial ?_
 refine pX 49 5 false ?_
 refine yOt 50 43 49 ?_
 refine Sch.nil (run_cT 50 (run_pl [yy 0, yy 1, yy 2, yy 3, yy 4, yy 5, yy 6, nn 7, yy 8, yy 9, nn 10, yy 11, yy 12, nn 13] ?_))
 refine yM 51 0 ?_
 refine yM 52 0 ?_
 refine yM 53 0 ?_
 refine yM 54 2 ?_
 refine yM 55 5 ?_
 refine yN 56 51 ?_
 refine yF 57 128 56 3 4 ?_
 refine aU (k0 (.store 4 (.tmp 57) (.const (.bool true)))) rfl (a_store1 rfl rfl (by kernel_rfl) rfl rfl hx (by simp)) ?_
 rintro _ w10 ⟨rfl, s_9, hx⟩
 replace hr := hr.st s_9 (by first | decide | (simp <;> omega)) (by first | decide | (simp <;> omega))
 refine yN 58 52 ?_
 refine yF 59 128 58 4 5 ?_
 replace hp := (hp.t s_5).t s_9
 refine aU (k0 (.store 25 (.tmp 59) (.tmp 54))) rfl (a_store1 rfl rfl (by kernel_rfl) hp.one.1 hp.one.2 hx (by simp)) ?_
 rintro _ w11 ⟨rfl, s_10, hx⟩
 replace hr := hr.st s_10 (by first | decide | (simp <;> omega)) (by first | decide | (simp <;> omega))
 refine yN 60 53 ?_
 refine yF 61 128 60 5 6 ?_
 refine aU (k0 (.store 3 (.tmp 61) (.tmp 55))) rfl (a_store1 rfl rfl (by kernel_rfl) rfl rfl hx (by simp)) ?_
 rintro _ w12 ⟨rfl, s_11, hx⟩
 replace hr := hr.st s_11 (by first | decide | (simp <;> omega)) (by first | decide | (simp <;> omega))
 refine Sch.nil ?_
 refine run_end0 Tryz.func126 rfl ?_
 have hff : finF l st rows = ⟨true, bigs rows, valueB l (bigs rows)⟩ := finF_new hfin (.inl (Bool.eq_false_iff.2 hfd))
 rw [hff]
 replace hF := (((hF.st s_5).st s_9).st s_10).st s_11; replace hT := (((hT.t s_5).t s_9).t s_10).t s_11; replace ho := (((ho.t s_5).t s_9).t s_10).t s_11; replace hp := (hp.t s_10).t s_11
 exact ⟨_, rfl, hT.outP, outP_lim hT hF0 hF, ⟨vs, us, vp, hx.outP hT (.inl rfl), ho.outP hT hF0 (.inr (.inl rfl)), hr.outP hT hF0 (.inr (.inr rfl)), hp.outR hT hF0 (by decide) (by omega)⟩⟩
end
end Go.Proofs.YtdmgmlmlielfbaaGreat
