/- Steps through functions of the program. -/
import Derived.Test.YtdmgmlmlielfbaaGreatJE7
import Derived.Test.YtdmgmlmlielfbaaGreatL2
set_option linter.unusedVariables false
set_option linter.unusedSimpArgs false
set_option maxRecDepth 100000
set_option maxHeartbeats 4000000
namespace Go.Proofs.YtdmgmlmlielfbaaGreat
open Go.K Go.K.Rep

namespace F144
noncomputable def c0 := bodyOf Tryz.f144
noncomputable def c7 := (cl (cl (cr (cl (cr c0)))))
end F144
theorem cloneR_ok {w₀ : World} {C : Nat → Nat} {xs : List Couple} {px : Value} (hF : Lim w₀ C) (hw : RV w₀ (Mc C) xs px) (hne : xs ≠ []) (hlen : xs.length ≤ 1000000) (j : Nat) (hj : j ≠ 0) : Calls Tryz.prog 144 #[px] w₀ (Ret fun v w' => ∃ C', Stp [] w₀ C w' C' ∧ Lim w' C' ∧ OwnL w' C' j 47 v xs) := by
 have hF0 := hF
 have hT := Stp.refl [2, 3, 4, 5, 6, 7, 8, 9] w₀ (col1 C)
 replace hF := hF.col1
 replace hw : RV w₀ (Mc (col1 C)) xs px := by rw [Mc_col1]; exact hw
 obtain ⟨a0, c0, he0, hcc, _, hs0⟩ := rv_list.1 hw
 obtain ⟨b0, rfl⟩ : ∃ b, a0 = some b := by
   rcases hs0 with h | ⟨b, o, rfl, _⟩
   · exact absurd h hne
   · exact ⟨_, rfl⟩
 clear hs0
 refine calls_start (c := F144.c0) (N := 8) [px] Tryz.func144 (by kernel_rfl) (by kernel_rfl) (by kernel_rfl) ?_
 show Run _ _ _ _ [(0, px)] _ _
 refine run_sq ?_
 refine run_pl [yy 0] ?_
 refine yV (kq 2 (.assign (.const (.slice none 0 0)))) (fun _ => val_assign rfl) ?_
 refine Sch.nil ?_
 refine run_sq ?_
 refine run_sq ?_
 refine run_pl [yy 0, yy 1] ?_
 refine yM 3 0 ?_
 refine yV (kq 4 (.binOp .eql 53 (.tmp 3) (.const (.slice none 0 0)) 53)) (fun _ => val_eqNilX ((show _ = some px from rfl).trans (congrArg some he0)) Tryz.underlying53) ?_
 refine Sch.nil ?_
 refine run_cF 4 ?_
 refine run_sk ?_
 refine run_sq ?_
 refine run_pl [nn 0, yy 1, nn 2, yy 3] ?_
 refine aS (kq 5 (.buildSlice 53 0 #[])) rfl rfl (a_buildEmptyX (n := 2) (e := 47) (bytes := 16) hF (by kernel_rfl)) ?_
 rintro _ w1 ⟨⟨a5, rfl⟩, hs, hF⟩
 refine ⟨trivial, ?_⟩
 replace hT := hT.t hs; replace hw := hw.t hs
 refine yM 6 0 ?_
 refine aS (kq 7 (.call { callee := .builtin .append, args := #[(.tmp 5), (.tmp 6)], argTypes := #[53, 53] })) rfl rfl (a_appendR (j := 5) (e := 47) (bytes := 16) (ys := ([] : List Couple)) hF (by decide) rfl rfl (by kernel_rfl) (by decide) rv_empX hw hne (by simp only [List.length_nil]; omega) (by simp only [List.length_nil]; omega)) ?_
 rintro v7 w2 ⟨Cw2, hs, hn, hF⟩
 refine ⟨trivial, ?_⟩
 replace hT := hT.t hs; replace hw := hw.t hs
 refine yA 2 7 ?_
 refine Sch.nil ?_
 simp only [List.nil_append] at hn
 refine run_ret1 (by kernel_rfl) Tryz.func144 Tryz.results144 rfl ?_
 obtain ⟨Cg, hcg, hFg, hmg, hog⟩ := hn.give hT hF0 (Mc_col1 C) (fun b _ => col1_lt C (by decide) b) (by decide) j hj
 exact ⟨Cg, (hT.out1 (by decide)).give hcg, hFg, hog⟩
namespace F126
noncomputable def c0 := bodyOf Tryz.f126
noncomputable def c7 := (cl (cl (cr (cl (cr c0)))))
noncomputable def c16 := (cl (cl (cl (cr (cr c7)))))
noncomputable def c17 := (cr (cl (cl (cr (cr c7)))))
noncomputable def c36 := (cl (cr (cr (cr (cr c0)))))
end F126
/-- 'finish'. -/
theorem finish_ok {w₀ : World} {C : Nat → Nat} {l : List Bond} {rows : List (List Couple)} {st : BestSt} {vb vm vr : Value} {b : Nat} (hF : Lim w₀ C) (hl : RV w₀ (Mc C) l vb) (hS : SAt 128 53 47 w₀ C b vb vm vr rows st) (hnd : ∀ s ∈ rows, s.Nodup) (hrlen : ∀ s ∈ rows, s.length ≤ 1000) (hrows : rows.length ≤ 1000) (hw : ∀ x ∈ l, 1 ≤ x.w ∧ x.w ≤ 1048576) (hl4 : l.length ≤ 4096) :
    Calls Tryz.prog 126 #[.pointer (some ⟨b, 0, none⟩)] w₀ (Ret fun v w' => ∃ C', v = .tuple #[] ∧ Stp [3, 4, 5] w₀ C w' C' ∧ Lim w' C' ∧ SAt 128 53 47 w' C' b vb vm vr rows (finF l st rows)) := by
 obtain ⟨vs, us, vbest, hx, ho, hr, hbest⟩ := hS
 have hF0 := hF
 have hT := Stp.refl [3, 4, 5, 6, 7] w₀ (colP C)
 replace hF := hF.colP
 replace hl := hl.colP
 replace hx := hx.colP (.inl rfl)
 replace ho := ho.colP (.inr (.inl rfl))
 replace hr := hr.colP (.inr (.inr rfl))
 replace hbest := hbest.colP
 have hrl := hr.len
 refine calls_start (c := F126.c0) (N := 62) [.pointer (some ⟨b, 0, none⟩)] Tryz.func126 (by kernel_rfl) (by kernel_rfl) (by kernel_rfl) ?_
 show Run _ _ _ _ [(0, .pointer (some ⟨b, 0, none⟩))] _ _
 refine run_sq ?_
 refine run_pl [yy 0] ?_
 refine yV (kq 2 (.assign (.const (.slice none 0 0)))) (fun _ => val_assign rfl) ?_
 refine Sch.nil ?_
 refine run_sq ?_
 refine run_sq ?_
 refine run_pl [yy 0, yy 1, yy 2, nn 3, yy 4, yy 5] ?_
 refine yM 6 0 ?_
 refine yN 7 6 ?_
 refine yF 8 128 7 2 3 ?_
 refine nS (kq 9 (.load 25 (.tmp 8))) rfl rfl trivial (val_loadOwn hx.at_ (by kernel_rfl) rfl rfl) ?_
 refine yS (kq 10 (.call { callee := .builtin .len, args := #[(.tmp 9)], argTypes := #[25] })) rfl rfl (fun w' hS => ho.lenV rfl Tryz.underlying25 w' ) ?_
 refine yV (kq 11 (.move (.const (.int .i64 0)))) (fun _ => val_move rfl) ?_
 refine Sch.nil ?_
 refine run_bk 0 ?_
 
 refine run_lp (ι := Nat × Value × (Nat → Nat)) (I := fun x w => x.1 ≤ us.length ∧ (∀ q (hq : q < x.1) (hl : q < rows.length), 2 ≤ (rows[q]).length → joinB l (rows[q]) = true) ∧ Lim w x.2.2 ∧ Stp [3, 4, 5, 6, 7] w₀ (colP C) w x.2.2 ∧ RV w (Mc x.2.2) l vb ∧ OwnB w x.2.2 3 b (.cells [vb, vm, vr, vs, .bool st.found, vbest, .int .i64 st.val].toArray 128) ∧ OwnL w x.2.2 4 53 vs (us.map Sv.mk) ∧ RwS w x.2.2 5 47 us rows ∧ RV w (Mc x.2.2) st.best vbest ∧ OwnL w x.2.2 6 53 x.2.1 (bigs (rows.take x.1))) (e := fun x => [(0, .pointer (some ⟨b, 0, none⟩)), (2, x.2.1), (9, vs), (10, .int .i64 us.length), (11, .int .i64 x.1)]) (m := fun x => us.length - x.1) (x₀ := (0, .slice none 0 0, colP C)) (sr 0 (sr 2 (sr 9 (sub_cons 10 rfl (eq_int (by simp)) (sr 11 (sub_nil _)))))) ?_ ?_
 · exact ⟨Nat.zero_le _, fun q hq => by simp only at hq; omega, hF, hT, hl, hx, ho, hr, hbest, OwnL.nil⟩
 intro ⟨i, vp, C1⟩ w1 hI next
 obtain ⟨hi, hJ, hF, hT, hl, hx, ho, hr, hbest, hp⟩ := hI
 try simp only at hi hJ hF hT hl hx ho hr hbest hp
 have next1 := next
 clear next
 show Run _ _ _ _ [(0, .pointer (some ⟨b, 0, none⟩)), (2, vp), (9, vs), (10, .int .i64 us.length), (11, .int .i64 i)] _ _
 have hrl := hr.len
 have hbl := bigs_len (rows.take i)
 have htl : (rows.take i).length ≤ rows.length := by rw [List.length_take]; omega
 refine run_sq ?_
 refine run_pl [yy 0] ?_
 refine yV (kq 12 (.binOp .lss 3 (.tmp 11) (.tmp 10) 3)) (fun _ => val_lss rfl rfl) ?_
 refine Sch.nil ?_
 refine run_sq ?_
 refine run_i 12 rfl (fun h12 => ?_) (fun h12 => ?_)
 ·
  have hiu : i < us.length := by omega
  have hir : i < rows.length := by omega
  have hmem := List.getElem_mem hir
  have hnk := hnd _ hmem
  have hlk := hrlen _ hmem
  have hbs := bigs_take hir
  refine run_sk ?_
  refine run_sq ?_
  refine run_bk 1 ?_
  refine run_sq ?_
  refine run_pl [yy 0, nn 1, yy 2] ?_
  refine oI (e' := 53) (kq 13 (.indexAddr 25 (.tmp 9) (.tmp 11))) rfl rfl ho rfl (by kernel_rfl) rfl (by omega) (by first | omega | (simp only [List.length_map]; omega)) ?_
  intro g13 hg13
  try simp only [Int.toNat_natCast]
  refine oN (kq 14 (.load 53 (.tmp 13))) rfl rfl trivial ho hg13 (by first | omega | (simp only [List.length_map]; omega)) (by kernel_rfl) rfl rfl ?_
  intro v14 g14
  try simp only [Int.toNat_natCast] at g14
  obtain rfl : v14 = us[i]'hiu := by have := (rv_sv.1 g14).1; simpa using this
  clear g14
  refine yA 4 14 ?_
  refine Sch.nil ?_
  refine run_sq ?_
  refine run_sq ?_
  refine run_pl [yy 0, yy 1, yy 2] ?_
  refine yM 15 4 ?_
  refine yS (kq 16 (.call { callee := .builtin .len, args := #[(.tmp 15)], argTypes := #[53] })) rfl rfl (fun w' hS => (hr.rv0 hiu hir (by omega)).lenV rfl Tryz.underlying53 w') ?_
  refine yV (kq 17 (.binOp .lss 3 (.tmp 16) (.const (.int .i64 2)) 3)) (fun _ => val_lss rfl rfl) ?_
  refine Sch.nil ?_
  refine run_i 17 rfl (fun h17 => ?_) (fun h17 => ?_)
  ·
   rw [if_neg (by omega)] at hbs
   refine run_ex 1 ?_
   refine run_pl [yy 0, yy 1] ?_
   refine yV (kq 30 (.binOp .add 3 (.tmp 11) (.const (.int .i64 1)) 3)) (fun _ => val_addi rfl rfl (by omega) (by omega)) ?_
   refine yM 11 30 ?_
   refine Sch.nil ?_
   refine kp (sub_cons 0 rfl rfl (sub_cons 2 rfl rfl (sub_cons 9 rfl rfl (sub_cons 10 rfl rfl (sub_cons 11 rfl (eq_int (by simp)) (sub_nil _)))))) (next1 (i + 1, vp, C1) _ ⟨(by first | omega | (simp only; omega)), (fun q hq hl2 h2 => by
       simp only at hq
       by_cases e : q = i
       · subst e; omega
       · exact hJ q (by omega) hl2 h2), hF, hT, hl, hx, ho, hr, hbest, (by simp only; rw [hbs]; exact hp)⟩ (by first | omega | (simp only; omega)))
  ·
   rw [if_pos (by omega)] at hbs
   refine run_sk ?_
   refine run_sq ?_
   refine run_sq ?_
   refine run_pl [yy 0, yy 1, yy 2, nn 3, yy 4, nn 5, yy 6] ?_
   refine yM 18 0 ?_
   refine yN 19 18 ?_
   refine yF 20 128 19 0 0 ?_
   refine nS (kq 21 (.load 75 (.tmp 20))) rfl rfl trivial (val_loadOwnAgg (n := 2) (vs := [vb, vm]) hx.at_ (by kernel_rfl) (by kernel_rfl) rfl rfl rfl) ?_
   refine yM 22 4 ?_
   refine cS (kq 23 (.call { callee := .value (.func 95), args := #[(.tmp 21), (.tmp 22)], argTypes := #[75, 53] })) rfl rfl (ent Tryz.call95 rfl) (joined_ok (C := C0) (l := l) (vm := vm) (lim00 _) hl.c0 (hr.rv0 hiu hir (by omega)) (by omega) hnk (by omega)) ?_
   rintro _ w2 ⟨rfl, hs⟩
   replace hs := hs.re (C1)
   refine ⟨trivial, ?_⟩
   replace hF := hF.st hs
   replace hT := hT.t hs; replace hl := hl.t hs; replace hx := hx.t hs; replace ho := ho.t hs
   replace hr := hr.st hs (by first | decide | (simp <;> omega)) (by first | decide | (simp <;> omega))
   replace hbest := hbest.t hs; replace hp := hp.t hs
   refine yV (kq 24 (.unOp .not 4 (.tmp 23))) (fun _ => val_not rfl) ?_
   refine Sch.nil ?_
   refine run_c 24 rfl (fun h24 => ?_) (fun h24 => ?_)
   ·
    have hjn : joinB l (rows[i]'hir) = false := by simpa using h24
    refine run_ret0 (by kernel_rfl) Tryz.func126 Tryz.results126 ?_
    have hff : finF l st rows = st := finF_no (finOK_not hir (by omega) hjn)
    rw [hff]
    exact ⟨_, rfl, hT.outP, outP_lim hT hF0 hF, ⟨vs, us, vbest, hx.outP hT (.inl rfl), ho.outP hT hF0 (.inr (.inl rfl)), hr.outP hT hF0 (.inr (.inr rfl)), hbest.outP hT hF0⟩⟩
   ·
    have hjn : joinB l (rows[i]'hir) = true := by simpa using h24
    refine run_sk ?_
    refine run_pl [yy 0, yy 1, nn 2, nn 3, nn 4, yy 5] ?_
    refine yM 25 2 ?_
    refine yM 26 4 ?_
    refine cS (kq 27 (.call { callee := .value (.func 144), args := #[(.tmp 26)], argTypes := #[53] })) rfl rfl (ent Tryz.call144 rfl) (cloneR_ok (C := C0) (xs := rows[i]'hir) (lim00 _) (hr.rv0 hiu hir (by omega)) (by intro e; rw [e] at h17; simp at h17) (by omega) 9 (by decide)) ?_
    rintro v27 w3 ⟨Cq, hs, _, hcl⟩
    have hn27 := hcl.fresh0 hs (by decide) hF (by omega)
    replace hs : Stp [] _ (C1) _ (C1) := ⟨hs.ext.mono (fun b _ hb => by cases hb), fun _ _ => rfl⟩
    refine ⟨trivial, ?_⟩
    replace hF := hF.st hs
    replace hT := hT.t hs; replace hl := hl.t hs; replace hx := hx.t hs; replace ho := ho.t hs
    replace hr := hr.st hs (by first | decide | (simp <;> omega)) (by first | decide | (simp <;> omega))
    replace hbest := hbest.t hs; replace hp := hp.t hs
    refine aS (kq 28 (.buildSlice 25 1 #[(0, (.tmp 27))])) rfl rfl (a_buildSlice (ys := ([rows[i]'hir] : List (List Couple))) (e := 53) (bytes := 24) hF (by kernel_rfl) rfl (by decide) (by decide) ⟨rfl, ⟨_, rfl, hn27⟩, trivial⟩) ?_
    rintro v28 w4 ⟨hs, g28, hF⟩
    refine ⟨trivial, ?_⟩
    replace hT := hT.t hs; replace hl := hl.t hs; replace hx := hx.t hs; replace ho := ho.t hs
    replace hr := hr.st hs (by first | decide | (simp <;> omega)) (by first | decide | (simp <;> omega))
    replace hbest := hbest.t hs; replace hp := hp.t hs; replace hn27 := hn27.t hs
    refine aS (kq 29 (.call { callee := .builtin .append, args := #[(.tmp 25), (.tmp 28)], argTypes := #[25, 25] })) rfl rfl (a_append (e := 53) (bytes := 24) hF (by decide) rfl rfl (by kernel_rfl) (by decide) hp g28 (by simp only [List.length_cons, List.length_nil]; omega) (by simp only [List.length_cons, List.length_nil]; omega)) ?_
    rintro v29 w5 ⟨Cw5, hs, hp, hF⟩
    refine ⟨trivial, ?_⟩
    replace hT := hT.t hs; replace hl := hl.t hs; replace hx := hx.t hs; replace ho := ho.t hs
    replace hr := hr.st hs (by first | decide | (simp <;> omega)) (by first | decide | (simp <;> omega))
    replace hbest := hbest.t hs; replace hn27 := hn27.t hs; replace g28 := g28.t hs
    refine yA 2 29 ?_
    refine Sch.nil ?_
    refine run_inBlock ?_
    refine run_pl [yy 0, yy 1] ?_
    refine yV (kq 30 (.binOp .add 3 (.tmp 11) (.const (.int .i64 1)) 3)) (fun _ => val_addi rfl rfl (by omega) (by omega)) ?_
    refine yM 11 30 ?_
    refine Sch.nil ?_
    refine kp (sub_cons 0 rfl rfl (sub_cons 2 rfl rfl (sub_cons 9 rfl rfl (sub_cons 10 rfl rfl (sub_cons 11 rfl (eq_int (by simp)) (sub_nil _)))))) (next1 (i + 1, v29, Cw5) _ ⟨(by first | omega | (simp only; omega)), (fun q hq hl2 h2 => by
        simp only at hq
        by_cases e : q = i
        · subst e; exact hjn
        · exact hJ q (by omega) hl2 h2), hF, hT, hl, hx, ho, hr, hbest, (by simp only; rw [hbs]; exact hp)⟩ (by first | omega | (simp only; omega)))
 ·
  have hiu : i = rows.length := by omega
  rw [hiu, List.take_length] at hp
  refine run_ex 0 ?_
  refine run_sq ?_
  refine run_pl [yy 0, yy 1, yy 2, yy 3, nn 4, yy 5, nn 6, yy 7] ?_
  have hfin : finOK l rows = true := finOK_of (fun q hq h2 => hJ q (by omega) hq h2)
  obtain ⟨hvb1, hvb2⟩ := valueB_b hw (bigs rows) l.length (Nat.le_refl _)
  rw [valueB_all] at hvb1 hvb2
  have hbr := bigs_len rows
  refine yM 31 0 ?_
  refine yN 32 31 ?_
  refine yF 33 128 32 0 0 ?_
  refine yF 34 75 33 0 0 ?_
  refine nS (kq 35 (.load 23 (.tmp 34))) rfl rfl trivial (val_loadOwn hx.at_ (by kernel_rfl) rfl rfl) ?_
  refine yM 36 2 ?_
  refine cS (kq 37 (.call { callee := .value (.func 28), args := #[(.tmp 35), (.tmp 36)], argTypes := #[23, 25] })) rfl rfl (ent Tryz.call28 rfl) (value_ok (C := C0) (lim00 _) hl.c0 (hp.rv0 (by omega)) hw hl4) ?_
  rintro _ w6 ⟨rfl, hs⟩
  replace hs := hs.re (C1)
  refine ⟨trivial, ?_⟩
  replace hF := hF.st hs
  replace hT := hT.t hs; replace hl := hl.t hs; replace hx := hx.t hs; replace ho := ho.t hs
  replace hr := hr.st hs (by first | decide | (simp <;> omega)) (by first | decide | (simp <;> omega))
  replace hbest := hbest.t hs; replace hp := hp.t hs
  refine yA 5 37 ?_
  refine Sch.nil ?_
  refine run_sq ?_
  by_cases hfd : st.found = true
  ·
   by_cases hgt : st.val < valueB l (bigs rows)
   ·
    refine run_pl [yy 0, yy 1, yy 2, nn 3, yy 4, yy 5, yy 6, yy 7, yy 8, yy 9, nn 10, yy 11, yy 12] ?_
    refine yM 38 0 ?_
    refine yN 39 38 ?_
    refine yF 40 128 39 3 4 ?_
    refine nS (kq 41 (.load 4 (.tmp 40))) rfl rfl trivial (val_loadOwn hx.at_ (by kernel_rfl) rfl rfl) ?_
    rw [show st.found = true from hfd]
    refine yV (kq 42 (.unOp .not 4 (.tmp 41))) (fun _ => val_not rfl) ?_
    refine yM 43 42 ?_
    refine yMg 44 5 5 false ?_
    refine yMg 45 0 5 false ?_
    refine yV (kg 46 (.nilCheck (.tmp 45)) 5 false) (fun _ => val_nilCheck rfl) ?_
    refine yFg 47 128 46 5 6 5 false ?_
    refine nS (kg 48 (.load 3 (.tmp 47)) 5 false) rfl rfl trivial (val_loadOwn hx.at_ (by kernel_rfl) rfl rfl) ?_
    refine yV (kg 49 (.binOp .gtr 3 (.tmp 44) (.tmp 48) 3) 5 false) (fun _ => val_T (val_gtr rfl rfl) (by omega)) ?_
    refine yOf 50 43 49 ?_
    refine Sch.nil ?_
    refine run_cT 50 ?_
    refine run_pl [yy 0, yy 1, yy 2, yy 3, yy 4, yy 5, yy 6, nn 7, yy 8, yy 9, nn 10, yy 11, yy 12, nn 13] ?_
    refine yM 51 0 ?_
    refine yM 52 0 ?_
    refine yM 53 0 ?_
    refine yM 54 2 ?_
    refine yM 55 5 ?_
    refine yN 56 51 ?_
    refine yF 57 128 56 3 4 ?_
    refine aN (k0 (.store 4 (.tmp 57) (.const (.bool true)))) rfl (a_store1 rfl rfl (by kernel_rfl) rfl rfl hx (by simp)) ?_
    rintro _ w7 ⟨rfl, hs, hx⟩
    refine ⟨trivial, ?_⟩
    replace hF := hF.st hs
    replace hT := hT.t hs; replace hl := hl.t hs; replace ho := ho.t hs
    replace hr := hr.st hs (by first | decide | (simp <;> omega)) (by first | decide | (simp <;> omega))
    replace hbest := hbest.t hs; replace hp := hp.t hs
    refine yN 58 52 ?_
    refine yF 59 128 58 4 5 ?_
    refine aN (k0 (.store 25 (.tmp 59) (.tmp 54))) rfl (a_store1 rfl rfl (by kernel_rfl) hp.one.1 hp.one.2 hx (by simp)) ?_
    rintro _ w8 ⟨rfl, hs, hx⟩
    refine ⟨trivial, ?_⟩
    replace hF := hF.st hs
    replace hT := hT.t hs; replace hl := hl.t hs; replace ho := ho.t hs
    replace hr := hr.st hs (by first | decide | (simp <;> omega)) (by first | decide | (simp <;> omega))
    replace hbest := hbest.t hs; replace hp := hp.t hs
    refine yN 60 53 ?_
    refine yF 61 128 60 5 6 ?_
    refine aN (k0 (.store 3 (.tmp 61) (.tmp 55))) rfl (a_store1 rfl rfl (by kernel_rfl) rfl rfl hx (by simp)) ?_
    rintro _ w9 ⟨rfl, hs, hx⟩
    refine ⟨trivial, ?_⟩
    replace hF := hF.st hs
    replace hT := hT.t hs; replace hl := hl.t hs; replace ho := ho.t hs
    replace hr := hr.st hs (by first | decide | (simp <;> omega)) (by first | decide | (simp <;> omega))
    replace hbest := hbest.t hs; replace hp := hp.t hs
    refine Sch.nil ?_
    refine run_end0 Tryz.func126 rfl ?_
    have hff : finF l st rows = ⟨true, bigs rows, valueB l (bigs rows)⟩ := finF_new hfin (.inr (by omega))
    rw [hff]
    exact ⟨_, rfl, hT.outP, outP_lim hT hF0 hF, ⟨vs, us, vp, hx.outP hT (.inl rfl), ho.outP hT hF0 (.inr (.inl rfl)), hr.outP hT hF0 (.inr (.inr rfl)), hp.outR hT hF0 (by decide) (by omega)⟩⟩
   ·
    refine run_pl [yy 0, yy 1, yy 2, nn 3, yy 4, yy 5, yy 6, yy 7, yy 8, yy 9, nn 10, yy 11, yy 12] ?_
    refine yM 38 0 ?_
    refine yN 39 38 ?_
    refine yF 40 128 39 3 4 ?_
    refine nS (kq 41 (.load 4 (.tmp 40))) rfl rfl trivial (val_loadOwn hx.at_ (by kernel_rfl) rfl rfl) ?_
    rw [show st.found = true from hfd]
    refine yV (kq 42 (.unOp .not 4 (.tmp 41))) (fun _ => val_not rfl) ?_
    refine yM 43 42 ?_
    refine yMg 44 5 5 false ?_
    refine yMg 45 0 5 false ?_
    refine yV (kg 46 (.nilCheck (.tmp 45)) 5 false) (fun _ => val_nilCheck rfl) ?_
    refine yFg 47 128 46 5 6 5 false ?_
    refine nS (kg 48 (.load 3 (.tmp 47)) 5 false) rfl rfl trivial (val_loadOwn hx.at_ (by kernel_rfl) rfl rfl) ?_
    refine yV (kg 49 (.binOp .gtr 3 (.tmp 44) (.tmp 48) 3) 5 false) (fun _ => val_F (val_gtr rfl rfl) (by omega)) ?_
    refine yOf 50 43 49 ?_
    refine Sch.nil ?_
    refine run_cF 50 ?_
    refine run_sk ?_
    refine run_end0 Tryz.func126 rfl ?_
    have hff : finF l st rows = st := finF_less hfd (by omega)
    rw [hff]
    exact ⟨_, rfl, hT.outP, outP_lim hT hF0 hF, ⟨vs, us, vbest, hx.outP hT (.inl rfl), ho.outP hT hF0 (.inr (.inl rfl)), hr.outP hT hF0 (.inr (.inr rfl)), hbest.outP hT hF0⟩⟩
  ·
   refine run_pl [yy 0, yy 1, yy 2, nn 3, yy 4, yy 5, yy 6, yy 7, yy 8, yy 9, nn 10, yy 11, yy 12] ?_
   refine yM 38 0 ?_
   refine yN 39 38 ?_
   refine yF 40 128 39 3 4 ?_
   refine nS (kq 41 (.load 4 (.tmp 40))) rfl rfl trivial (val_loadOwn hx.at_ (by kernel_rfl) rfl rfl) ?_
   rw [show st.found = false from (Bool.eq_false_iff.2 hfd)]
   refine yV (kq 42 (.unOp .not 4 (.tmp 41))) (fun _ => val_not rfl) ?_
   refine yM 43 42 ?_
   refine pX 44 5 false ?_
   refine pX 45 5 false ?_
   refine pX 46 5 false ?_
   refine pX 47 5 false ?_
   refine pW (kg 48 (.load 3 (.tmp 47)) 5 false) rfl rfl trivial ?_
   refine pX 49 5 false ?_
   refine yOt 50 43 49 ?_
   refine Sch.nil ?_
   refine run_cT 50 ?_
   refine run_pl [yy 0, yy 1, yy 2, yy 3, yy 4, yy 5, yy 6, nn 7, yy 8, yy 9, nn 10, yy 11, yy 12, nn 13] ?_
   refine yM 51 0 ?_
   refine yM 52 0 ?_
   refine yM 53 0 ?_
   refine yM 54 2 ?_
   refine yM 55 5 ?_
   refine yN 56 51 ?_
   refine yF 57 128 56 3 4 ?_
   refine aN (k0 (.store 4 (.tmp 57) (.const (.bool true)))) rfl (a_store1 rfl rfl (by kernel_rfl) rfl rfl hx (by simp)) ?_
   rintro _ w10 ⟨rfl, hs, hx⟩
   refine ⟨trivial, ?_⟩
   replace hF := hF.st hs
   replace hT := hT.t hs; replace hl := hl.t hs; replace ho := ho.t hs
   replace hr := hr.st hs (by first | decide | (simp <;> omega)) (by first | decide | (simp <;> omega))
   replace hbest := hbest.t hs; replace hp := hp.t hs
   refine yN 58 52 ?_
   refine yF 59 128 58 4 5 ?_
   refine aN (k0 (.store 25 (.tmp 59) (.tmp 54))) rfl (a_store1 rfl rfl (by kernel_rfl) hp.one.1 hp.one.2 hx (by simp)) ?_
   rintro _ w11 ⟨rfl, hs, hx⟩
   refine ⟨trivial, ?_⟩
   replace hF := hF.st hs
   replace hT := hT.t hs; replace hl := hl.t hs; replace ho := ho.t hs
   replace hr := hr.st hs (by first | decide | (simp <;> omega)) (by first | decide | (simp <;> omega))
   replace hbest := hbest.t hs; replace hp := hp.t hs
   refine yN 60 53 ?_
   refine yF 61 128 60 5 6 ?_
   refine aN (k0 (.store 3 (.tmp 61) (.tmp 55))) rfl (a_store1 rfl rfl (by kernel_rfl) rfl rfl hx (by simp)) ?_
   rintro _ w12 ⟨rfl, hs, hx⟩
   refine ⟨trivial, ?_⟩
   replace hF := hF.st hs
   replace hT := hT.t hs; replace hl := hl.t hs; replace ho := ho.t hs
   replace hr := hr.st hs (by first | decide | (simp <;> omega)) (by first | decide | (simp <;> omega))
   replace hbest := hbest.t hs; replace hp := hp.t hs
   refine Sch.nil ?_
   refine run_end0 Tryz.func126 rfl ?_
   have hff : finF l st rows = ⟨true, bigs rows, valueB l (bigs rows)⟩ := finF_new hfin (.inl (Bool.eq_false_iff.2 hfd))
   rw [hff]
   exact ⟨_, rfl, hT.outP, outP_lim hT hF0 hF, ⟨vs, us, vp, hx.outP hT (.inl rfl), ho.outP hT hF0 (.inr (.inl rfl)), hr.outP hT hF0 (.inr (.inr rfl)), hp.outR hT hF0 (by decide) (by omega)⟩⟩
end Go.Proofs.YtdmgmlmlielfbaaGreat
