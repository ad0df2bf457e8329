/- Steps through functions of the program. -/
import Derived.Test.YtdmgmlmlielfbaaGreatJC5
import Derived.Test.YtdmgmlmlielfbaaGreatL1
set_option linter.unusedVariables false
set_option linter.unusedSimpArgs false
set_option maxRecDepth 100000
set_option maxHeartbeats 4000000
namespace Go.Proofs.YtdmgmlmlielfbaaGreat
open Go.K Go.K.Rep
noncomputable section
namespace F62
def c0 := bodyOf Tryz.f62
def c18 := (cr (cr (cr (cr (cr c0)))))
def c25 := (cr (cl (cl (cr (cl c18)))))
def c35 := (cr (cr (cl (cl (cr c25)))))
def o16 := rops (cr (cr c35))
end F62
theorem of_ok {w₀ : World} {C : Nat → Nat} {l : List Bond} {vl : Value} (hF : Lim w₀ C) (hl : RV w₀ (Mc C) l vl) (hlen : l.length ≤ 100000) :
    Calls Tryz.prog 62 #[vl] w₀ (Ret fun v w' => ∃ u, v = .tuple #[u, .int .i64 (checkS l)] ∧ Stp [] w₀ C w' C ∧ (checkS l ≠ 0 → u = .slice none 0 0) ∧ RV w' (Mc C) (if checkS l = 0 then partsS l else []) u) := by
 have hF0 := hF
 have hT := Stp.refl [2, 3, 4, 5, 6, 7, 8, 9] w₀ (col1 C)
 replace hF := hF.col1
 replace hl := hl.c1
 refine c_st F62.c0 59 [vl] Tryz.func62 ?_
 show Run _ _ _ _ [(0, vl)] _ _
 refine run_sq (run_pl [yy 0, yy 1] ?_)
 refine yV (kq 2 (.assign (.const (.slice none 0 0)))) (fun _ => val_assign rfl) ?_
 refine yAc 3 (.int .i64 0) ?_
 refine Sch.nil (run_sq (run_sq (run_pl [yy 0, nn 1, yy 2] ?_)))
 refine yM 13 0 ?_
 refine cG 14 92 [13] [23] Tryz.call92 rfl (check_ok hF hl) ?_
 rintro vw1 w1 ⟨rfl, s_1⟩
 refine yA 4 14 ?_
 refine Sch.nil (run_sq (run_pl [yy 0, yy 1] ?_))
 refine yM 15 4 ?_
 refine yV (kq 16 (.binOp .neq 36 (.tmp 15) (.const (.int .i64 0)) 36)) (fun _ => val_neq rfl rfl) ?_
 refine Sch.nil ?_
 refine run_i 16 rfl (fun h16 => ?_) (fun h16 => ?_)
 ·
  refine run_sq (run_pl [yy 0, yy 1, yy 2] ?_)
  refine yM 17 4 ?_
  refine yV (kq 2 (.assign (.const (.slice none 0 0)))) (fun _ => val_assign rfl) ?_
  refine yA 3 17 ?_
  refine Sch.nil ?_
  refine run_ret2 (by kernel_rfl) Tryz.func62 Tryz.results62 rfl rfl ?_
  replace hT := hT.t s_1
  exact ⟨_, rfl, hT.out1 (by decide), fun _ => rfl, by rw [if_neg h16]; exact rv_nil⟩
 have hck : checkS l = 0 := Classical.not_not.1 h16
 have hl4 := checkS_len hck
 have hrl2 := refsS_len l
 refine run_sk (run_sq (run_pl [yy 0, nn 1, yy 2] ?_))
 refine yM 18 0 ?_
 replace hF := hF.st s_1; replace hl := hl.t s_1
 refine cG 19 100 [18] [23] Tryz.call100 rfl (grown_ok hF hl hlen 4 (by decide)) ?_
 rintro vw2 w2 ⟨Cg, bf, uf, df, rfl, s_2, hF, hm, hf, hdom⟩
 refine yA 5 19 ?_
 refine Sch.nil (run_sq (run_pl [nn 0, yy 1] ?_))
 refine aT (kq 20 (.makeMap 94 none)) rfl rfl (a_makeMap hF 5 kvC vvN) ?_
 rintro _ wm ⟨Cm, ba, rfl, s_3, hat, hF⟩
 refine yA 6 20 ?_
 refine Sch.nil (run_sq (run_pl [yy 0] ?_))
 refine yV (kq 7 (.assign (.const (.slice none 0 0)))) (fun _ => val_assign rfl) ?_
 refine Sch.nil (run_sq (run_sq (run_pl [yy 0, nn 1, yy 2, yy 3] ?_)))
 refine yM 21 0 ?_
 replace hl := (hl.t s_2).t s_3
 refine cG 22 72 [21] [23] Tryz.call72 rfl (refs_ok hF hl hlen) ?_
 rintro vR w3 ⟨s_4, hrs⟩
 refine yS (kq 23 (.call { callee := .builtin .len, args := #[(.tmp 22)], argTypes := #[53] })) rfl rfl (fun w' hS => hrs.lenV rfl Tryz.underlying53 w' ) ?_
 refine yC 24 (.int .i64 0) ?_
 refine Sch.nil (run_bk 0 ?_)
 replace hT := (((hT.t s_1).t s_2).t s_3).t s_4
 replace hT : Stp ([2, 3, 4, 5, 6, 7, 8, 9] ++ List.range' 10 (2 * l.length + 1)) w₀ (col1 C) _ _ := hT.mono (by intro c hc; exact List.mem_append_left _ hc)
 refine run_lp (ι := Nat × (List (Couple × Couple)) × (List (Couple × Nat)) × Value × (Nat → Value) × (Nat → Nat)) (I := fun x w => x.1 ≤ (refsS l).length ∧ Frst x.2.1 (rhoS l) df ∧ Dom x.2.1 (refsS l) ∧ AtIs x.2.2.1 ((firstsS (rhoS l) ((refsS l).take x.1)).map (rhoS l)) ∧ Lim w x.2.2.2.2.2 ∧ Stp ([2, 3, 4, 5, 6, 7, 8, 9] ++ List.range' 10 (2 * l.length + 1)) w₀ (col1 C) w x.2.2.2.2.2 ∧ RV w (Mc x.2.2.2.2.2) (refsS l) vR ∧ OwnM w x.2.2.2.2.2 4 bf kvC kvC x.2.1 ∧ OwnM w x.2.2.2.2.2 5 ba kvC vvN x.2.2.1 ∧ OwnL w x.2.2.2.2.2 3 53 x.2.2.2.1 (svsF x.2.2.2.2.1 (firstsS (rhoS l) ((refsS l).take x.1)).length) ∧ (∀ i, i < (firstsS (rhoS l) ((refsS l).take x.1)).length → OwnL w x.2.2.2.2.2 (10 + i) 47 (x.2.2.2.2.1 i) ((groupS (rhoS l) ((refsS l).take x.1)).getD i []))) (e := fun x => [(5, .map (some bf)), (6, .map (some ba)), (7, x.2.2.2.1), (22, vR), (23, .int .i64 (refsS l).length), (24, .int .i64 x.1)]) (m := fun x => (refsS l).length - x.1) (x₀ := (0, uf, [], .slice none 0 0, fun _ => .slice none 0 0, Cm)) (sr 5 (sr 6 (sr 7 (sr 22 (sr 23 (sr 24 (sub_nil _))))))) ?_ ?_
 ·
   replace hm := (hm.t s_3).t s_4; replace hF := hF.st s_4; replace hat := hat.t s_4
   exact ⟨Nat.zero_le _, hf, hdom, AtIs.nil, hF, hT, hrs, hm, hat, OwnL.nil, fun i hi => by simp [firstsS] at hi⟩
 intro ⟨k, uf, ua, vo, vf, C1⟩ w4 hI next1
 obtain ⟨hk, hf, hdom, hai, hF, hT, hrs, hm, hat, ho, hin⟩ := hI
 try simp only at hk hf hdom hai hF hT hrs hm hat ho hin
 show Run _ _ _ _ [(5, .map (some bf)), (6, .map (some ba)), (7, vo), (22, vR), (23, .int .i64 (refsS l).length), (24, .int .i64 k)] _ _
 have hns := (firsts_sub (rhoS l) ((refsS l).take k)).length_le
 rw [List.length_take] at hns
 obtain ⟨n, hn⟩ : ∃ n, n = (firstsS (rhoS l) ((refsS l).take k)).length := ⟨_, rfl⟩
 rw [← hn] at ho hin hns
 have hsl := svsF_len vf n
 refine run_sq (run_pl [yy 0] ?_)
 refine yL 25 3 24 23 ?_
 refine Sch.nil (run_sq ?_)
 refine run_i 25 rfl (fun h25 => ?_) (fun h25 => ?_)
 ·
  have hkl : k < (refsS l).length := by omega
  have hinR := hdom ((refsS l)[k]'hkl) (List.getElem_mem hkl)
  have htk := List.take_succ_eq_append_getElem hkl
  refine run_sk (run_sq (run_bk 1 (run_sq (run_pl [yy 0, nn 1, nn 2, nn 3] ?_))))
  refine iR 47 26 53 22 24 hrs rfl (h := ?_)
  intro b26 o26 h26
  try simp only [Int.toNat_natCast] at h26
  refine lNA (kq 27 (.load 47 (.tmp 26))) rfl rfl trivial h26 (by kernel_rfl) (by kernel_rfl) rfl rfl ?_
  intro v27 g27
  obtain rfl := rv_couple.1 g27
  refine aT (kq 9 (.alloc 47)) rfl rfl (a_alloc (cs := [.int .i64 0, .int .i64 0]) hF 6 (by kernel_rfl)) ?_
  rintro _ w5 ⟨Cw5, bw5, rfl, s_5, hx, hF⟩
  replace hin := fun k hk => (hin k hk).st s_5 (by simp <;> omega) (by simp <;> omega)
  refine aU (k0 (.store 47 (.tmp 9) (.tmp 27))) rfl (a_storeAll (vs := encR ((refsS l)[k]'hkl)) (n := 2) rfl rfl (by kernel_rfl) rfl rfl (by intro u hu; simp only [encR, List.mem_cons, List.not_mem_nil, or_false] at hu; rcases hu with rfl | rfl <;> rfl) hx rfl) ?_
  rintro _ w6 ⟨rfl, s_6, hx⟩
  replace hin := fun k hk => (hin k hk).st s_6 (by simp <;> omega) (by simp <;> omega)
  refine Sch.nil (run_sq (run_pl [yy 0, nn 1, nn 2, nn 3, nn 4] ?_))
  refine yM 28 5 ?_
  refine nS (kq 29 (.load 47 (.tmp 9))) rfl rfl trivial (val_loadOwnAgg (n := 2) (vs := encR ((refsS l)[k]'hkl)) hx.at_ (by kernel_rfl) (by kernel_rfl) rfl rfl rfl) ?_
  replace hm := (hm.t s_5).t s_6; replace hF := hF.st s_6
  refine cG 30 101 [28, 29] [139, 47] Tryz.call101 rfl (root_ok (r := (refsS l)[k]'hkl) hF (by decide) hm hf hinR) ?_
  rintro vw7 w7 ⟨rfl, s_7, u2, hm, hf, hra, hda, _⟩
  replace hin := fun k hk => (hin k hk).st s_7 (by simp <;> omega) (by simp <;> omega)
  replace hF := hF.st s_7
  refine aT (kq 10 (.alloc 47)) rfl rfl (a_alloc (cs := [.int .i64 0, .int .i64 0]) hF 7 (by kernel_rfl)) ?_
  rintro _ w8 ⟨Cw8, bw8, rfl, s_8, hy, hF⟩
  replace hin := fun k hk => (hin k hk).st s_8 (by simp <;> omega) (by simp <;> omega)
  refine aU (k0 (.store 47 (.tmp 10) (.tmp 30))) rfl (a_storeAll (vs := encR (rhoS l ((refsS l)[k]'hkl))) (n := 2) rfl rfl (by kernel_rfl) rfl rfl (by intro u hu; simp only [encR, List.mem_cons, List.not_mem_nil, or_false] at hu; rcases hu with rfl | rfl <;> rfl) hy rfl) ?_
  rintro _ w9 ⟨rfl, s_9, hy⟩
  replace hin := fun k hk => (hin k hk).st s_9 (by simp <;> omega) (by simp <;> omega)
  refine Sch.nil (run_sq ?_)
  by_cases hA : (mget ua (rhoS l ((refsS l)[k]'hkl))).isSome = true
  ·
   refine run_pl [yy 0, nn 1, nn 2, yy 3, yy 4, yy 5, yy 6, yy 7] ?_
   refine yM 32 6 ?_
   refine nS (kq 33 (.load 47 (.tmp 10))) rfl rfl trivial (val_loadOwnAgg (n := 2) (vs := encR (rhoS l ((refsS l)[k]'hkl))) hy.at_ (by kernel_rfl) (by kernel_rfl) rfl rfl rfl) ?_
   obtain ⟨i0, hi0e⟩ := Option.isSome_iff_exists.1 hA
   obtain ⟨hi0l, hi0v⟩ := hai.lt hi0e
   simp only [List.length_map, List.getElem_map] at hi0l hi0v
   have hi0 : i0 < n := by rw [hn]; exact hi0l
   replace hat := ((((hat.t s_5).t s_6).t s_7).t s_8).t s_9
   refine nS (kq 34 (.lookup 94 (.tmp 32) (.tmp 33) true)) rfl rfl trivial (val_is (hat.lookupOk (z0 := (0 : Nat)) (k := rhoS l ((refsS l)[k]'hkl)) Tryz.underlying94 (keyOK_couple Tryz.underlying47 (by decide) (by decide) (by kernel_rfl) Tryz.underlying3) Tryz.zeroValue3 rfl rfl) (show _ = Value.tuple #[.int .i64 ((i0 : Nat) : Int), .bool true] from by rw [hi0e]; rfl)) ?_
   refine yM 31 34 ?_
   refine yE 35 31 0 ?_
   refine yE 36 31 1 ?_
   refine yA 11 35 ?_
   refine yA 12 36 ?_
   refine Sch.nil (run_sq (run_sq (run_pl [yy 0, yy 1] ?_)))
   refine yM 37 12 ?_
   refine yV (kq 38 (.unOp .not 4 (.tmp 37))) (fun _ => val_not rfl) ?_
   refine Sch.nil (run_cF 38 (run_sk ?_))
   refine run_draw (id := 16) (ops := F62.o16) [10 + i0] (Cw8) [yy 0, yy 1, yy 2, yy 3, yy 4, yy 5, yy 6, nn 7, nn 8, yy 9, nn 10] Tryz_mixed (by kernel_rfl) (by kernel_rfl) (by kernel_rfl) ?_
   intro w10 s_10
   replace hin := fun k hk => (hin k hk).st s_10 (by simp <;> omega) (by simp <;> omega)
   have hR := Stp.refl [10 + i0] w10 (Cw8)
   refine yM 47 7 ?_
   refine yM 48 11 ?_
   refine yM 49 7 ?_
   refine yM 50 11 ?_
   replace ho := (((((ho.t s_5).t s_6).t s_7).t s_8).t s_9).t s_10
   refine oR 53 51 25 49 50 ho rfl (by omega) (h := ?_)
   intro g51 hg51
   try simp only [Int.toNat_natCast]
   refine oS (I := [10 + i0]) (kq 52 (.load 53 (.tmp 51))) rfl rfl ho hg51 (fun w' hS => ho.sy hg51 hS) (by omega) (by kernel_rfl) rfl rfl ?_
   intro v52 g52
   try simp only [Int.toNat_natCast] at g52
   obtain ⟨e52, _⟩ := rv_sv.1 g52
   rw [svsF_get] at e52
   subst e52
   have hgl := (hin i0 hi0).own.len
   have hgn : ((groupS (rhoS l) ((refsS l).take k)).getD i0 []).length ≤ (refsS l).length := getD_group_len _ _ _ (by rw [List.length_take]; omega)
   replace hx := (((hx.t s_7).t s_8).t s_9).t s_10
   refine yS (kq 53 (.load 47 (.tmp 9))) rfl rfl (fun w' hS => val_loadOwnAgg (n := 2) (vs := encR ((refsS l)[k]'hkl)) (hx.stay hS (by simp <;> omega)) (by kernel_rfl) (by kernel_rfl) rfl rfl rfl) ?_
   replace hF := (hF.st s_9).st s_10
   refine aS (kq 54 (.buildSlice 53 1 #[(0, (.tmp 53))])) rfl rfl (a_buildSlice (ys := ([(refsS l)[k]'hkl] : List Couple)) (e := 47) (bytes := 16) hF (by kernel_rfl) rfl (by decide) (by decide) ⟨rfl, ⟨_, rfl, rv_couple.2 rfl⟩, trivial⟩) ?_
   rintro v54 w11 ⟨s_11, g54, hF⟩
   refine ⟨(hR.trans s_11 (by simp)).ext, ?_⟩
   replace hin := fun k hk => (hin k hk).st s_11 (by simp <;> omega) (by simp <;> omega)
   refine aS (kq 55 (.call { callee := .builtin .append, args := #[(.tmp 52), (.tmp 54)], argTypes := #[53, 53] })) rfl rfl (a_append (e := 47) (bytes := 16) hF (by omega) rfl rfl (by kernel_rfl) (by decide) (hin i0 hi0) g54 (by simp only [List.length_cons, List.length_nil]; omega) (by simp only [List.length_cons, List.length_nil]; omega)) ?_
   rintro v55 w12 ⟨Cw12, s_12, h55, hF⟩
   replace hR := hR.t s_11
   refine ⟨(hR.trans s_12 (by simp)).ext, ?_⟩
   replace hT := ((((((hT.t s_5).t s_6).t s_7).t s_8).t s_9).t s_10).t s_11
   replace hT := hT.trans s_12 (by simp <;> omega)
   replace hR := hR.trans s_12 (by simp <;> omega)
   replace hin := fun k hk (hne : k ≠ i0) => (hin k hk).st s_12 (by simp <;> omega) (by simp <;> omega)
   replace ho := (ho.t s_11).t s_12
   refine oR 53 56 25 47 48 ho rfl (by omega) (h := ?_)
   intro g56 hg56
   try simp only [Int.toNat_natCast]
   refine Sch.free rfl ?_
   refine aU (k0 (.store 53 (.tmp 56) (.tmp 55))) rfl (a_storeO ho hg56 (by omega) rfl rfl (by kernel_rfl) (rv_sv.2 ⟨rfl, h55.one.2⟩)) ?_
   rintro _ w13 ⟨rfl, s_13, ho⟩
   replace h55 := h55.st s_13 (by first | decide | (simp <;> omega)) (by first | decide | (simp <;> omega))
   replace hin := fun k hk hne => (hin k hk hne).st s_13 (by simp <;> omega) (by simp <;> omega)
   refine Sch.nil (run_inBlock (run_pl [yy 0, yy 1] ?_))
   refine yI 57 3 24 1 ?_
   refine yM 24 57 ?_
   refine Sch.nil ?_
   obtain ⟨hst1, hst2⟩ := groupS_stepO (f := rhoS l) (r := (refsS l)[k]'hkl) hi0l hi0v
   rw [← htk] at hst1 hst2
   have hst3 : (firstsS (rhoS l) ((refsS l).take (k + 1))).length = n := by rw [hst1]; exact hn.symm
   replace hrs := ((((((((hrs.t s_5).t s_6).t s_7).t s_8).t s_9).t s_10).t s_11).t s_12).t s_13; replace hm := (((((hm.t s_8).t s_9).t s_10).t s_11).t s_12).t s_13; replace hat := (((hat.t s_10).t s_11).t s_12).t s_13; replace hF := hF.st s_13; replace hT := hT.t s_13
   refine kp (sub_cons 5 rfl rfl (sub_cons 6 rfl rfl (sub_cons 7 rfl rfl (sub_cons 22 rfl rfl (sub_cons 23 rfl rfl (sub_cons 24 rfl (eq_int (by simp)) (sub_nil _))))))) (next1 (k + 1, u2, ua, vo, updV vf i0 v55, Cw12) _ ⟨(by first | omega | (simp only; omega)), (by first | omega | (simp only; omega)), (fun s s_13 => hda _ (hdom s s_13)), (by simp only; rw [hst1]; exact hai), hF, hT, hrs, hm, hat, (by simp only; rw [hst3, ← svsF_set]; exact ho), (fun i hi => by
        simp only at hi ⊢
        rw [hst3] at hi
        rw [hst2]
        by_cases e : i = i0
        · subst e; simp only [updV, if_pos]; exact h55
        · simp only [updV, if_neg e]; have := hin i hi e; simpa only [updV, if_neg e] using this)⟩ (by first | omega | (simp only; omega)))
  refine run_pl [yy 0, nn 1, nn 2, yy 3, yy 4, yy 5, yy 6, yy 7] ?_
  refine yM 32 6 ?_
  refine nS (kq 33 (.load 47 (.tmp 10))) rfl rfl trivial (val_loadOwnAgg (n := 2) (vs := encR (rhoS l ((refsS l)[k]'hkl))) hy.at_ (by kernel_rfl) (by kernel_rfl) rfl rfl rfl) ?_
  have hno : mget ua (rhoS l ((refsS l)[k]'hkl)) = none := by simpa using hA
  replace hat := ((((hat.t s_5).t s_6).t s_7).t s_8).t s_9
  refine nS (kq 34 (.lookup 94 (.tmp 32) (.tmp 33) true)) rfl rfl trivial (val_is (hat.lookupOk (z0 := (0 : Nat)) (k := rhoS l ((refsS l)[k]'hkl)) Tryz.underlying94 (keyOK_couple Tryz.underlying47 (by decide) (by decide) (by kernel_rfl) Tryz.underlying3) Tryz.zeroValue3 rfl rfl) (show _ = Value.tuple #[.int .i64 ((0 : Nat) : Int), .bool false] from by rw [hno]; rfl)) ?_
  refine yM 31 34 ?_
  refine yE 35 31 0 ?_
  refine yE 36 31 1 ?_
  refine yA 11 35 ?_
  refine yA 12 36 ?_
  refine Sch.nil (run_sq (run_sq (run_pl [yy 0, yy 1] ?_)))
  refine yM 37 12 ?_
  refine yV (kq 38 (.unOp .not 4 (.tmp 37))) (fun _ => val_not rfl) ?_
  refine Sch.nil (run_cT 38 (run_sq (run_pl [yy 0, yy 1, yy 2] ?_)))
  refine yM 39 7 ?_
  replace ho := ((((ho.t s_5).t s_6).t s_7).t s_8).t s_9
  refine yS (kq 40 (.call { callee := .builtin .len, args := #[(.tmp 39)], argTypes := #[25] })) rfl rfl (fun w' hS => ho.lenV rfl Tryz.underlying25 w' ) ?_
  refine yA 11 40 ?_
  refine Sch.nil (run_sq (run_pl [yy 0, nn 1, yy 2, nn 3] ?_))
  refine yM 41 6 ?_
  refine nS (kq 42 (.load 47 (.tmp 10))) rfl rfl trivial (val_loadOwnAgg (n := 2) (vs := encR (rhoS l ((refsS l)[k]'hkl))) hy.at_ (by kernel_rfl) (by kernel_rfl) rfl rfl rfl) ?_
  refine yM 43 11 ?_
  refine aU (k0 (.mapUpdate 94 (.tmp 41) (.tmp 42) (.tmp 43))) rfl (a_mapUpdate (k := rhoS l ((refsS l)[k]'hkl)) (u := (svsF vf n).length) hat Tryz.underlying94 (keyOK_couple Tryz.underlying47 (by decide) (by decide) (by kernel_rfl) Tryz.underlying3) rfl rfl rfl) ?_
  rintro _ w14 ⟨rfl, s_14, hat⟩
  replace hin := fun k hk => (hin k hk).st s_14 (by simp <;> omega) (by simp <;> omega)
  refine Sch.nil (run_pl [yy 0, nn 1, nn 2, yy 3] ?_)
  refine yM 44 7 ?_
  replace hF := (hF.st s_9).st s_14
  refine aT (kq 45 (.buildSlice 25 1 #[(0, (.const (.slice none 0 0)))])) rfl rfl (a_buildSlice (ys := ([⟨.slice none 0 0⟩] : List Sv)) (e := 53) (bytes := 24) hF (by kernel_rfl) rfl (by decide) (by decide) ⟨rfl, ⟨_, rfl, rv_sv.2 ⟨rfl, rfl⟩⟩, trivial⟩) ?_
  rintro v45 w15 ⟨s_15, g45, hF⟩
  replace hin := fun k hk => (hin k hk).st s_15 (by simp <;> omega) (by simp <;> omega)
  replace ho := (ho.t s_14).t s_15
  refine aT (kq 46 (.call { callee := .builtin .append, args := #[(.tmp 44), (.tmp 45)], argTypes := #[25, 25] })) rfl rfl (a_append (e := 53) (bytes := 24) hF (by decide) rfl rfl (by kernel_rfl) (by decide) ho g45 (by simp only [List.length_cons, List.length_nil]; omega) (by simp only [List.length_cons, List.length_nil]; omega)) ?_
  rintro v46 w16 ⟨Cw16, s_16, ho, hF⟩
  replace hin := fun k hk => (hin k hk).st s_16 (by simp <;> omega) (by simp <;> omega)
  rw [svsF_snoc] at ho
  have hin2 : ∀ i, i < n + 1 → OwnL _ _ (10 + i) 47 (updV vf n (.slice none 0 0) i) ((groupS (rhoS l) ((refsS l).take k)).getD i []) := fun i hi => by
    by_cases e : i = n
    · subst e; simp only [updV, if_pos]; rw [groupS_none (by omega)]; exact OwnL.nil
    simp only [updV, if_neg e]; exact hin i (by omega)
  clear hin
  have hin := hin2; clear hin2
  have hi0 : n < n + 1 := Nat.lt_succ_self n
  have hsl2 := svsF_len (updV vf n (.slice none 0 0)) (n + 1)
  rw [hsl]
  refine yA 7 46 ?_
  refine Sch.nil ?_
  refine run_draw (id := 16) (ops := F62.o16) [10 + n] (Cw16) [yy 0, yy 1, yy 2, yy 3, yy 4, yy 5, yy 6, nn 7, nn 8, yy 9, nn 10] Tryz_mixed (by kernel_rfl) (by kernel_rfl) (by kernel_rfl) ?_
  intro w17 s_17
  replace hin := fun k hk => (hin k hk).st s_17 (by simp <;> omega) (by simp <;> omega)
  have hR := Stp.refl [10 + n] w17 (Cw16)
  refine yM 47 7 ?_
  refine yM 48 11 ?_
  refine yM 49 7 ?_
  refine yM 50 11 ?_
  replace ho := ho.t s_17
  refine oR 53 51 25 49 50 ho rfl (by omega) (h := ?_)
  intro g51 hg51
  try simp only [Int.toNat_natCast]
  refine oS (I := [10 + n]) (kq 52 (.load 53 (.tmp 51))) rfl rfl ho hg51 (fun w' hS => ho.sy hg51 hS) (by omega) (by kernel_rfl) rfl rfl ?_
  intro v52 g52
  try simp only [Int.toNat_natCast] at g52
  obtain ⟨e52, _⟩ := rv_sv.1 g52
  rw [svsF_get] at e52
  subst e52
  have hgl := (hin n hi0).own.len
  have hgn : ((groupS (rhoS l) ((refsS l).take k)).getD n []).length ≤ (refsS l).length := getD_group_len _ _ _ (by rw [List.length_take]; omega)
  replace hx := ((((((hx.t s_7).t s_8).t s_9).t s_14).t s_15).t s_16).t s_17
  refine yS (kq 53 (.load 47 (.tmp 9))) rfl rfl (fun w' hS => val_loadOwnAgg (n := 2) (vs := encR ((refsS l)[k]'hkl)) (hx.stay hS (by simp <;> omega)) (by kernel_rfl) (by kernel_rfl) rfl rfl rfl) ?_
  replace hF := hF.st s_17
  refine aS (kq 54 (.buildSlice 53 1 #[(0, (.tmp 53))])) rfl rfl (a_buildSlice (ys := ([(refsS l)[k]'hkl] : List Couple)) (e := 47) (bytes := 16) hF (by kernel_rfl) rfl (by decide) (by decide) ⟨rfl, ⟨_, rfl, rv_couple.2 rfl⟩, trivial⟩) ?_
  rintro v54 w18 ⟨s_18, g54, hF⟩
  refine ⟨(hR.trans s_18 (by simp)).ext, ?_⟩
  replace hin := fun k hk => (hin k hk).st s_18 (by simp <;> omega) (by simp <;> omega)
  refine aS (kq 55 (.call { callee := .builtin .append, args := #[(.tmp 52), (.tmp 54)], argTypes := #[53, 53] })) rfl rfl (a_append (e := 47) (bytes := 16) hF (by omega) rfl rfl (by kernel_rfl) (by decide) (hin n hi0) g54 (by simp only [List.length_cons, List.length_nil]; omega) (by simp only [List.length_cons, List.length_nil]; omega)) ?_
  rintro v55 w19 ⟨Cw19, s_19, h55, hF⟩
  replace hR := hR.t s_18
  refine ⟨(hR.trans s_19 (by simp)).ext, ?_⟩
  replace hT := (((((((((hT.t s_5).t s_6).t s_7).t s_8).t s_9).t s_14).t s_15).t s_16).t s_17).t s_18
  replace hT := hT.trans s_19 (by simp <;> omega)
  replace hR := hR.trans s_19 (by simp <;> omega)
  replace hin := fun k hk (hne : k ≠ n) => (hin k hk).st s_19 (by simp <;> omega) (by simp <;> omega)
  replace ho := (ho.t s_18).t s_19
  refine oR 53 56 25 47 48 ho rfl (by omega) (h := ?_)
  intro g56 hg56
  try simp only [Int.toNat_natCast]
  refine Sch.free rfl ?_
  refine aU (k0 (.store 53 (.tmp 56) (.tmp 55))) rfl (a_storeO ho hg56 (by omega) rfl rfl (by kernel_rfl) (rv_sv.2 ⟨rfl, h55.one.2⟩)) ?_
  rintro _ w20 ⟨rfl, s_20, ho⟩
  replace h55 := h55.st s_20 (by first | decide | (simp <;> omega)) (by first | decide | (simp <;> omega))
  replace hin := fun k hk hne => (hin k hk hne).st s_20 (by simp <;> omega) (by simp <;> omega)
  refine Sch.nil (run_inBlock (run_pl [yy 0, yy 1] ?_))
  refine yI 57 3 24 1 ?_
  refine yM 24 57 ?_
  refine Sch.nil ?_
  obtain ⟨hst1, hst2⟩ := groupS_stepN (f := rhoS l) (xs := ((refsS l).take k)) (r := (refsS l)[k]'hkl) (fun q hq e => hai.none hno (List.mem_map.2 ⟨q, hq, e⟩)) hn
  rw [← htk] at hst1 hst2
  have hst3 : (firstsS (rhoS l) ((refsS l).take (k + 1))).length = (n + 1) := by rw [hst1]; rw [List.length_append, ← hn]; rfl
  replace hrs := (((((((((((hrs.t s_5).t s_6).t s_7).t s_8).t s_9).t s_14).t s_15).t s_16).t s_17).t s_18).t s_19).t s_20; replace hm := ((((((((hm.t s_8).t s_9).t s_14).t s_15).t s_16).t s_17).t s_18).t s_19).t s_20; replace hat := (((((hat.t s_15).t s_16).t s_17).t s_18).t s_19).t s_20; replace hF := hF.st s_20; replace hT := hT.t s_20
  refine kp (sub_cons 5 rfl rfl (sub_cons 6 rfl rfl (sub_cons 7 rfl rfl (sub_cons 22 rfl rfl (sub_cons 23 rfl rfl (sub_cons 24 rfl (eq_int (by simp)) (sub_nil _))))))) (next1 (k + 1, u2, mput ua (rhoS l ((refsS l)[k]'hkl)) (svsF vf n).length, v46, updV (updV vf n (.slice none 0 0)) n v55, Cw19) _ ⟨(by first | omega | (simp only; omega)), (by first | omega | (simp only; omega)), (fun s s_20 => hda _ (hdom s s_20)), (by
        have := hai.new hno
        simp only; rw [hst1, List.map_append, svsF_len, hn]; simpa using this), hF, hT, hrs, hm, hat, (by simp only; rw [hst3, ← svsF_set]; exact ho), (fun i hi => by
        simp only at hi ⊢
        rw [hst3] at hi
        rw [hst2]
        by_cases e : i = n
        · subst e; simp only [updV, if_pos]; exact h55
        · simp only [updV, if_neg e]; have := hin i hi e; simpa only [updV, if_neg e] using this)⟩ (by first | omega | (simp only; omega)))
 have hkl : k = (refsS l).length := by omega
 subst hkl
 rw [List.take_length] at hn hin hai
 refine run_ex 0 ?_
 refine run_sq (run_pl [yy 0, yy 1, yy 2] ?_)
 refine yM 58 7 ?_
 refine yA 2 58 ?_
 refine yAc 3 (.int .i64 0) ?_
 refine Sch.nil ?_
 refine run_ret2 (by kernel_rfl) Tryz.func62 Tryz.results62 rfl rfl ?_
 rw [hck]
 have hgl : (partsS l).length = n := by unfold partsS; rw [groupS_length, hn]
 rw [← hgl] at ho
 refine ⟨_, rfl, hT.out1 big_ge, fun e => absurd rfl e, ?_⟩
 rw [if_pos rfl]
 refine rv_lists (vf := vf) (ho.out hT hF0 (Mc_col1 C) (fun b _ => col1_lt C (by decide) b) (by rw [svsF_len]; omega)) fun i hi => ?_
 exact (hin i (by omega)).out hT hF0 (Mc_col1 C) (fun b _ => col1_lt C (by omega) b) (Nat.le_trans (getD_group_len (rhoS l) (refsS l) i (Nat.le_refl _)) (by omega))
end
end Go.Proofs.YtdmgmlmlielfbaaGreat
