/- Steps through functions of the program. -/
import Derived.Test.YtdmgmlmlielfbaaGreatJC6
set_option linter.unusedVariables false
set_option linter.unusedSimpArgs false
set_option maxRecDepth 100000
set_option maxHeartbeats 4000000
namespace Go.Proofs.YtdmgmlmlielfbaaGreat
open Go.K Go.K.Rep
noncomputable section
namespace F33
def c0 := bodyOf Tryz.f33
def c46 := (cr (cr (cr (cr (cr c0)))))
def c53 := (cl (cl (cr (cl (cr c46)))))
def c63 := (cr (cl (cl (cr (cr c53)))))
def o19 := rops (cr c63)
end F33
theorem split_ok {w₀ : World} {C : Nat → Nat} {l : List Bond} {vl : Value} (hF : Lim w₀ C) (hl : RV w₀ (Mc C) l vl) (hlen : l.length ≤ 100000) :
    Calls Tryz.prog 33 #[vl] w₀ (Ret fun v w' => ∃ u, v = .tuple #[u, .int .i64 (checkS l)] ∧ Stp [] w₀ C w' C ∧ RV w' (Mc C) (if checkS l = 0 then splitS l else []) u) := by
 have hF0 := hF
 have hT := Stp.refl [2, 3, 4, 5, 6, 7, 8, 9] w₀ (col1 C)
 replace hF := hF.col1
 replace hl := hl.c1
 refine c_st F33.c0 67 [vl] Tryz.func33 ?_
 show Run _ _ _ _ [(0, vl)] _ _
 refine run_sq (run_pl [yy 0, yy 1] ?_)
 refine yV (kq 2 (.assign (.const (.slice none 0 0)))) (fun _ => val_assign rfl) ?_
 refine yAc 3 (.int .i64 0) ?_
 refine Sch.nil (run_sq (run_pl [yy 0, nn 1, yy 2, yy 3, yy 4, yy 5, yy 6] ?_))
 refine yM 16 0 ?_
 refine cG 17 62 [16] [23] Tryz.call62 rfl (of_ok hF hl hlen) ?_
 rintro vw1 w1 ⟨u, rfl, s_1, _, hp⟩
 refine yM 15 17 ?_
 refine yE 18 15 0 ?_
 refine yE 19 15 1 ?_
 refine yA 4 18 ?_
 refine yA 5 19 ?_
 refine Sch.nil (run_sq (run_sq (run_pl [yy 0, yy 1] ?_)))
 refine yM 20 5 ?_
 refine yV (kq 21 (.binOp .neq 36 (.tmp 20) (.const (.int .i64 0)) 36)) (fun _ => val_neq rfl rfl) ?_
 refine Sch.nil ?_
 refine run_i 21 rfl (fun h21 => ?_) (fun h21 => ?_)
 ·
  refine run_sq (run_pl [yy 0, yy 1, yy 2] ?_)
  refine yM 22 5 ?_
  refine yV (kq 2 (.assign (.const (.slice none 0 0)))) (fun _ => val_assign rfl) ?_
  refine yA 3 22 ?_
  refine Sch.nil ?_
  refine run_ret2 (by kernel_rfl) Tryz.func33 Tryz.results33 rfl rfl ?_
  replace hT := hT.t s_1
  exact ⟨_, rfl, hT.out1 (by decide), by rw [if_neg h21]; exact rv_nil⟩
 have hck : checkS l = 0 := Classical.not_not.1 h21
 have hl4 := checkS_len hck
 have hpl := partsS_len l
 rw [if_pos hck] at hp
 refine run_sk (run_sq (run_pl [nn 0, yy 1] ?_))
 replace hF := hF.st s_1
 refine aT (kq 23 (.makeMap 94 none)) rfl rfl (a_makeMap hF 3 kvC vvN) ?_
 rintro _ wm ⟨Cm, bm, rfl, s_2, hm, hF⟩
 refine yA 6 23 ?_
 refine Sch.nil (run_sq (run_sq (run_pl [yy 0, yy 1, yy 2] ?_)))
 refine yM 24 4 ?_
 replace hp := hp.t s_2
 refine yS (kq 25 (.call { callee := .builtin .len, args := #[(.tmp 24)], argTypes := #[25] })) rfl rfl (fun w' hS => hp.lenV rfl Tryz.underlying25 w' ) ?_
 refine yC 26 (.int .i64 0) ?_
 refine Sch.nil (run_bk 0 ?_)
 replace hT := (hT.t s_1).t s_2
 replace hT : Stp ([2, 3, 4, 5, 6, 7, 8, 9] ++ List.range' 10 (2 * l.length + 1)) w₀ (col1 C) _ _ := hT.mono (by intro c hc; exact List.mem_append_left _ hc)
 refine run_lp (ι := Nat × (List (Couple × Nat)) × (Nat → Nat)) (I := fun x w => x.1 ≤ (partsS l).length ∧ Ix x.2.1 (partsS l) x.1 0 ∧ Lim w x.2.2 ∧ Stp ([2, 3, 4, 5, 6, 7, 8, 9] ++ List.range' 10 (2 * l.length + 1)) w₀ (col1 C) w x.2.2 ∧ RV w (Mc x.2.2) l vl ∧ RV w (Mc x.2.2) (partsS l) u ∧ OwnM w x.2.2 3 bm kvC vvN x.2.1) (e := fun x => [(0, vl), (4, u), (6, .map (some bm)), (24, u), (25, .int .i64 (partsS l).length), (26, .int .i64 x.1)]) (m := fun x => (partsS l).length - x.1) (x₀ := (0, [], Cm)) (sr 0 (sr 4 (sr 6 (sr 24 (sr 25 (sr 26 (sub_nil _))))))) ?_ ?_
 ·
   replace hl := (hl.t s_1).t s_2
   exact ⟨Nat.zero_le _, Ix.nil _, hF, hT, hl, hp, hm⟩
 intro ⟨k, um, C1⟩ w2 hI next1
 obtain ⟨hk, hix, hF, hT, hl, hp, hm⟩ := hI
 try simp only at hk hix hF hT hl hp hm
 show Run _ _ _ _ [(0, vl), (4, u), (6, .map (some bm)), (24, u), (25, .int .i64 (partsS l).length), (26, .int .i64 k)] _ _
 refine run_sq (run_pl [yy 0] ?_)
 refine yL 27 3 26 25 ?_
 refine Sch.nil (run_sq ?_)
 refine run_i 27 rfl (fun h27 => ?_) (fun h27 => ?_)
 ·
  have hkl : k < (partsS l).length := by omega
  have hgk : (partsS l).getD k [] = (partsS l)[k] := by rw [List.getD_eq_getElem?_getD, List.getElem?_eq_getElem hkl]; rfl
  refine run_sk (run_sq (run_bk 1 (run_sq (run_pl [yy 0, yy 1, nn 2, yy 3, yy 4] ?_))))
  refine yM 28 26 ?_
  refine iR 53 29 25 24 26 hp rfl (h := ?_)
  intro b29 o29 h29
  try simp only [Int.toNat_natCast] at h29
  refine lN (kq 30 (.load 53 (.tmp 29))) rfl rfl trivial h29 (by kernel_rfl) rfl rfl ?_
  intro v30 g30
  refine yA 7 28 ?_
  refine yA 8 30 ?_
  refine Sch.nil (run_sq (run_pl [yy 0, yy 1, yy 2] ?_))
  refine yM 31 8 ?_
  refine yS (kq 32 (.call { callee := .builtin .len, args := #[(.tmp 31)], argTypes := #[53] })) rfl rfl (fun w' hS => g30.lenV rfl Tryz.underlying53 w' ) ?_
  refine yC 33 (.int .i64 0) ?_
  refine Sch.nil (run_bk 2 ?_)
  refine run_lp (ι := Nat × (List (Couple × Nat)) × (Nat → Nat)) (I := fun x w => x.1 ≤ ((partsS l)[k]'hkl).length ∧ Ix x.2.1 (partsS l) k x.1 ∧ Lim w x.2.2 ∧ Stp ([2, 3, 4, 5, 6, 7, 8, 9] ++ List.range' 10 (2 * l.length + 1)) w₀ (col1 C) w x.2.2 ∧ RV w (Mc x.2.2) l vl ∧ RV w (Mc x.2.2) (partsS l) u ∧ OwnM w x.2.2 3 bm kvC vvN x.2.1 ∧ RV w (Mc x.2.2) ((partsS l)[k]'hkl) v30) (e := fun x => [(0, vl), (4, u), (6, .map (some bm)), (7, .int .i64 k), (24, u), (25, .int .i64 (partsS l).length), (26, .int .i64 k), (31, v30), (32, .int .i64 ((partsS l)[k]'hkl).length), (33, .int .i64 x.1)]) (m := fun x => ((partsS l)[k]'hkl).length - x.1) (x₀ := (0, um, C1)) (sr 0 (sr 4 (sr 6 (sr 7 (sr 24 (sr 25 (sr 26 (sr 31 (sr 32 (sr 33 (sub_nil _))))))))))) ?_ ?_
  · exact ⟨Nat.zero_le _, hix, hF, hT, hl, hp, hm, g30⟩
  intro ⟨j, um, C1⟩ w3 hI next2
  obtain ⟨hj, hix, hF, hT, hl, hp, hm, g30⟩ := hI
  try simp only at hj hix hF hT hl hp hm g30
  show Run _ _ _ _ [(0, vl), (4, u), (6, .map (some bm)), (7, .int .i64 k), (24, u), (25, .int .i64 (partsS l).length), (26, .int .i64 k), (31, v30), (32, .int .i64 ((partsS l)[k]'hkl).length), (33, .int .i64 j)] _ _
  have hgle := g30.le
  refine run_sq (run_pl [yy 0] ?_)
  refine yL 34 3 33 32 ?_
  refine Sch.nil (run_sq ?_)
  refine run_i 34 rfl (fun h34 => ?_) (fun h34 => ?_)
  ·
   have hjl : j < ((partsS l)[k]'hkl).length := by omega
   refine run_sk (run_sq (run_bk 3 (run_sq (run_pl [yy 0, nn 1, nn 2, nn 3] ?_))))
   refine iR 47 35 53 31 33 g30 rfl (h := ?_)
   intro b35 o35 h35
   try simp only [Int.toNat_natCast] at h35
   refine lNA (kq 36 (.load 47 (.tmp 35))) rfl rfl trivial h35 (by kernel_rfl) (by kernel_rfl) rfl rfl ?_
   intro v36 g36
   obtain rfl := rv_couple.1 g36
   refine aT (kq 10 (.alloc 47)) rfl rfl (a_alloc (cs := [.int .i64 0, .int .i64 0]) hF 5 (by kernel_rfl)) ?_
   rintro _ w4 ⟨Cw4, bw4, rfl, s_3, hx, hF⟩
   refine aU (k0 (.store 47 (.tmp 10) (.tmp 36))) rfl (a_storeAll (vs := encR ((((partsS l)[k]'hkl)[j]'hjl))) (n := 2) rfl rfl (by kernel_rfl) rfl rfl (by intro u hu; simp only [encR, List.mem_cons, List.not_mem_nil, or_false] at hu; rcases hu with rfl | rfl <;> rfl) hx rfl) ?_
   rintro _ w5 ⟨rfl, s_4, hx⟩
   refine Sch.nil (run_pl [yy 0, nn 1, yy 2, nn 3] ?_)
   refine yM 37 6 ?_
   refine nS (kq 38 (.load 47 (.tmp 10))) rfl rfl trivial (val_loadOwnAgg (n := 2) (vs := encR (((partsS l)[k]'hkl)[j]'hjl)) hx.at_ (by kernel_rfl) (by kernel_rfl) rfl rfl rfl) ?_
   refine yM 39 7 ?_
   replace hm := (hm.t s_3).t s_4
   refine aU (k0 (.mapUpdate 94 (.tmp 37) (.tmp 38) (.tmp 39))) rfl (a_mapUpdate (k := (((partsS l)[k]'hkl)[j]'hjl)) (u := k) hm Tryz.underlying94 (keyOK_couple Tryz.underlying47 (by decide) (by decide) (by kernel_rfl) Tryz.underlying3) rfl rfl rfl) ?_
   rintro _ w6 ⟨rfl, s_5, hm⟩
   refine Sch.nil (run_inBlock (run_pl [yy 0, yy 1] ?_))
   refine yI 40 3 33 1 ?_
   refine yM 33 40 ?_
   refine Sch.nil ?_
   replace hT := ((hT.t s_3).t s_4).t s_5; replace hl := ((hl.t s_3).t s_4).t s_5; replace hp := ((hp.t s_3).t s_4).t s_5; replace g30 := ((g30.t s_3).t s_4).t s_5; replace hF := (hF.st s_4).st s_5
   refine kp (sr 0 (sr 4 (sr 6 (sr 7 (sr 24 (sr 25 (sr 26 (sr 31 (sr 32 (sub_cons 33 rfl (eq_int (by simp)) (sub_nil _))))))))))) (next2 (j + 1, mput um (((partsS l)[k]'hkl)[j]'hjl) k, Cw4) _ ⟨(by first | omega | (simp only; omega)), (hix.put hkl hjl), hF, hT, hl, hp, hm, g30⟩ (by first | omega | (simp only; omega)))
  have hjl : j = ((partsS l)[k]'hkl).length := by omega
  have hix2 := hix.next (by rw [hgk]; omega)
  refine run_ex 2 ?_
  refine run_inBlock (run_pl [yy 0, yy 1] ?_)
  refine yI 41 3 26 1 ?_
  refine yM 26 41 ?_
  refine Sch.nil ?_
  refine kp (sr 0 (sr 4 (sr 6 (sr 24 (sr 25 (sub_cons 26 rfl (eq_int (by simp)) (sub_nil _))))))) (next1 (k + 1, um, C1) _ ⟨(by first | omega | (simp only; omega)), hix2, hF, hT, hl, hp, hm⟩ (by first | omega | (simp only; omega)))
 have hkl : k = (partsS l).length := by omega
 subst hkl
 refine run_ex 0 ?_
 refine run_sq (run_pl [yy 0, yy 1, nn 2, yy 3] ?_)
 refine yM 42 4 ?_
 refine yS (kq 43 (.call { callee := .builtin .len, args := #[(.tmp 42)], argTypes := #[25] })) rfl rfl (fun w' hS => hp.lenV rfl Tryz.underlying25 w' ) ?_
 refine aT (kq 44 (.makeSlice 33 (.tmp 43) (.tmp 43))) rfl rfl (a_make (e := 23) (bytes := 24) (x0 := (⟨.slice none 0 0⟩ : Sv)) (zs := [.slice none 0 0]) hF (j := 4) (by decide) (by kernel_rfl) (by kernel_rfl) rfl rfl (by omega) (by omega) (by omega) (fun h M => ⟨rfl, rfl⟩)) ?_
 rintro v44 w7 ⟨Cw7, s_6, ho, hF⟩
 rw [svsF_rep] at ho
 refine yA 11 44 ?_
 refine Sch.nil (run_sq (run_sq (run_pl [yy 0, yy 1, yy 2] ?_)))
 refine yM 45 0 ?_
 replace hl := hl.t s_6
 refine yS (kq 46 (.call { callee := .builtin .len, args := #[(.tmp 45)], argTypes := #[23] })) rfl rfl (fun w' hS => hl.lenV rfl Tryz.underlying23 w' ) ?_
 refine yC 47 (.int .i64 0) ?_
 refine Sch.nil (run_bk 4 ?_)
 refine run_lp (ι := Nat × (Nat → Value) × (Nat → Nat)) (I := fun x w => x.1 ≤ l.length ∧ Lim w x.2.2 ∧ Stp ([2, 3, 4, 5, 6, 7, 8, 9] ++ List.range' 10 (2 * l.length + 1)) w₀ (col1 C) w x.2.2 ∧ RV w (Mc x.2.2) l vl ∧ OwnM w x.2.2 3 bm kvC vvN um ∧ OwnL w x.2.2 4 23 v44 (svsF x.2.1 (partsS l).length) ∧ (∀ i, i < (partsS l).length → OwnL w x.2.2 (10 + i) 49 (x.2.1 i) ((splitK l x.1).getD i []))) (e := fun x => [(0, vl), (6, .map (some bm)), (11, v44), (45, vl), (46, .int .i64 l.length), (47, .int .i64 x.1)]) (m := fun x => l.length - x.1) (x₀ := (0, fun _ => .slice none 0 0, Cw7)) (sr 0 (sr 6 (sr 11 (sr 45 (sr 46 (sr 47 (sub_nil _))))))) ?_ ?_
 ·
   replace hT := hT.t s_6; replace hm := hm.t s_6
   exact ⟨Nat.zero_le _, hF, hT, hl, hm, ho, fun i hi => by rw [splitK_zero]; exact OwnL.nil⟩
 intro ⟨k, vf, C1⟩ w8 hI next3
 obtain ⟨hk, hF, hT, hl, hm, ho, hin⟩ := hI
 try simp only at hk hF hT hl hm ho hin
 show Run _ _ _ _ [(0, vl), (6, .map (some bm)), (11, v44), (45, vl), (46, .int .i64 l.length), (47, .int .i64 k)] _ _
 obtain ⟨n, hn⟩ : ∃ n, n = (partsS l).length := ⟨_, rfl⟩
 rw [← hn] at ho hin hpl
 have hsl := svsF_len vf n
 refine run_sq (run_pl [yy 0] ?_)
 refine yL 48 3 47 46 ?_
 refine Sch.nil (run_sq ?_)
 refine run_i 48 rfl (fun h48 => ?_) (fun h48 => ?_)
 ·
  have hkl : k < l.length := by omega
  obtain ⟨i0, hi0m⟩ := parts_cover (l := l) (r := l[k].A) (mem_refsS.2 ⟨_, List.getElem_mem hkl, .inl rfl⟩)
  have hi0 : i0 < n := by obtain ⟨h1, _⟩ := parts_getD.1 hi0m; rw [hn]; unfold partsS; rwa [groupS_length]
  have hlk := hix i0 _ (.inl ⟨by omega, hi0m⟩)
  have hgn := splitK_glen l k i0
  refine run_sk (run_sq (run_bk 5 (run_sq (run_pl [yy 0, nn 1, nn 2, nn 3] ?_))))
  refine iR 49 49 23 45 47 hl rfl (h := ?_)
  intro b49 o49 h49
  try simp only [Int.toNat_natCast] at h49
  refine lNA (kq 50 (.load 49 (.tmp 49))) rfl rfl trivial h49 (by kernel_rfl) (by kernel_rfl) rfl rfl ?_
  intro v50 g50
  obtain rfl := rv_bond.1 g50
  refine aT (kq 13 (.alloc 49)) rfl rfl (a_alloc (cs := [.int .i64 0, .int .i64 0, .int .i64 0, .int .i64 0, .int .i64 0]) hF 5 (by kernel_rfl)) ?_
  rintro _ w9 ⟨Cw9, bw9, rfl, s_7, hx, hF⟩
  replace hin := fun k hk => (hin k hk).st s_7 (by simp <;> omega) (by simp <;> omega)
  refine aU (k0 (.store 49 (.tmp 13) (.tmp 50))) rfl (a_storeAll (vs := encB (l[k]'hkl)) (n := 5) rfl rfl (by kernel_rfl) rfl rfl (by intro u hu; simp only [encB, List.mem_cons, List.not_mem_nil, or_false] at hu; rcases hu with rfl | rfl | rfl | rfl | rfl <;> rfl) hx rfl) ?_
  rintro _ w10 ⟨rfl, s_8, hx⟩
  replace hin := fun k hk => (hin k hk).st s_8 (by simp <;> omega) (by simp <;> omega)
  refine Sch.nil (run_sq (run_pl [yy 0, yy 1, nn 2, nn 3, yy 4] ?_))
  refine yM 51 6 ?_
  refine yF 52 49 13 0 0 ?_
  refine nS (kq 53 (.load 47 (.tmp 52))) rfl rfl trivial (val_loadOwnAgg (n := 2) (vs := encR (l[k]'hkl).A) hx.at_ (by kernel_rfl) (by kernel_rfl) rfl rfl rfl) ?_
  replace hm := (hm.t s_7).t s_8
  refine nS (kq 54 (.lookup 94 (.tmp 51) (.tmp 53) false)) rfl rfl trivial (val_is (hm.lookup (z0 := (0 : Nat)) (k := (l[k]'hkl).A) Tryz.underlying94 (keyOK_couple Tryz.underlying47 (by decide) (by decide) (by kernel_rfl) Tryz.underlying3) Tryz.zeroValue3 rfl rfl) (show _ = Value.int .i64 (i0 : Int) from by rw [hlk]; rfl)) ?_
  refine yA 14 54 ?_
  refine Sch.nil ?_
  refine run_draw (id := 19) (ops := F33.o19) [10 + i0] (Cw9) [yy 0, yy 1, yy 2, yy 3, yy 4, yy 5, yy 6, nn 7, nn 8, yy 9, nn 10] Tryz_mixed (by kernel_rfl) (by kernel_rfl) (by kernel_rfl) ?_
  intro w11 s_9
  replace hin := fun k hk => (hin k hk).st s_9 (by simp <;> omega) (by simp <;> omega)
  have hR := Stp.refl [10 + i0] w11 (Cw9)
  refine yM 55 11 ?_
  refine yM 56 14 ?_
  refine yM 57 11 ?_
  refine yM 58 14 ?_
  replace ho := ((ho.t s_7).t s_8).t s_9
  refine oR 23 59 33 57 58 ho rfl (by omega) (h := ?_)
  intro g59 hg59
  try simp only [Int.toNat_natCast]
  refine oS (I := [10 + i0]) (kq 60 (.load 23 (.tmp 59))) rfl rfl ho hg59 (fun w' hS => ho.sy hg59 hS) (by omega) (by kernel_rfl) rfl rfl ?_
  intro v60 g60
  try simp only [Int.toNat_natCast] at g60
  obtain ⟨e60, _⟩ := rv_sv.1 g60
  rw [svsF_get] at e60
  subst e60
  replace hx := hx.t s_9
  refine yS (kq 61 (.load 49 (.tmp 13))) rfl rfl (fun w' hS => val_loadOwnAgg (n := 5) (vs := encB (l[k]'hkl)) (hx.stay hS (by simp <;> omega)) (by kernel_rfl) (by kernel_rfl) rfl rfl rfl) ?_
  replace hF := (hF.st s_8).st s_9
  refine aS (kq 62 (.buildSlice 23 1 #[(0, (.tmp 61))])) rfl rfl (a_buildSlice (ys := ([l[k]'hkl] : List Bond)) (e := 49) (bytes := 40) hF (by kernel_rfl) rfl (by decide) (by decide) ⟨rfl, ⟨_, rfl, rv_bond.2 rfl⟩, trivial⟩) ?_
  rintro v62 w12 ⟨s_10, g62, hF⟩
  refine ⟨(hR.trans s_10 (by simp)).ext, ?_⟩
  replace hin := fun k hk => (hin k hk).st s_10 (by simp <;> omega) (by simp <;> omega)
  refine aS (kq 63 (.call { callee := .builtin .append, args := #[(.tmp 60), (.tmp 62)], argTypes := #[23, 23] })) rfl rfl (a_append (e := 49) (bytes := 40) hF (by omega) rfl rfl (by kernel_rfl) (by decide) (hin i0 hi0) g62 (by simp only [List.length_cons, List.length_nil]; omega) (by simp only [List.length_cons, List.length_nil]; omega)) ?_
  rintro v63 w13 ⟨Cw13, s_11, h63, hF⟩
  replace hR := hR.t s_10
  refine ⟨(hR.trans s_11 (by simp)).ext, ?_⟩
  replace hT := (((hT.t s_7).t s_8).t s_9).t s_10
  replace hT := hT.trans s_11 (by simp <;> omega)
  replace hR := hR.trans s_11 (by simp <;> omega)
  replace hin := fun k hk (hne : k ≠ i0) => (hin k hk).st s_11 (by simp <;> omega) (by simp <;> omega)
  replace ho := (ho.t s_10).t s_11
  refine oR 23 64 33 55 56 ho rfl (by omega) (h := ?_)
  intro g64 hg64
  try simp only [Int.toNat_natCast]
  refine Sch.free rfl ?_
  refine aU (k0 (.store 23 (.tmp 64) (.tmp 63))) rfl (a_storeO ho hg64 (by omega) rfl rfl (by kernel_rfl) (rv_sv.2 ⟨rfl, h63.one.2⟩)) ?_
  rintro _ w14 ⟨rfl, s_12, ho⟩
  replace h63 := h63.st s_12 (by first | decide | (simp <;> omega)) (by first | decide | (simp <;> omega))
  replace hin := fun k hk hne => (hin k hk hne).st s_12 (by simp <;> omega) (by simp <;> omega)
  refine Sch.nil (run_inBlock (run_pl [yy 0, yy 1] ?_))
  refine yI 65 3 47 1 ?_
  refine yM 47 65 ?_
  refine Sch.nil ?_
  replace hl := (((((hl.t s_7).t s_8).t s_9).t s_10).t s_11).t s_12; replace hm := (((hm.t s_9).t s_10).t s_11).t s_12; replace hF := hF.st s_12; replace hT := hT.t s_12
  refine kp (sub_cons 0 rfl rfl (sub_cons 6 rfl rfl (sub_cons 11 rfl rfl (sub_cons 45 rfl rfl (sub_cons 46 rfl rfl (sub_cons 47 rfl (eq_int (by simp)) (sub_nil _))))))) (next3 (k + 1, updV vf i0 v63, Cw13) _ ⟨(by first | omega | (simp only; omega)), hF, hT, hl, hm, (by simp only; rw [← hn, ← svsF_set]; exact ho), (fun i hi => by
        simp only
        rw [splitK_step hkl hi0m hi]
        by_cases e : i = i0
        · subst e; simp only [updV, if_pos]; exact h63
        · simp only [updV, if_neg e]; exact hin i (by omega) e)⟩ (by first | omega | (simp only; omega)))
 have hkl : k = l.length := by omega
 subst hkl
 rw [splitK_all] at hin
 refine run_ex 4 ?_
 refine run_sq (run_pl [yy 0, yy 1, yy 2] ?_)
 refine yM 66 11 ?_
 refine yA 2 66 ?_
 refine yAc 3 (.int .i64 0) ?_
 refine Sch.nil ?_
 refine run_ret2 (by kernel_rfl) Tryz.func33 Tryz.results33 rfl rfl ?_
 rw [hck]
 have hgl : (splitS l).length = n := by rw [splitS_len, hn]
 rw [← hgl] at ho
 refine ⟨_, rfl, hT.out1 big_ge, ?_⟩
 rw [if_pos rfl]
 refine rv_lists (vf := vf) (ho.out hT hF0 (Mc_col1 C) (fun b _ => col1_lt C (by decide) b) (by rw [svsF_len]; omega)) fun i hi => ?_
 exact (hin i (by omega)).out hT hF0 (Mc_col1 C) (fun b _ => col1_lt C (by omega) b) (by rw [← splitK_all]; exact Nat.le_trans (splitK_glen l _ i) (by omega))
end
end Go.Proofs.YtdmgmlmlielfbaaGreat
