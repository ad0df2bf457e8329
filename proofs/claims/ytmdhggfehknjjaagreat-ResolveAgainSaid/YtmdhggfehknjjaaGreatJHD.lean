/- Steps through functions of the program. -/
import Derived.Test.YtmdhggfehknjjaaGreatJHC
set_option linter.unusedVariables false
set_option linter.unusedSimpArgs false
set_option maxRecDepth 100000
set_option maxHeartbeats 4000000
namespace Go.Proofs.YtmdhggfehknjjaaGreat
open Go.K Go.K.Rep
namespace F19
noncomputable def c0 := bodyOf Tryz.f19
noncomputable def c8 := (cl (cr (cl (cr (cr c0)))))
noncomputable def c17 := (cl (cl (cr (cr (cl c8)))))
noncomputable def c29 := (cl (cr (cl (cr (cr c17)))))
noncomputable def o7 := rops c29
noncomputable def c43 := (cr (cr (cr (cr (cr c0)))))
noncomputable def c49 := (cl (cl (cl (cl (cr c43)))))
noncomputable def o14 := rops (cl c49)
noncomputable def o16 := rops (cl (cl (cr (cr c43))))
noncomputable def o18 := rops (cl (cr (cr (cr c43))))
end F19
theorem changed_ok {w₀ : World} {C : Nat → Nat} {i b : Nat} {l : List Bond} {vl : Value} {m : Int} (hF : Lim w₀ C) (hi : i ≠ 0) (hd : DeckIs w₀ C i b) (hl : RV w₀ (Mc C) l vl) (hG : Gd m l) (hm : 2 ≤ m + 3 ∧ m ≤ 1000) :
    Calls Tryz.prog 19 #[.pointer (some ⟨b, 0, none⟩), vl] w₀ (Ret fun v w' => ∃ l', Gd (m + 3) l' ∧ Stp [i] w₀ C w' C ∧ RV w' (Mc C) l' v ∧ DeckIs w' C i b) := by
 have hF0 := hF
 have hbc := hd.colour
 replace hd := hd.col2 hi
 have hT := Stp.refl [2, 3, 4, 5, 6, 7, 8, 9] w₀ (col2 C i)
 replace hF := hF.col2 i
 replace hl : RV w₀ (Mc (col2 C i)) l vl := by rw [Mc_col2]; exact hl
 have hgl := hG.len
 refine c_st F19.c0 117 [.pointer (some ⟨b, 0, none⟩), vl] Tryz.func19 ?_
 show Run _ _ _ _ [(0, .pointer (some ⟨b, 0, none⟩)), (1, vl)] _ _
 refine run_sq (run_pl [yy 0] ?_)
 refine yV (kq 4 (.assign (.const (.slice none 0 0)))) (fun _ => val_assign rfl) ?_
 refine Sch.nil (run_sq (run_pl [yy 0] ?_))
 refine yV (kq 5 (.assign (.const (.slice none 0 0)))) (fun _ => val_assign rfl) ?_
 refine Sch.nil (run_sq (run_sq (run_pl [yy 0, yy 1, yy 2] ?_)))
 refine yM 11 1 ?_
 refine yS (kq 12 (.call { callee := .builtin .len, args := #[(.tmp 11)], argTypes := #[23] })) rfl rfl (fun w' hS => hl.lenV rfl Tryz.underlying23 w' ) ?_
 refine yC 13 (.int .i64 0) ?_
 refine Sch.nil (run_bk 0 ?_)
 refine run_lp (ι := Nat × (List Bond) × Value × (Nat → Nat)) (I := fun x w => x.1 ≤ l.length ∧ SubW (m + 3) l x.2.1 x.1 ∧ Lim w x.2.2.2 ∧ Stp [2, 3, 4, 5, 6, 7, 8, 9] w₀ (col2 C i) w x.2.2.2 ∧ DeckIs w x.2.2.2 2 b ∧ RV w (Mc x.2.2.2) l vl ∧ OwnL w x.2.2.2 3 58 x.2.2.1 x.2.1) (e := fun x => [(0, .pointer (some ⟨b, 0, none⟩)), (1, vl), (5, x.2.2.1), (11, vl), (12, .int .i64 l.length), (13, .int .i64 x.1)]) (m := fun x => l.length - x.1) (x₀ := (0, [], .slice none 0 0, col2 C i)) (sr 0 (sr 1 (sr 5 (sr 11 (sr 12 (sr 13 (sub_nil _))))))) ?_ ?_
 · exact ⟨Nat.zero_le _, SubW.nil _ _, hF, hT, hd, hl, OwnL.nil⟩
 intro ⟨k, sl, vo, C1⟩ w1 hI next
 obtain ⟨hk, hsw, hF, hT, hd, hl, ho⟩ := hI
 try simp only at hk hsw hF hT hd hl ho
 have next1 := next
 clear next
 show Run _ _ _ _ [(0, .pointer (some ⟨b, 0, none⟩)), (1, vl), (5, vo), (11, vl), (12, .int .i64 l.length), (13, .int .i64 k)] _ _
 have hle := hl.le
 have hsl := hsw.len
 refine run_sq (run_pl [yy 0] ?_)
 refine yL 14 3 13 12 ?_
 refine Sch.nil (run_sq ?_)
 refine run_i 14 rfl (fun h14 => ?_) (fun h14 => ?_)
 ·
  have hkl : k < l.length := by omega
  have hxk := hG.1 _ (List.getElem_mem hkl)
  have hxw : 1 ≤ (l[k]'hkl).w ∧ (l[k]'hkl).w ≤ m := by unfold okG at hxk; omega
  refine run_sk (run_sq (run_bk 1 (run_sq (run_pl [yy 0, nn 1, nn 2, nn 3] ?_))))
  refine iS (e := 58) (kq 15 (.indexAddr 23 (.tmp 11) (.tmp 13))) rfl rfl hl rfl (by kernel_rfl) rfl (by omega) (by omega) ?_
  intro b15 o15 h15
  try simp only [Int.toNat_natCast] at h15
  refine lNA (kq 16 (.load 58 (.tmp 15))) rfl rfl trivial h15 (by kernel_rfl) (by kernel_rfl) rfl rfl ?_
  intro v16 g16
  obtain rfl := rv_bond.1 g16
  refine aT (kq 7 (.alloc 58)) rfl rfl (a_alloc (cs := [.int .i64 0, .int .i64 0, .int .i64 0, .int .i64 0, .int .i64 0]) hF 4 (by kernel_rfl)) ?_
  rintro _ w2 ⟨Cw2, bw2, rfl, s_1, bx, hF⟩
  replace hd := hd.st s_1 (by first | decide | (simp <;> omega)) (by first | decide | (simp <;> omega))
  refine aU (k0 (.store 58 (.tmp 7) (.tmp 16))) rfl (a_storeAll (vs := encB ((l[k]'hkl))) (n := 5) rfl rfl (by kernel_rfl) rfl rfl (by intro u hu; simp only [encB, List.mem_cons, List.not_mem_nil, or_false] at hu; rcases hu with rfl | rfl | rfl | rfl | rfl <;> rfl) bx rfl) ?_
  rintro _ w3 ⟨rfl, s_2, bx⟩
  replace hd := hd.st s_2 (by first | decide | (simp <;> omega)) (by first | decide | (simp <;> omega))
  refine Sch.nil (run_sq (run_sq (run_pl [yy 0, nn 1] ?_)))
  refine yM 17 0 ?_
  replace hF := hF.st s_2
  refine cT (kq 18 (.call { callee := .value (.func 15), args := #[(.tmp 17), (.const (.int .i64 6))], argTypes := #[30, 3] })) rfl rfl (ent Tryz.call15 rfl) (one_any (n := 6) hF (by decide) hd (by omega) (by omega)) ?_
  rintro vw4 w4 ⟨t, rfl, s_3, hd⟩
  refine Sch.nil ?_
  refine run_c 18 rfl (fun h18 => ?_) (fun h18 => ?_)
  ·
   refine run_ex 1 ?_
   refine run_pl [yy 0, yy 1] ?_
   refine yI 32 3 13 1 ?_
   refine yM 13 32 ?_
   refine Sch.nil ?_
   replace hT := ((hT.t s_1).t s_2).t s_3; replace hl := ((hl.t s_1).t s_2).t s_3; replace ho := ((ho.t s_1).t s_2).t s_3; replace hF := hF.st s_3
   refine kp (sub_cons 0 rfl rfl (sub_cons 1 rfl rfl (sub_cons 5 rfl rfl (sub_cons 11 rfl rfl (sub_cons 12 rfl rfl (sub_cons 13 rfl (eq_int (by simp)) (sub_nil _))))))) (next1 (k + 1, sl, vo, Cw2) _ ⟨(by first | omega | (simp only; omega)), (hsw.skip hkl), hF, hT, hd, hl, ho⟩ (by first | omega | (simp only; omega)))
  refine run_sk (run_sq (run_sq (run_pl [yy 0, nn 1] ?_)))
  refine yM 19 0 ?_
  replace hF := hF.st s_3
  refine cT (kq 20 (.call { callee := .value (.func 15), args := #[(.tmp 19), (.const (.int .i64 8))], argTypes := #[30, 3] })) rfl rfl (ent Tryz.call15 rfl) (one_any (n := 8) hF (by decide) hd (by omega) (by omega)) ?_
  rintro vw5 w5 ⟨t2, rfl, s_4, hd⟩
  refine Sch.nil ?_
  refine run_c 20 rfl (fun h20 => ?_) (fun h20 => ?_)
  ·
   refine run_draw (id := 7) (ops := F19.o7) [2] (Cw2) [yy 0, yy 1, yy 2, nn 3, yy 4, yy 5, yy 6, nn 7] Tryz_mixed (by kernel_rfl) (by kernel_rfl) (by kernel_rfl) ?_
   intro w6 s_5
   replace hd := hd.st s_5 (by first | decide | (simp <;> omega)) (by first | decide | (simp <;> omega))
   have hR := Stp.refl [2] w6 (Cw2)
   refine yF 21 58 7 2 4 ?_
   replace bx := ((bx.t s_3).t s_4).t s_5
   refine yS (kq 22 (.load 3 (.tmp 21))) rfl rfl (fun w' hS => val_loadOwn (bx.sy hS) (by kernel_rfl) rfl rfl) ?_
   refine yM 23 0 ?_
   replace hF := (hF.st s_4).st s_5
   refine cS (kq 24 (.call { callee := .value (.func 26), args := #[(.tmp 23), (.const (.int .i64 3))], argTypes := #[30, 3] })) rfl rfl (ent Tryz.call26 rfl) (next_any (n := 3) hF (by decide) hd (by omega) (by omega)) ?_
   rintro vw7 w7 ⟨q, rfl, hq, s_6, hd⟩
   refine ⟨(hR.trans s_6 (by simp)).ext, ?_⟩
   refine yV (kq 25 (.binOp .add 3 (.const (.int .i64 1)) (.tmp 24) 3)) (fun _ => val_addi rfl rfl (by omega) (by omega)) ?_
   refine yV (kq 26 (.binOp .add 3 (.tmp 22) (.tmp 25) 3)) (fun _ => val_addi rfl rfl (by omega) (by omega)) ?_
   refine yF 27 58 7 2 4 ?_
   refine Sch.free rfl ?_
   replace bx := bx.t s_6
   refine aU (k0 (.store 3 (.tmp 27) (.tmp 26))) rfl (a_store1 rfl rfl (by kernel_rfl) rfl rfl bx (by simp)) ?_
   rintro _ w8 ⟨rfl, s_7, bx⟩
   replace hd := hd.st s_7 (by first | decide | (simp <;> omega)) (by first | decide | (simp <;> omega))
   replace bx : OwnB _ _ 4 _ (.cells (encB (⟨(l[k]'hkl).A, (l[k]'hkl).B, (l[k]'hkl).w + (1 + (q : Int))⟩ : Bond)).toArray 58) := bx
   refine Sch.nil (run_pl [yy 0, nn 1, nn 2, nn 3, yy 4] ?_)
   refine yM 28 5 ?_
   refine nS (kq 29 (.load 58 (.tmp 7))) rfl rfl trivial (val_loadOwnAgg (n := 5) (vs := encB (⟨(l[k]'hkl).A, (l[k]'hkl).B, (l[k]'hkl).w + (1 + (q : Int))⟩ : Bond)) bx.at_ (by kernel_rfl) (by kernel_rfl) rfl rfl rfl) ?_
   replace hF := (hF.st s_6).st s_7
   refine aT (kq 30 (.buildSlice 23 1 #[(0, (.tmp 29))])) rfl rfl (a_buildSlice (ys := ([(⟨(l[k]'hkl).A, (l[k]'hkl).B, (l[k]'hkl).w + (1 + (q : Int))⟩ : Bond)] : List Bond)) (e := 58) (bytes := 40) hF (by kernel_rfl) rfl (by decide) (by decide) ⟨rfl, ⟨_, rfl, rv_bond.2 rfl⟩, trivial⟩) ?_
   rintro v30 w9 ⟨s_8, g30, hF⟩
   replace hd := hd.st s_8 (by first | decide | (simp <;> omega)) (by first | decide | (simp <;> omega))
   replace ho := (((((((ho.t s_1).t s_2).t s_3).t s_4).t s_5).t s_6).t s_7).t s_8
   refine aT (kq 31 (.call { callee := .builtin .append, args := #[(.tmp 28), (.tmp 30)], argTypes := #[23, 23] })) rfl rfl (a_append (e := 58) (bytes := 40) hF (by decide) rfl rfl (by kernel_rfl) (by decide) ho g30 (by simp only [List.length_cons, List.length_nil]; omega) (by simp only [List.length_cons, List.length_nil]; omega)) ?_
   rintro v31 w10 ⟨Cw10, s_9, ho, hF⟩
   replace hd := hd.st s_9 (by first | decide | (simp <;> omega)) (by first | decide | (simp <;> omega))
   refine yA 5 31 ?_
   refine Sch.nil (run_inBlock (run_pl [yy 0, yy 1] ?_))
   refine yI 32 3 13 1 ?_
   refine yM 13 32 ?_
   refine Sch.nil ?_
   replace hT := ((((((((hT.t s_1).t s_2).t s_3).t s_4).t s_5).t s_6).t s_7).t s_8).t s_9; replace hl := ((((((((hl.t s_1).t s_2).t s_3).t s_4).t s_5).t s_6).t s_7).t s_8).t s_9
   refine kp (sub_cons 0 rfl rfl (sub_cons 1 rfl rfl (sub_cons 5 rfl rfl (sub_cons 11 rfl rfl (sub_cons 12 rfl rfl (sub_cons 13 rfl (eq_int (by simp)) (sub_nil _))))))) (next1 (k + 1, sl ++ [(⟨(l[k]'hkl).A, (l[k]'hkl).B, (l[k]'hkl).w + (1 + (q : Int))⟩ : Bond)], v31, Cw10) _ ⟨(by first | omega | (simp only; omega)), (hsw.push hkl hG.2 (by unfold okG at *; (try simp only); omega) rfl rfl), hF, hT, hd, hl, ho⟩ (by first | omega | (simp only; omega)))
  refine run_sk (run_pl [yy 0, nn 1, nn 2, nn 3, yy 4] ?_)
  refine yM 28 5 ?_
  replace bx := (bx.t s_3).t s_4
  refine nS (kq 29 (.load 58 (.tmp 7))) rfl rfl trivial (val_loadOwnAgg (n := 5) (vs := encB (l[k]'hkl)) bx.at_ (by kernel_rfl) (by kernel_rfl) rfl rfl rfl) ?_
  replace hF := hF.st s_4
  refine aT (kq 30 (.buildSlice 23 1 #[(0, (.tmp 29))])) rfl rfl (a_buildSlice (ys := ([(l[k]'hkl)] : List Bond)) (e := 58) (bytes := 40) hF (by kernel_rfl) rfl (by decide) (by decide) ⟨rfl, ⟨_, rfl, rv_bond.2 rfl⟩, trivial⟩) ?_
  rintro v30 w11 ⟨s_10, g30, hF⟩
  replace hd := hd.st s_10 (by first | decide | (simp <;> omega)) (by first | decide | (simp <;> omega))
  replace ho := ((((ho.t s_1).t s_2).t s_3).t s_4).t s_10
  refine aT (kq 31 (.call { callee := .builtin .append, args := #[(.tmp 28), (.tmp 30)], argTypes := #[23, 23] })) rfl rfl (a_append (e := 58) (bytes := 40) hF (by decide) rfl rfl (by kernel_rfl) (by decide) ho g30 (by simp only [List.length_cons, List.length_nil]; omega) (by simp only [List.length_cons, List.length_nil]; omega)) ?_
  rintro v31 w12 ⟨Cw12, s_11, ho, hF⟩
  replace hd := hd.st s_11 (by first | decide | (simp <;> omega)) (by first | decide | (simp <;> omega))
  refine yA 5 31 ?_
  refine Sch.nil (run_inBlock (run_pl [yy 0, yy 1] ?_))
  refine yI 32 3 13 1 ?_
  refine yM 13 32 ?_
  refine Sch.nil ?_
  replace hT := (((((hT.t s_1).t s_2).t s_3).t s_4).t s_10).t s_11; replace hl := (((((hl.t s_1).t s_2).t s_3).t s_4).t s_10).t s_11
  refine kp (sub_cons 0 rfl rfl (sub_cons 1 rfl rfl (sub_cons 5 rfl rfl (sub_cons 11 rfl rfl (sub_cons 12 rfl rfl (sub_cons 13 rfl (eq_int (by simp)) (sub_nil _))))))) (next1 (k + 1, sl ++ [(l[k]'hkl)], v31, Cw12) _ ⟨(by first | omega | (simp only; omega)), (hsw.push hkl hG.2 (by unfold okG at *; (try simp only); omega) rfl rfl), hF, hT, hd, hl, ho⟩ (by first | omega | (simp only; omega)))
 have hkl : k = l.length := by omega
 refine run_ex 0 ?_
 refine run_sq (run_sq ?_)
 by_cases hz0 : (l.length : Int) = 0
 ·
  refine run_pl [yy 0, yy 1, yy 2, yy 3, yy 4, nn 5, yy 6] ?_
  refine yM 33 1 ?_
  refine yS (kq 34 (.call { callee := .builtin .len, args := #[(.tmp 33)], argTypes := #[23] })) rfl rfl (fun w' hS => hl.lenV rfl Tryz.underlying23 w' ) ?_
  refine yV (kq 35 (.binOp .eql 3 (.tmp 34) (.const (.int .i64 0)) 3)) (fun _ => val_T (val_eql rfl rfl) hz0) ?_
  refine yM 36 35 ?_
  refine pX 37 3 false ?_
  refine pW (kg 38 (.call { callee := .value (.func 15), args := #[(.tmp 37), (.const (.int .i64 3))], argTypes := #[30, 3] }) 3 false) rfl rfl trivial ?_
  refine yOt 39 36 38 ?_
  refine Sch.nil (run_cT 39 (run_sq (run_pl [yy 0, yy 1] ?_)))
  refine yM 40 5 ?_
  refine yA 4 40 ?_
  refine Sch.nil ?_
  refine rt1 Tryz.func19 Tryz.results19 ?_
  have hgn := hsw.gd.len
  exact ⟨sl, hsw.gd, hT.out2 (by decide), ho.out hT hF0 (Mc_col2 C i) (fun b _ => col2_lt C i (by decide) b) (by omega), hd.out hT hF0 hbc⟩
 refine run_pl [yy 0, yy 1, yy 2, yy 3, yy 4, nn 5, yy 6] ?_
 refine yM 33 1 ?_
 refine yS (kq 34 (.call { callee := .builtin .len, args := #[(.tmp 33)], argTypes := #[23] })) rfl rfl (fun w' hS => hl.lenV rfl Tryz.underlying23 w' ) ?_
 refine yV (kq 35 (.binOp .eql 3 (.tmp 34) (.const (.int .i64 0)) 3)) (fun _ => val_F (val_eql rfl rfl) hz0) ?_
 refine yM 36 35 ?_
 refine yMg 37 0 3 false ?_
 refine cT (kg 38 (.call { callee := .value (.func 15), args := #[(.tmp 37), (.const (.int .i64 3))], argTypes := #[30, 3] }) 3 false) rfl rfl (ent Tryz.call15 rfl) (one_any (n := 3) hF (by decide) hd (by omega) (by omega)) ?_
 rintro vw13 w13 ⟨t3, rfl, s_12, hd⟩
 refine yOf 39 36 38 ?_
 refine Sch.nil ?_
 refine run_c 39 rfl (fun h39 => ?_) (fun h39 => ?_)
 ·
  refine run_sq (run_pl [yy 0, yy 1] ?_)
  refine yM 40 5 ?_
  refine yA 4 40 ?_
  refine Sch.nil ?_
  refine rt1 Tryz.func19 Tryz.results19 ?_
  have hgn := hsw.gd.len
  replace hT := hT.t s_12; replace ho := ho.t s_12
  exact ⟨sl, hsw.gd, hT.out2 (by decide), ho.out hT hF0 (Mc_col2 C i) (fun b _ => col2_lt C i (by decide) b) (by omega), hd.out hT hF0 hbc⟩
 refine run_sk (run_sq (run_pl [yy 0, yy 1, yy 2, nn 3, nn 4] ?_))
 have hsg := hsw.gd
 replace hF := hF.st s_12
 replace hF := hF.frz 3
 replace hT := hT.t s_12
 replace hT := hT.frz (n := 3) (fun b => by unfold K.col2; split <;> (try split) <;> omega)
 replace hd := hd.frz (n := 3) (by decide)
 replace hl := hl.t s_12
 replace hl := hl.frz 3
 replace ho := ho.t s_12
 have ho_ := ho.frz (n := 3) (by decide) (by omega)
 replace ho := ho_
 clear ho_
 refine yV (kq 41 (.build 55 #[(1, (.const (.int .i64 4)))])) (fun _ => val_build (zs := [.int .i64 0, .int .i64 0]) (ps := [(0, 1), (1, 1)]) (qs := [(1, [.int .i64 4])]) (cs := [.int .i64 0, .int .i64 4]) (by kernel_rfl) (by kernel_rfl) ⟨rfl, ⟨_, rfl, rfl⟩, trivial⟩ rfl) ?_
 refine yV (kq 42 (.build 55 #[(0, (.const (.int .i64 1))), (1, (.const (.int .i64 4)))])) (fun _ => val_build (zs := [.int .i64 0, .int .i64 0]) (ps := [(0, 1), (1, 1)]) (qs := [(0, [.int .i64 1]), (1, [.int .i64 4])]) (cs := [.int .i64 1, .int .i64 4]) (by kernel_rfl) (by kernel_rfl) ⟨rfl, ⟨_, rfl, rfl⟩, rfl, ⟨_, rfl, rfl⟩, trivial⟩ rfl) ?_
 refine yV (kq 43 (.build 58 #[(0, (.tmp 41)), (1, (.tmp 42)), (2, (.const (.int .i64 2)))])) (fun _ => val_build (zs := [.int .i64 0, .int .i64 0, .int .i64 0, .int .i64 0, .int .i64 0]) (ps := [(0, 2), (2, 2), (4, 1)]) (qs := [(0, encR (⟨0, 4⟩ : Couple)), (1, encR (⟨1, 4⟩ : Couple)), (2, [.int .i64 2])]) (cs := encB (⟨⟨0, 4⟩, ⟨1, 4⟩, 2⟩ : Bond)) (by kernel_rfl) (by kernel_rfl) ⟨rfl, ⟨_, rfl, rfl⟩, rfl, ⟨_, rfl, rfl⟩, rfl, ⟨_, rfl, rfl⟩, trivial⟩ rfl) ?_
 refine aT (kq 8 (.alloc 58)) rfl rfl (a_alloc (cs := [.int .i64 0, .int .i64 0, .int .i64 0, .int .i64 0, .int .i64 0]) hF 4 (by kernel_rfl)) ?_
 rintro _ w14 ⟨Cw14, bw14, rfl, s_13, bw, hF⟩
 replace hd := hd.st s_13 (by first | decide | (simp <;> omega)) (by first | decide | (simp <;> omega))
 refine aU (k0 (.store 58 (.tmp 8) (.tmp 43))) rfl (a_storeAll (vs := encB (⟨⟨0, 4⟩, ⟨1, 4⟩, 2⟩ : Bond)) (n := 5) rfl rfl (by kernel_rfl) rfl rfl (by intro u hu; simp only [encB, List.mem_cons, List.not_mem_nil, or_false] at hu; rcases hu with rfl | rfl | rfl | rfl | rfl <;> rfl) bw rfl) ?_
 rintro _ w15 ⟨rfl, s_14, bw⟩
 replace hd := hd.st s_14 (by first | decide | (simp <;> omega)) (by first | decide | (simp <;> omega))
 refine Sch.nil (run_sq (run_pl [yy 0] ?_))
 refine yAc 9 (.int .i64 0) ?_
 refine Sch.nil (run_sq (run_bk 2 ?_))
 refine run_lp (ι := Nat × (Nat → Nat)) (I := fun x w => x.1 ≤ sl.length ∧ (∀ i (hi : i < x.1) (h2 : i < sl.length), lt2 sl[i] (⟨⟨0, 4⟩, ⟨1, 4⟩, 2⟩ : Bond)) ∧ Lim w x.2 ∧ Stp [2, 3, 4, 5, 6, 7, 8, 9] w₀ (col2 C i) w x.2 ∧ DeckIs w x.2 2 b ∧ RV w (Mc x.2) sl vo ∧ OwnB w x.2 4 bw14 (.cells (encB (⟨⟨0, 4⟩, ⟨1, 4⟩, 2⟩ : Bond)).toArray 58)) (e := fun x => [(5, vo), (8, .pointer (some ⟨bw14, 0, none⟩)), (9, .int .i64 x.1)]) (m := fun x => sl.length - x.1) (x₀ := (0, Cw14)) (sr 5 (sr 8 (sr 9 (sub_nil _)))) ?_ ?_
 ·
   replace hT := (hT.t s_13).t s_14; replace ho := (ho.t s_13).t s_14; replace hF := hF.st s_14
   exact ⟨Nat.zero_le _, fun i hi => by simp only at hi; omega, hF, hT, hd, ho, bw⟩
 intro ⟨p, C1⟩ w16 hI next
 obtain ⟨hp, h0, hF, hT, hd, ho, bw⟩ := hI
 try simp only at hp h0 hF hT hd ho bw
 have next2 := next
 clear next
 show Run _ _ _ _ [(5, vo), (8, .pointer (some ⟨bw14, 0, none⟩)), (9, .int .i64 p)] _ _
 have hle2 := ho.le
 refine run_sq (run_sq ?_)
 refine run_cut 77 ((if h : p < sl.length then decide (lt2 sl[p] (⟨⟨0, 4⟩, ⟨1, 4⟩, 2⟩ : Bond)) else false)) (C1) ?_ ?_
 ·
  intro hcut
  by_cases hA : (p : Int) < sl.length
  ·
   by_cases hB : ltP (sl[p]'(by omega)).A (⟨⟨0, 4⟩, ⟨1, 4⟩, 2⟩ : Bond).A
   ·
    refine run_draw (id := 14) (ops := F19.o14) [] (C1) [yy 0, yy 1, yy 2, yy 3, yy 4, yy 5, yy 6, yy 7, yy 8, yy 9, yy 10, yy 11, nn 12, yy 13, yy 14, yy 15, yy 16, yy 17, yy 18, yy 19, yy 20, yy 21, yy 22, yy 23, yy 24, yy 25, yy 26, yy 27, yy 28, yy 29, nn 30, yy 31, yy 32, yy 33] Tryz_mixed (by kernel_rfl) (by kernel_rfl) (by kernel_rfl) ?_
    intro w17 s_15
    replace hd := hd.st s_15 (by first | decide | (simp <;> omega)) (by first | decide | (simp <;> omega))
    have hcs := s_15
    have hR := Stp.refl [] w17 (C1)
    replace bw := bw.t s_15
    have bw0 := bw
    replace ho := ho.t s_15
    have ho_b := ho
    refine yM 44 9 ?_
    refine yM 45 5 ?_
    refine yS (kq 46 (.call { callee := .builtin .len, args := #[(.tmp 45)], argTypes := #[23] })) rfl rfl (fun w' hS => ho_b.lenV rfl Tryz.underlying23 w' ) ?_
    refine yV (kq 47 (.binOp .lss 3 (.tmp 44) (.tmp 46) 3)) (fun _ => val_T (val_lss rfl rfl) hA) ?_
    refine yM 48 47 ?_
    refine yMg 49 5 4 true ?_
    refine yMg 50 9 4 true ?_
    refine iS (e := 58) (kg 51 (.indexAddr 23 (.tmp 49) (.tmp 50)) 4 true) rfl rfl ho_b rfl (by kernel_rfl) rfl (by omega) (by omega) ?_
    intro b51 o51 h51
    try simp only [Int.toNat_natCast] at h51
    have h52 := RA.bA h51
    refine yFg 52 58 51 0 0 4 true ?_
    refine lSA (kg 53 (.load 55 (.tmp 52)) 4 true) rfl rfl (fun w' hS => h52.sy hS) h52 (by kernel_rfl) (by kernel_rfl) rfl rfl ?_
    intro v53 g53
    have gb53 := g53
    replace g53 := g53.st hR (by first | decide | (simp <;> omega))
    obtain rfl := rv_couple.1 g53
    refine yFg 54 58 8 0 0 4 true ?_
    refine yS (kg 55 (.load 55 (.tmp 54)) 4 true) rfl rfl (fun w' hS => val_loadOwnAgg (n := 2) (vs := encR (⟨⟨0, 4⟩, ⟨1, 4⟩, 2⟩ : Bond).A) (bw0.stay hS (by decide)) (by kernel_rfl) (by kernel_rfl) rfl rfl rfl) ?_
    replace hF := hF.st s_15
    refine cS (kg 56 (.call { callee := .value (.func 44), args := #[(.tmp 53), (.tmp 55)], argTypes := #[55, 55] }) 4 true) rfl rfl (ent Tryz.call44 rfl) (less30_ok (x := (sl[p]'(by omega)).A) (y := (⟨⟨0, 4⟩, ⟨1, 4⟩, 2⟩ : Bond).A) hF) ?_
    rintro vw18 w18 ⟨rfl, s_16⟩
    rw [decide_eq_true hB]
    refine ⟨(hR.trans s_16 (by simp)).ext, ?_⟩
    replace hd := hd.st s_16 (by first | decide | (simp <;> omega)) (by first | decide | (simp <;> omega))
    refine yMg 57 56 4 true ?_
    refine pX 58 13 false ?_
    refine pX 59 13 false ?_
    refine pX 60 13 false ?_
    refine pX 61 13 false ?_
    refine pX 62 13 false ?_
    refine pX 63 13 false ?_
    refine pX 64 13 false ?_
    refine pX 65 13 false ?_
    refine pX 66 13 false ?_
    refine pX 67 22 true ?_
    refine pX 68 22 true ?_
    refine pX 69 22 true ?_
    refine pX 70 22 true ?_
    refine pX 71 22 true ?_
    refine pX 72 22 true ?_
    refine pX 73 22 true ?_
    replace hR := hR.t s_16
    refine pW (kg 74 (.call { callee := .value (.func 44), args := #[(.tmp 71), (.tmp 73)], argTypes := #[55, 55] }) 22 true) rfl rfl hR.ext ?_
    refine pX 75 13 false ?_
    refine yV (kg 76 (.pick (.tmp 57) (.const (.bool true)) (.tmp 75)) 4 true) (fun _ => val_pick_t rfl rfl) ?_
    refine yAt 77 48 76 ?_
    replace hcs := hcs.t s_16
    exact Sch.nil (hcut _ _ _ hcs rfl (by rw [dif_pos (by omega), decide_eq_true (.inl hB)]) (sk 34))
   by_cases hC : (sl[p]'(by omega)).A = (⟨⟨0, 4⟩, ⟨1, 4⟩, 2⟩ : Bond).A
   ·
    refine run_draw (id := 14) (ops := F19.o14) [] (C1) [yy 0, yy 1, yy 2, yy 3, yy 4, yy 5, yy 6, yy 7, yy 8, yy 9, yy 10, yy 11, nn 12, yy 13, yy 14, yy 15, yy 16, yy 17, yy 18, yy 19, yy 20, yy 21, yy 22, yy 23, yy 24, yy 25, yy 26, yy 27, yy 28, yy 29, nn 30, yy 31, yy 32, yy 33] Tryz_mixed (by kernel_rfl) (by kernel_rfl) (by kernel_rfl) ?_
    intro w19 s_17
    replace hd := hd.st s_17 (by first | decide | (simp <;> omega)) (by first | decide | (simp <;> omega))
    have hcs := s_17
    have hR := Stp.refl [] w19 (C1)
    replace bw := bw.t s_17
    have bw0 := bw
    replace ho := ho.t s_17
    have ho_b := ho
    refine yM 44 9 ?_
    refine yM 45 5 ?_
    refine yS (kq 46 (.call { callee := .builtin .len, args := #[(.tmp 45)], argTypes := #[23] })) rfl rfl (fun w' hS => ho_b.lenV rfl Tryz.underlying23 w' ) ?_
    refine yV (kq 47 (.binOp .lss 3 (.tmp 44) (.tmp 46) 3)) (fun _ => val_T (val_lss rfl rfl) hA) ?_
    refine yM 48 47 ?_
    refine yMg 49 5 4 true ?_
    refine yMg 50 9 4 true ?_
    refine iS (e := 58) (kg 51 (.indexAddr 23 (.tmp 49) (.tmp 50)) 4 true) rfl rfl ho_b rfl (by kernel_rfl) rfl (by omega) (by omega) ?_
    intro b51 o51 h51
    try simp only [Int.toNat_natCast] at h51
    have h52 := RA.bA h51
    refine yFg 52 58 51 0 0 4 true ?_
    refine lSA (kg 53 (.load 55 (.tmp 52)) 4 true) rfl rfl (fun w' hS => h52.sy hS) h52 (by kernel_rfl) (by kernel_rfl) rfl rfl ?_
    intro v53 g53
    have gb53 := g53
    replace g53 := g53.st hR (by first | decide | (simp <;> omega))
    obtain rfl := rv_couple.1 g53
    refine yFg 54 58 8 0 0 4 true ?_
    refine yS (kg 55 (.load 55 (.tmp 54)) 4 true) rfl rfl (fun w' hS => val_loadOwnAgg (n := 2) (vs := encR (⟨⟨0, 4⟩, ⟨1, 4⟩, 2⟩ : Bond).A) (bw0.stay hS (by decide)) (by kernel_rfl) (by kernel_rfl) rfl rfl rfl) ?_
    replace hF := hF.st s_17
    refine cS (kg 56 (.call { callee := .value (.func 44), args := #[(.tmp 53), (.tmp 55)], argTypes := #[55, 55] }) 4 true) rfl rfl (ent Tryz.call44 rfl) (less30_ok (x := (sl[p]'(by omega)).A) (y := (⟨⟨0, 4⟩, ⟨1, 4⟩, 2⟩ : Bond).A) hF) ?_
    rintro vw20 w20 ⟨rfl, s_18⟩
    rw [decide_eq_false hB]
    refine ⟨(hR.trans s_18 (by simp)).ext, ?_⟩
    replace hd := hd.st s_18 (by first | decide | (simp <;> omega)) (by first | decide | (simp <;> omega))
    refine yMg 57 56 4 true ?_
    refine yMg 58 5 13 false ?_
    refine yMg 59 9 13 false ?_
    refine iS (e := 58) (kg 60 (.indexAddr 23 (.tmp 58) (.tmp 59)) 13 false) rfl rfl ho_b rfl (by kernel_rfl) rfl (by omega) (by omega) ?_
    intro b60 o60 h60
    try simp only [Int.toNat_natCast] at h60
    have h61 := RA.bA h60
    refine yFg 61 58 60 0 0 13 false ?_
    refine lSA (kg 62 (.load 55 (.tmp 61)) 13 false) rfl rfl (fun w' hS => h61.sy hS) h61 (by kernel_rfl) (by kernel_rfl) rfl rfl ?_
    intro v62 g62
    have gb62 := g62
    replace hR := hR.t s_18
    replace g62 := g62.st hR (by first | decide | (simp <;> omega))
    obtain rfl := rv_couple.1 g62
    refine yFg 63 58 8 0 0 13 false ?_
    refine yS (kg 64 (.load 55 (.tmp 63)) 13 false) rfl rfl (fun w' hS => val_loadOwnAgg (n := 2) (vs := encR (⟨⟨0, 4⟩, ⟨1, 4⟩, 2⟩ : Bond).A) (bw0.stay hS (by decide)) (by kernel_rfl) (by kernel_rfl) rfl rfl rfl) ?_
    refine yV (kg 65 (.binOp .eql 55 (.tmp 62) (.tmp 64) 55) 13 false) (fun _ => val_T (val_eqC (a := (sl[p]'(by omega)).A) (b := (⟨⟨0, 4⟩, ⟨1, 4⟩, 2⟩ : Bond).A) Tryz.underlying55 (by decide) (by decide) (by kernel_rfl) Tryz.underlying3 rfl rfl) hC) ?_
    refine yMg 66 65 13 false ?_
    refine yMg 67 5 22 true ?_
    refine yMg 68 9 22 true ?_
    refine iS (e := 58) (kg 69 (.indexAddr 23 (.tmp 67) (.tmp 68)) 22 true) rfl rfl ho_b rfl (by kernel_rfl) rfl (by omega) (by omega) ?_
    intro b69 o69 h69
    try simp only [Int.toNat_natCast] at h69
    have h70 := RA.bB h69
    refine yFg 70 58 69 1 2 22 true ?_
    refine lSA (kg 71 (.load 55 (.tmp 70)) 22 true) rfl rfl (fun w' hS => h70.sy hS) h70 (by kernel_rfl) (by kernel_rfl) rfl rfl ?_
    intro v71 g71
    have gb71 := g71
    replace g71 := g71.st hR (by first | decide | (simp <;> omega))
    obtain rfl := rv_couple.1 g71
    refine yFg 72 58 8 1 2 22 true ?_
    refine yS (kg 73 (.load 55 (.tmp 72)) 22 true) rfl rfl (fun w' hS => val_loadOwnAgg (n := 2) (vs := encR (⟨⟨0, 4⟩, ⟨1, 4⟩, 2⟩ : Bond).B) (bw0.stay hS (by decide)) (by kernel_rfl) (by kernel_rfl) rfl rfl rfl) ?_
    replace hF := hF.st s_18
    refine cS (kg 74 (.call { callee := .value (.func 44), args := #[(.tmp 71), (.tmp 73)], argTypes := #[55, 55] }) 22 true) rfl rfl (ent Tryz.call44 rfl) (less30_ok (x := (sl[p]'(by omega)).B) (y := (⟨⟨0, 4⟩, ⟨1, 4⟩, 2⟩ : Bond).B) hF) ?_
    rintro vw21 w21 ⟨rfl, s_19⟩
    refine ⟨(hR.trans s_19 (by simp)).ext, ?_⟩
    replace hd := hd.st s_19 (by first | decide | (simp <;> omega)) (by first | decide | (simp <;> omega))
    refine yV (kg 75 (.pick (.tmp 66) (.tmp 74) (.const (.bool false))) 13 false) (fun _ => val_pick_t rfl rfl) ?_
    refine yV (kg 76 (.pick (.tmp 57) (.const (.bool true)) (.tmp 75)) 4 true) (fun _ => val_pick_f rfl rfl) ?_
    refine yAt 77 48 76 ?_
    replace hcs := (hcs.t s_18).t s_19
    exact Sch.nil (hcut _ _ _ hcs rfl (by rw [dif_pos (by omega)]; congr 1; exact decide_eq_decide.2 ⟨fun e => .inr ⟨hC, e⟩, fun e => e.elim (fun e => absurd e hB) (fun e => e.2)⟩) (sk 34))
   refine run_draw (id := 14) (ops := F19.o14) [] (C1) [yy 0, yy 1, yy 2, yy 3, yy 4, yy 5, yy 6, yy 7, yy 8, yy 9, yy 10, yy 11, nn 12, yy 13, yy 14, yy 15, yy 16, yy 17, yy 18, yy 19, yy 20, yy 21, yy 22, yy 23, yy 24, yy 25, yy 26, yy 27, yy 28, yy 29, nn 30, yy 31, yy 32, yy 33] Tryz_mixed (by kernel_rfl) (by kernel_rfl) (by kernel_rfl) ?_
   intro w22 s_20
   replace hd := hd.st s_20 (by first | decide | (simp <;> omega)) (by first | decide | (simp <;> omega))
   have hcs := s_20
   have hR := Stp.refl [] w22 (C1)
   replace bw := bw.t s_20
   have bw0 := bw
   replace ho := ho.t s_20
   have ho_b := ho
   refine yM 44 9 ?_
   refine yM 45 5 ?_
   refine yS (kq 46 (.call { callee := .builtin .len, args := #[(.tmp 45)], argTypes := #[23] })) rfl rfl (fun w' hS => ho_b.lenV rfl Tryz.underlying23 w' ) ?_
   refine yV (kq 47 (.binOp .lss 3 (.tmp 44) (.tmp 46) 3)) (fun _ => val_T (val_lss rfl rfl) hA) ?_
   refine yM 48 47 ?_
   refine yMg 49 5 4 true ?_
   refine yMg 50 9 4 true ?_
   refine iS (e := 58) (kg 51 (.indexAddr 23 (.tmp 49) (.tmp 50)) 4 true) rfl rfl ho_b rfl (by kernel_rfl) rfl (by omega) (by omega) ?_
   intro b51 o51 h51
   try simp only [Int.toNat_natCast] at h51
   have h52 := RA.bA h51
   refine yFg 52 58 51 0 0 4 true ?_
   refine lSA (kg 53 (.load 55 (.tmp 52)) 4 true) rfl rfl (fun w' hS => h52.sy hS) h52 (by kernel_rfl) (by kernel_rfl) rfl rfl ?_
   intro v53 g53
   have gb53 := g53
   replace g53 := g53.st hR (by first | decide | (simp <;> omega))
   obtain rfl := rv_couple.1 g53
   refine yFg 54 58 8 0 0 4 true ?_
   refine yS (kg 55 (.load 55 (.tmp 54)) 4 true) rfl rfl (fun w' hS => val_loadOwnAgg (n := 2) (vs := encR (⟨⟨0, 4⟩, ⟨1, 4⟩, 2⟩ : Bond).A) (bw0.stay hS (by decide)) (by kernel_rfl) (by kernel_rfl) rfl rfl rfl) ?_
   replace hF := hF.st s_20
   refine cS (kg 56 (.call { callee := .value (.func 44), args := #[(.tmp 53), (.tmp 55)], argTypes := #[55, 55] }) 4 true) rfl rfl (ent Tryz.call44 rfl) (less30_ok (x := (sl[p]'(by omega)).A) (y := (⟨⟨0, 4⟩, ⟨1, 4⟩, 2⟩ : Bond).A) hF) ?_
   rintro vw23 w23 ⟨rfl, s_21⟩
   rw [decide_eq_false hB]
   refine ⟨(hR.trans s_21 (by simp)).ext, ?_⟩
   replace hd := hd.st s_21 (by first | decide | (simp <;> omega)) (by first | decide | (simp <;> omega))
   refine yMg 57 56 4 true ?_
   refine yMg 58 5 13 false ?_
   refine yMg 59 9 13 false ?_
   refine iS (e := 58) (kg 60 (.indexAddr 23 (.tmp 58) (.tmp 59)) 13 false) rfl rfl ho_b rfl (by kernel_rfl) rfl (by omega) (by omega) ?_
   intro b60 o60 h60
   try simp only [Int.toNat_natCast] at h60
   have h61 := RA.bA h60
   refine yFg 61 58 60 0 0 13 false ?_
   refine lSA (kg 62 (.load 55 (.tmp 61)) 13 false) rfl rfl (fun w' hS => h61.sy hS) h61 (by kernel_rfl) (by kernel_rfl) rfl rfl ?_
   intro v62 g62
   have gb62 := g62
   replace hR := hR.t s_21
   replace g62 := g62.st hR (by first | decide | (simp <;> omega))
   obtain rfl := rv_couple.1 g62
   refine yFg 63 58 8 0 0 13 false ?_
   refine yS (kg 64 (.load 55 (.tmp 63)) 13 false) rfl rfl (fun w' hS => val_loadOwnAgg (n := 2) (vs := encR (⟨⟨0, 4⟩, ⟨1, 4⟩, 2⟩ : Bond).A) (bw0.stay hS (by decide)) (by kernel_rfl) (by kernel_rfl) rfl rfl rfl) ?_
   refine yV (kg 65 (.binOp .eql 55 (.tmp 62) (.tmp 64) 55) 13 false) (fun _ => val_F (val_eqC (a := (sl[p]'(by omega)).A) (b := (⟨⟨0, 4⟩, ⟨1, 4⟩, 2⟩ : Bond).A) Tryz.underlying55 (by decide) (by decide) (by kernel_rfl) Tryz.underlying3 rfl rfl) hC) ?_
   refine yMg 66 65 13 false ?_
   refine pX 67 22 true ?_
   refine pX 68 22 true ?_
   refine pX 69 22 true ?_
   refine pX 70 22 true ?_
   refine pX 71 22 true ?_
   refine pX 72 22 true ?_
   refine pX 73 22 true ?_
   refine pW (kg 74 (.call { callee := .value (.func 44), args := #[(.tmp 71), (.tmp 73)], argTypes := #[55, 55] }) 22 true) rfl rfl hR.ext ?_
   refine yV (kg 75 (.pick (.tmp 66) (.tmp 74) (.const (.bool false))) 13 false) (fun _ => val_pick_f rfl rfl) ?_
   refine yV (kg 76 (.pick (.tmp 57) (.const (.bool true)) (.tmp 75)) 4 true) (fun _ => val_pick_f rfl rfl) ?_
   refine yAt 77 48 76 ?_
   replace hcs := hcs.t s_21
   exact Sch.nil (hcut _ _ _ hcs rfl (by rw [dif_pos (by omega), decide_eq_false (fun e => e.elim hB (fun e => hC e.1))]) (sk 34))
  refine run_draw (id := 14) (ops := F19.o14) [] (C1) [yy 0, yy 1, yy 2, yy 3, yy 4, yy 5, yy 6, yy 7, yy 8, yy 9, yy 10, yy 11, nn 12, yy 13, yy 14, yy 15, yy 16, yy 17, yy 18, yy 19, yy 20, yy 21, yy 22, yy 23, yy 24, yy 25, yy 26, yy 27, yy 28, yy 29, nn 30, yy 31, yy 32, yy 33] Tryz_mixed (by kernel_rfl) (by kernel_rfl) (by kernel_rfl) ?_
  intro w24 s_22
  replace hd := hd.st s_22 (by first | decide | (simp <;> omega)) (by first | decide | (simp <;> omega))
  have hcs := s_22
  have hR := Stp.refl [] w24 (C1)
  replace bw := bw.t s_22
  have bw0 := bw
  replace ho := ho.t s_22
  have ho_b := ho
  refine yM 44 9 ?_
  refine yM 45 5 ?_
  refine yS (kq 46 (.call { callee := .builtin .len, args := #[(.tmp 45)], argTypes := #[23] })) rfl rfl (fun w' hS => ho_b.lenV rfl Tryz.underlying23 w' ) ?_
  refine yV (kq 47 (.binOp .lss 3 (.tmp 44) (.tmp 46) 3)) (fun _ => val_F (val_lss rfl rfl) hA) ?_
  refine yM 48 47 ?_
  refine pX 49 4 true ?_
  refine pX 50 4 true ?_
  refine pX 51 4 true ?_
  refine pX 52 4 true ?_
  refine pX 53 4 true ?_
  refine pX 54 4 true ?_
  refine pX 55 4 true ?_
  refine pW (kg 56 (.call { callee := .value (.func 44), args := #[(.tmp 53), (.tmp 55)], argTypes := #[55, 55] }) 4 true) rfl rfl hR.ext ?_
  refine pX 57 4 true ?_
  refine pX 58 13 false ?_
  refine pX 59 13 false ?_
  refine pX 60 13 false ?_
  refine pX 61 13 false ?_
  refine pX 62 13 false ?_
  refine pX 63 13 false ?_
  refine pX 64 13 false ?_
  refine pX 65 13 false ?_
  refine pX 66 13 false ?_
  refine pX 67 22 true ?_
  refine pX 68 22 true ?_
  refine pX 69 22 true ?_
  refine pX 70 22 true ?_
  refine pX 71 22 true ?_
  refine pX 72 22 true ?_
  refine pX 73 22 true ?_
  refine pW (kg 74 (.call { callee := .value (.func 44), args := #[(.tmp 71), (.tmp 73)], argTypes := #[55, 55] }) 22 true) rfl rfl hR.ext ?_
  refine pX 75 13 false ?_
  refine pX 76 4 true ?_
  refine yAf 77 48 76 ?_
  exact Sch.nil (hcut _ _ _ hcs rfl (by rw [dif_neg (by omega)]) (sk 34))
 intro w25 s_23
 replace hd := hd.st s_23 (by first | decide | (simp <;> omega)) (by first | decide | (simp <;> omega))
 refine run_c 77 rfl (fun h77 => ?_) (fun h77 => ?_)
 ·
  have hpl : p < sl.length := by
    apply Classical.byContradiction; intro e; rw [dif_neg e] at h77; cases h77
  rw [dif_pos hpl] at h77
  have hlt := of_decide_eq_true h77
  refine run_sk (run_bk 3 (run_pl [yy 0, yy 1, yy 2] ?_))
  refine yM 78 9 ?_
  refine yI 79 3 78 1 ?_
  refine yA 9 79 ?_
  refine Sch.nil (run_inBlock ?_)
  replace hF := hF.st s_23; replace hT := hT.t s_23; replace ho := ho.t s_23; replace bw := bw.t s_23
  refine kp (sub_cons 5 rfl rfl (sub_cons 8 rfl rfl (sub_cons 9 rfl (eq_int (by simp)) (sub_nil _)))) (next2 (p + 1, C1) _ ⟨(by first | omega | (simp only; omega)), (fun i hi h2 => by
         simp only at hi
         by_cases e : i = p
         · subst e; exact hlt
         · exact h0 i (by omega) h2), hF, hT, hd, ho, bw⟩ (by first | omega | (simp only; omega)))
 have hge : ∀ h : p < sl.length, ¬ lt2 sl[p] (⟨⟨0, 4⟩, ⟨1, 4⟩, 2⟩ : Bond) := fun h => by rw [dif_pos h] at h77; exact of_decide_eq_false h77
 refine run_ex 2 ?_
 refine run_sq (run_sq ?_)
 refine run_cut 103 ((if h : p < sl.length then decide (sl[p].A = (⟨⟨0, 4⟩, ⟨1, 4⟩, 2⟩ : Bond).A ∧ sl[p].B = (⟨⟨0, 4⟩, ⟨1, 4⟩, 2⟩ : Bond).B) else false)) (C1) ?_ ?_
 ·
  intro hcut
  by_cases hA : (p : Int) < sl.length
  ·
   by_cases hC : (sl[p]'(by omega)).A = (⟨⟨0, 4⟩, ⟨1, 4⟩, 2⟩ : Bond).A
   ·
    refine run_draw (id := 16) (ops := F19.o16) [] (C1) [yy 0, yy 1, yy 2, yy 3, yy 4, yy 5, yy 6, yy 7, yy 8, yy 9, yy 10, yy 11, yy 12, yy 13, yy 14, yy 15, yy 16, yy 17, yy 18, yy 19, yy 20, yy 21, yy 22, yy 23] Tryz_mixed (by kernel_rfl) (by kernel_rfl) (by kernel_rfl) ?_
    intro w26 s_24
    replace hd := hd.st s_24 (by first | decide | (simp <;> omega)) (by first | decide | (simp <;> omega))
    have hcs := s_24
    refine yM 80 9 ?_
    refine yM 81 5 ?_
    replace ho := (ho.t s_23).t s_24
    refine yS (kq 82 (.call { callee := .builtin .len, args := #[(.tmp 81)], argTypes := #[23] })) rfl rfl (fun w' hS => ho.lenV rfl Tryz.underlying23 w' ) ?_
    refine yV (kq 83 (.binOp .lss 3 (.tmp 80) (.tmp 82) 3)) (fun _ => val_T (val_lss rfl rfl) hA) ?_
    refine yM 84 83 ?_
    refine yMg 85 5 4 true ?_
    refine yMg 86 9 4 true ?_
    refine iS (e := 58) (kg 87 (.indexAddr 23 (.tmp 85) (.tmp 86)) 4 true) rfl rfl ho rfl (by kernel_rfl) rfl (by omega) (by omega) ?_
    intro b87 o87 h87
    try simp only [Int.toNat_natCast] at h87
    have h88 := RA.bA h87
    refine yFg 88 58 87 0 0 4 true ?_
    refine lSA (kg 89 (.load 55 (.tmp 88)) 4 true) rfl rfl (fun w' hS => h88.sy hS) h88 (by kernel_rfl) (by kernel_rfl) rfl rfl ?_
    intro v89 g89
    obtain rfl := rv_couple.1 g89
    refine yFg 90 58 8 0 0 4 true ?_
    replace bw := (bw.t s_23).t s_24
    refine yS (kg 91 (.load 55 (.tmp 90)) 4 true) rfl rfl (fun w' hS => val_loadOwnAgg (n := 2) (vs := encR (⟨⟨0, 4⟩, ⟨1, 4⟩, 2⟩ : Bond).A) (bw.stay hS (by decide)) (by kernel_rfl) (by kernel_rfl) rfl rfl rfl) ?_
    refine yV (kg 92 (.binOp .eql 55 (.tmp 89) (.tmp 91) 55) 4 true) (fun _ => val_T (val_eqC (a := (sl[p]'(by omega)).A) (b := (⟨⟨0, 4⟩, ⟨1, 4⟩, 2⟩ : Bond).A) Tryz.underlying55 (by decide) (by decide) (by kernel_rfl) Tryz.underlying3 rfl rfl) hC) ?_
    refine yAt 93 84 92 ?_
    refine yM 94 93 ?_
    refine yMg 95 5 14 true ?_
    refine yMg 96 9 14 true ?_
    refine iS (e := 58) (kg 97 (.indexAddr 23 (.tmp 95) (.tmp 96)) 14 true) rfl rfl ho rfl (by kernel_rfl) rfl (by omega) (by omega) ?_
    intro b97 o97 h97
    try simp only [Int.toNat_natCast] at h97
    have h98 := RA.bB h97
    refine yFg 98 58 97 1 2 14 true ?_
    refine lSA (kg 99 (.load 55 (.tmp 98)) 14 true) rfl rfl (fun w' hS => h98.sy hS) h98 (by kernel_rfl) (by kernel_rfl) rfl rfl ?_
    intro v99 g99
    obtain rfl := rv_couple.1 g99
    refine yFg 100 58 8 1 2 14 true ?_
    refine yS (kg 101 (.load 55 (.tmp 100)) 14 true) rfl rfl (fun w' hS => val_loadOwnAgg (n := 2) (vs := encR (⟨⟨0, 4⟩, ⟨1, 4⟩, 2⟩ : Bond).B) (bw.stay hS (by decide)) (by kernel_rfl) (by kernel_rfl) rfl rfl rfl) ?_
    refine yV (kg 102 (.binOp .eql 55 (.tmp 99) (.tmp 101) 55) 14 true) (fun _ => val_eqC (a := (sl[p]'(by omega)).B) (b := (⟨⟨0, 4⟩, ⟨1, 4⟩, 2⟩ : Bond).B) Tryz.underlying55 (by decide) (by decide) (by kernel_rfl) Tryz.underlying3 rfl rfl) ?_
    refine yAt 103 94 102 ?_
    exact Sch.nil (hcut _ _ _ hcs rfl (by rw [dif_pos (by omega)]; congr 1; exact decide_eq_decide.2 ⟨fun e => ⟨hC, e⟩, fun e => e.2⟩) (sk 24))
   refine run_draw (id := 16) (ops := F19.o16) [] (C1) [yy 0, yy 1, yy 2, yy 3, yy 4, yy 5, yy 6, yy 7, yy 8, yy 9, yy 10, yy 11, yy 12, yy 13, yy 14, yy 15, yy 16, yy 17, yy 18, yy 19, yy 20, yy 21, yy 22, yy 23] Tryz_mixed (by kernel_rfl) (by kernel_rfl) (by kernel_rfl) ?_
   intro w27 s_25
   replace hd := hd.st s_25 (by first | decide | (simp <;> omega)) (by first | decide | (simp <;> omega))
   have hcs := s_25
   refine yM 80 9 ?_
   refine yM 81 5 ?_
   replace ho := (ho.t s_23).t s_25
   refine yS (kq 82 (.call { callee := .builtin .len, args := #[(.tmp 81)], argTypes := #[23] })) rfl rfl (fun w' hS => ho.lenV rfl Tryz.underlying23 w' ) ?_
   refine yV (kq 83 (.binOp .lss 3 (.tmp 80) (.tmp 82) 3)) (fun _ => val_T (val_lss rfl rfl) hA) ?_
   refine yM 84 83 ?_
   refine yMg 85 5 4 true ?_
   refine yMg 86 9 4 true ?_
   refine iS (e := 58) (kg 87 (.indexAddr 23 (.tmp 85) (.tmp 86)) 4 true) rfl rfl ho rfl (by kernel_rfl) rfl (by omega) (by omega) ?_
   intro b87 o87 h87
   try simp only [Int.toNat_natCast] at h87
   have h88 := RA.bA h87
   refine yFg 88 58 87 0 0 4 true ?_
   refine lSA (kg 89 (.load 55 (.tmp 88)) 4 true) rfl rfl (fun w' hS => h88.sy hS) h88 (by kernel_rfl) (by kernel_rfl) rfl rfl ?_
   intro v89 g89
   obtain rfl := rv_couple.1 g89
   refine yFg 90 58 8 0 0 4 true ?_
   replace bw := (bw.t s_23).t s_25
   refine yS (kg 91 (.load 55 (.tmp 90)) 4 true) rfl rfl (fun w' hS => val_loadOwnAgg (n := 2) (vs := encR (⟨⟨0, 4⟩, ⟨1, 4⟩, 2⟩ : Bond).A) (bw.stay hS (by decide)) (by kernel_rfl) (by kernel_rfl) rfl rfl rfl) ?_
   refine yV (kg 92 (.binOp .eql 55 (.tmp 89) (.tmp 91) 55) 4 true) (fun _ => val_F (val_eqC (a := (sl[p]'(by omega)).A) (b := (⟨⟨0, 4⟩, ⟨1, 4⟩, 2⟩ : Bond).A) Tryz.underlying55 (by decide) (by decide) (by kernel_rfl) Tryz.underlying3 rfl rfl) hC) ?_
   refine yAt 93 84 92 ?_
   refine yM 94 93 ?_
   refine pX 95 14 true ?_
   refine pX 96 14 true ?_
   refine pX 97 14 true ?_
   refine pX 98 14 true ?_
   refine pX 99 14 true ?_
   refine pX 100 14 true ?_
   refine pX 101 14 true ?_
   refine pX 102 14 true ?_
   refine yAf 103 94 102 ?_
   exact Sch.nil (hcut _ _ _ hcs rfl (by rw [dif_pos (by omega), decide_eq_false (fun e => hC e.1)]) (sk 24))
  refine run_draw (id := 16) (ops := F19.o16) [] (C1) [yy 0, yy 1, yy 2, yy 3, yy 4, yy 5, yy 6, yy 7, yy 8, yy 9, yy 10, yy 11, yy 12, yy 13, yy 14, yy 15, yy 16, yy 17, yy 18, yy 19, yy 20, yy 21, yy 22, yy 23] Tryz_mixed (by kernel_rfl) (by kernel_rfl) (by kernel_rfl) ?_
  intro w28 s_26
  replace hd := hd.st s_26 (by first | decide | (simp <;> omega)) (by first | decide | (simp <;> omega))
  have hcs := s_26
  refine yM 80 9 ?_
  refine yM 81 5 ?_
  replace ho := (ho.t s_23).t s_26
  refine yS (kq 82 (.call { callee := .builtin .len, args := #[(.tmp 81)], argTypes := #[23] })) rfl rfl (fun w' hS => ho.lenV rfl Tryz.underlying23 w' ) ?_
  refine yV (kq 83 (.binOp .lss 3 (.tmp 80) (.tmp 82) 3)) (fun _ => val_F (val_lss rfl rfl) hA) ?_
  refine yM 84 83 ?_
  refine pX 85 4 true ?_
  refine pX 86 4 true ?_
  refine pX 87 4 true ?_
  refine pX 88 4 true ?_
  refine pX 89 4 true ?_
  refine pX 90 4 true ?_
  refine pX 91 4 true ?_
  refine pX 92 4 true ?_
  refine yAf 93 84 92 ?_
  refine yM 94 93 ?_
  refine pX 95 14 true ?_
  refine pX 96 14 true ?_
  refine pX 97 14 true ?_
  refine pX 98 14 true ?_
  refine pX 99 14 true ?_
  refine pX 100 14 true ?_
  refine pX 101 14 true ?_
  refine pX 102 14 true ?_
  refine yAf 103 94 102 ?_
  exact Sch.nil (hcut _ _ _ hcs rfl (by rw [dif_neg (by omega)]) (sk 24))
 intro w29 s_27
 replace hd := hd.st s_27 (by first | decide | (simp <;> omega)) (by first | decide | (simp <;> omega))
 refine run_c 103 rfl (fun h103 => ?_) (fun h103 => ?_)
 ·
  refine run_sq (run_pl [yy 0, yy 1] ?_)
  refine yM 104 5 ?_
  refine yA 4 104 ?_
  refine Sch.nil ?_
  refine rt1 Tryz.func19 Tryz.results19 ?_
  replace hT := (hT.t s_23).t s_27; replace ho := (ho.t s_23).t s_27
  exact ⟨sl, hsg, hT.out2 (by decide), ho.out hT hF0 (Mc_col2 C i), hd.out hT hF0 hbc⟩
 have hne : ∀ h : p < sl.length, ¬ (sl[p].A = (⟨⟨0, 4⟩, ⟨1, 4⟩, 2⟩ : Bond).A ∧ sl[p].B = (⟨⟨0, 4⟩, ⟨1, 4⟩, 2⟩ : Bond).B) := fun h => by rw [dif_pos h] at h103; exact of_decide_eq_false h103
 refine run_sk (run_sq ?_)
 refine run_draw2 (id := 18) (ops := F19.o18) [5] (C1) [0, 1, 2, 4] 3 [nn 5, nn 6, yy 7] 5 [nn 3, nn 6, yy 7] Tryz_mixed (by kernel_rfl) (by kernel_rfl) (by kernel_rfl) ?_ ?_
 ·
  intro w30 s_28
  replace hd := hd.st s_28 (by first | decide | (simp <;> omega)) (by first | decide | (simp <;> omega))
  show Sch _ _ _ _ _ _ _ [yy 0, yy 1, yy 2, yy 4, nn 3, nn 5, nn 6, yy 7] _ _
  have hR := Stp.refl [5] w30 (C1)
  refine yM 105 5 ?_
  refine yM 106 9 ?_
  replace ho := ((ho.t s_23).t s_27).t s_28
  refine sTR (e' := 58) (kq 107 (.slice 23 (.tmp 105) none (some (.tmp 106)) none)) rfl rfl ho rfl (by kernel_rfl) rfl (by omega) (by omega) ?_
  intro v107 h107
  try simp only [Int.toNat_natCast] at h107
  replace bw := ((bw.t s_23).t s_27).t s_28
  refine yS (kq 109 (.load 58 (.tmp 8))) rfl rfl (fun w' hS => val_loadOwnAgg (n := 5) (vs := encB (⟨⟨0, 4⟩, ⟨1, 4⟩, 2⟩ : Bond)) (bw.stay hS (by decide)) (by kernel_rfl) (by kernel_rfl) rfl rfl rfl) ?_
  replace hF := ((hF.st s_23).st s_27).st s_28
  refine aS (kq 108 (.call { callee := .builtin .append, args := #[(.const (.slice none 0 0)), (.tmp 107)], argTypes := #[23, 23] })) rfl rfl (a_append (e := 58) (bytes := 40) hF (by decide) rfl rfl (by kernel_rfl) (by decide) (OwnL.nil (α := Bond) (j := 5)) h107 (by simp only [List.length_append, List.length_take, List.length_nil, List.length_drop, List.length_cons]; omega) (by simp only [List.length_append, List.length_take, List.length_nil, List.length_drop, List.length_cons]; omega)) ?_
  rintro v108 w31 ⟨Cw31, s_29, hn, hF⟩
  refine ⟨(hR.trans s_29 (by simp)).ext, ?_⟩
  replace hd := hd.st s_29 (by first | decide | (simp <;> omega)) (by first | decide | (simp <;> omega))
  refine aS (kq 110 (.buildSlice 23 1 #[(0, (.tmp 109))])) rfl rfl (a_buildSlice (ys := ([(⟨⟨0, 4⟩, ⟨1, 4⟩, 2⟩ : Bond)] : List Bond)) (e := 58) (bytes := 40) hF (by kernel_rfl) rfl (by decide) (by decide) ⟨rfl, ⟨_, rfl, rv_bond.2 rfl⟩, trivial⟩) ?_
  rintro v110 w32 ⟨s_30, g110, hF⟩
  replace hR := hR.t s_29
  refine ⟨(hR.trans s_30 (by simp)).ext, ?_⟩
  replace hd := hd.st s_30 (by first | decide | (simp <;> omega)) (by first | decide | (simp <;> omega))
  replace hn := hn.t s_30
  refine aS (kq 111 (.call { callee := .builtin .append, args := #[(.tmp 108), (.tmp 110)], argTypes := #[23, 23] })) rfl rfl (a_append (e := 58) (bytes := 40) hF (by decide) rfl rfl (by kernel_rfl) (by decide) hn g110 (by simp only [List.length_append, List.length_take, List.length_nil, List.length_drop, List.length_cons]; omega) (by simp only [List.length_append, List.length_take, List.length_nil, List.length_drop, List.length_cons]; omega)) ?_
  rintro v111 w33 ⟨Cw33, s_31, hn, hF⟩
  replace hR := hR.t s_30
  refine ⟨(hR.trans s_31 (by simp)).ext, ?_⟩
  replace hd := hd.st s_31 (by first | decide | (simp <;> omega)) (by first | decide | (simp <;> omega))
  refine yA 10 111 ?_
  refine Sch.nil (run_sq (run_pl [yy 0, yy 1, yy 2, yy 3, nn 4, yy 5] ?_))
  refine yM 112 10 ?_
  refine yM 113 5 ?_
  refine yM 114 9 ?_
  replace ho := ((ho.t s_29).t s_30).t s_31
  refine sFR (e' := 58) (kq 115 (.slice 23 (.tmp 113) (some (.tmp 114)) none none)) rfl rfl ho rfl (by kernel_rfl) rfl (by omega) (by omega) ?_
  intro v115 h115
  try simp only [Int.toNat_natCast] at h115
  refine aT (kq 116 (.call { callee := .builtin .append, args := #[(.tmp 112), (.tmp 115)], argTypes := #[23, 23] })) rfl rfl (a_append (e := 58) (bytes := 40) hF (by decide) rfl rfl (by kernel_rfl) (by decide) hn h115 (by simp only [List.length_append, List.length_take, List.length_nil, List.length_drop, List.length_cons]; omega) (by simp only [List.length_append, List.length_take, List.length_nil, List.length_drop, List.length_cons]; omega)) ?_
  rintro v116 w34 ⟨Cw34, s_32, hn, hF⟩
  replace hd := hd.st s_32 (by first | decide | (simp <;> omega)) (by first | decide | (simp <;> omega))
  refine yA 4 116 ?_
  refine Sch.nil ?_
  refine rt1 Tryz.func19 Tryz.results19 ?_
  have hgl := (hsg.insert (x := (⟨⟨0, 4⟩, ⟨1, 4⟩, 2⟩ : Bond)) (by unfold okG; simp only; omega) hp h0 (fun h => ⟨hge h, hne h⟩))
  have hgn := hgl.len
  simp only [List.nil_append] at hn
  replace hT := ((((((hT.t s_23).t s_27).t s_28).t s_29).t s_30).t s_31).t s_32
  exact ⟨_, hgl, hT.out2 (by decide), hn.out hT hF0 (Mc_col2 C i) (fun b _ => col2_lt C i (by decide) b) (by omega), hd.out hT hF0 hbc⟩
 intro w35 s_33
 replace hd := hd.st s_33 (by first | decide | (simp <;> omega)) (by first | decide | (simp <;> omega))
 show Sch _ _ _ _ _ _ _ [yy 0, yy 1, yy 2, yy 4, nn 5, nn 3, nn 6, yy 7] _ _
 have hR := Stp.refl [5] w35 (C1)
 refine yM 105 5 ?_
 refine yM 106 9 ?_
 replace ho := ((ho.t s_23).t s_27).t s_33
 refine sTR (e' := 58) (kq 107 (.slice 23 (.tmp 105) none (some (.tmp 106)) none)) rfl rfl ho rfl (by kernel_rfl) rfl (by omega) (by omega) ?_
 intro v107 h107
 try simp only [Int.toNat_natCast] at h107
 replace bw := ((bw.t s_23).t s_27).t s_33
 refine yS (kq 109 (.load 58 (.tmp 8))) rfl rfl (fun w' hS => val_loadOwnAgg (n := 5) (vs := encB (⟨⟨0, 4⟩, ⟨1, 4⟩, 2⟩ : Bond)) (bw.stay hS (by decide)) (by kernel_rfl) (by kernel_rfl) rfl rfl rfl) ?_
 replace hF := ((hF.st s_23).st s_27).st s_33
 refine aS (kq 110 (.buildSlice 23 1 #[(0, (.tmp 109))])) rfl rfl (a_buildSlice (ys := ([(⟨⟨0, 4⟩, ⟨1, 4⟩, 2⟩ : Bond)] : List Bond)) (e := 58) (bytes := 40) hF (by kernel_rfl) rfl (by decide) (by decide) ⟨rfl, ⟨_, rfl, rv_bond.2 rfl⟩, trivial⟩) ?_
 rintro v110 w36 ⟨s_34, g110, hF⟩
 refine ⟨(hR.trans s_34 (by simp)).ext, ?_⟩
 replace hd := hd.st s_34 (by first | decide | (simp <;> omega)) (by first | decide | (simp <;> omega))
 replace h107 := h107.t s_34
 refine aS (kq 108 (.call { callee := .builtin .append, args := #[(.const (.slice none 0 0)), (.tmp 107)], argTypes := #[23, 23] })) rfl rfl (a_append (e := 58) (bytes := 40) hF (by decide) rfl rfl (by kernel_rfl) (by decide) (OwnL.nil (α := Bond) (j := 5)) h107 (by simp only [List.length_append, List.length_take, List.length_nil, List.length_drop, List.length_cons]; omega) (by simp only [List.length_append, List.length_take, List.length_nil, List.length_drop, List.length_cons]; omega)) ?_
 rintro v108 w37 ⟨Cw37, s_35, hn, hF⟩
 replace hR := hR.t s_34
 refine ⟨(hR.trans s_35 (by simp)).ext, ?_⟩
 replace hd := hd.st s_35 (by first | decide | (simp <;> omega)) (by first | decide | (simp <;> omega))
 replace g110 := g110.t s_35
 refine aS (kq 111 (.call { callee := .builtin .append, args := #[(.tmp 108), (.tmp 110)], argTypes := #[23, 23] })) rfl rfl (a_append (e := 58) (bytes := 40) hF (by decide) rfl rfl (by kernel_rfl) (by decide) hn g110 (by simp only [List.length_append, List.length_take, List.length_nil, List.length_drop, List.length_cons]; omega) (by simp only [List.length_append, List.length_take, List.length_nil, List.length_drop, List.length_cons]; omega)) ?_
 rintro v111 w38 ⟨Cw38, s_36, hn, hF⟩
 replace hR := hR.t s_35
 refine ⟨(hR.trans s_36 (by simp)).ext, ?_⟩
 replace hd := hd.st s_36 (by first | decide | (simp <;> omega)) (by first | decide | (simp <;> omega))
 refine yA 10 111 ?_
 refine Sch.nil (run_sq (run_pl [yy 0, yy 1, yy 2, yy 3, nn 4, yy 5] ?_))
 refine yM 112 10 ?_
 refine yM 113 5 ?_
 refine yM 114 9 ?_
 replace ho := ((ho.t s_34).t s_35).t s_36
 refine sFR (e' := 58) (kq 115 (.slice 23 (.tmp 113) (some (.tmp 114)) none none)) rfl rfl ho rfl (by kernel_rfl) rfl (by omega) (by omega) ?_
 intro v115 h115
 try simp only [Int.toNat_natCast] at h115
 refine aT (kq 116 (.call { callee := .builtin .append, args := #[(.tmp 112), (.tmp 115)], argTypes := #[23, 23] })) rfl rfl (a_append (e := 58) (bytes := 40) hF (by decide) rfl rfl (by kernel_rfl) (by decide) hn h115 (by simp only [List.length_append, List.length_take, List.length_nil, List.length_drop, List.length_cons]; omega) (by simp only [List.length_append, List.length_take, List.length_nil, List.length_drop, List.length_cons]; omega)) ?_
 rintro v116 w39 ⟨Cw39, s_37, hn, hF⟩
 replace hd := hd.st s_37 (by first | decide | (simp <;> omega)) (by first | decide | (simp <;> omega))
 refine yA 4 116 ?_
 refine Sch.nil ?_
 refine rt1 Tryz.func19 Tryz.results19 ?_
 have hgl := (hsg.insert (x := (⟨⟨0, 4⟩, ⟨1, 4⟩, 2⟩ : Bond)) (by unfold okG; simp only; omega) hp h0 (fun h => ⟨hge h, hne h⟩))
 have hgn := hgl.len
 simp only [List.nil_append] at hn
 replace hT := ((((((hT.t s_23).t s_27).t s_33).t s_34).t s_35).t s_36).t s_37
 exact ⟨_, hgl, hT.out2 (by decide), hn.out hT hF0 (Mc_col2 C i) (fun b _ => col2_lt C i (by decide) b) (by omega), hd.out hT hF0 hbc⟩
end Go.Proofs.YtmdhggfehknjjaaGreat
