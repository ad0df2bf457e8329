/- Steps through functions of the program. -/
import Derived.Test.YtionghonhnedgaaGreatJV6
set_option linter.unusedVariables false
set_option linter.unusedSimpArgs false
set_option maxRecDepth 100000
set_option maxHeartbeats 4000000
namespace Go.Proofs.YtionghonhnedgaaGreat
open Go.K Go.K.Rep

namespace F108
noncomputable def c0 := bodyOf Tryz.f108
noncomputable def c7 := (cl (cl (cl (cr (cr c0)))))
noncomputable def c22 := (cl (cr (cr (cr (cr c0)))))
noncomputable def c33 := (cl (cr (cl (cr (cl c22)))))
noncomputable def c43 := (cl (cl (cr (cl (cl c33)))))
noncomputable def c44 := (cr (cl (cr (cl (cl c33)))))
noncomputable def c47 := (cr (cr (cl (cr (cl c22)))))
end F108
theorem stableG_ok {w₀ : World} {C : Nat → Nat} {j n : Nat} {v : Value} {ys : List Couple} (hF : Lim w₀ C) (hj : j ≠ 0) (ho : OwnL w₀ C j 98 v ys) (hn : n = ys.length) (hlen : ys.length < 20) :
    Calls Tryz.prog 108 #[v, .int .i64 n, .func (.func 87) #[] #[]] w₀ (Ret fun u w' => u = .tuple #[] ∧ ∃ zs, StS cmpG ys zs ∧ Stp [j] w₀ C w' C ∧ OwnL w' C j 98 v zs ∧ Lim w' C) := by
 have hT := Stp.refl [j] w₀ C
 refine calls_start (c := F108.c0) (N := 63) [v, .int .i64 n, .func (.func 87) #[] #[]] Tryz.func108 (by kernel_rfl) (by kernel_rfl) (by kernel_rfl) ?_
 show Run _ _ _ _ [(0, v), (1, .int .i64 n), (2, .func (.func 87) #[] #[])] _ _
 refine run_sq ?_
 refine run_pl [yy 0] ?_
 refine yAc 6 (.int .i64 20) ?_
 refine Sch.nil ?_
 refine run_sq ?_
 refine run_pl [yy 0, yy 1, yy 2] ?_
 refine yM 10 6 ?_
 refine yAc 7 (.int .i64 0) ?_
 refine yA 8 10 ?_
 refine Sch.nil ?_
 refine run_sq ?_
 refine run_bk 0 ?_
 
 refine run_lp (ι := Nat) (I := fun x w => Lim w C ∧ Stp [j] w₀ C w C ∧ OwnL w C j 98 v ys) (e := fun x => [(0, v), (1, .int .i64 n), (2, .func (.func 87) #[] #[]), (6, .int .i64 20), (7, .int .i64 0), (8, .int .i64 20)]) (m := fun x => 0) (x₀ := 0) (sr 0 (sr 1 (sr 2 (sr 6 (sr 7 (sr 8 (sub_nil _))))))) ?_ ?_
 · exact ⟨hF, hT, ho⟩
 intro z w1 hI next
 obtain ⟨hF, hT, ho⟩ := hI
 try simp only at hF hT ho
 have next1 := next
 clear next
 show Run _ _ _ _ [(0, v), (1, .int .i64 n), (2, .func (.func 87) #[] #[]), (6, .int .i64 20), (7, .int .i64 0), (8, .int .i64 20)] _ _
 refine run_sq ?_
 refine run_sq ?_
 refine run_pl [yy 0, yy 1, yy 2] ?_
 refine yM 11 8 ?_
 refine yM 12 1 ?_
 refine yV (kq 13 (.binOp .leq 3 (.tmp 11) (.tmp 12) 3)) (fun _ => val_is (val_leq rfl rfl) (show _ = Value.bool false from congrArg Value.bool (decide_eq_false (by omega)))) ?_
 refine Sch.nil ?_
 refine run_cF 13 ?_
 refine run_ex 0 ?_
 refine run_sq ?_
 refine run_pl [yy 0, yy 1, yy 2, yy 3, nn 4] ?_
 refine yM 23 0 ?_
 refine yM 24 7 ?_
 refine yM 25 1 ?_
 refine yM 26 2 ?_
 refine cS (kq 27 (.call { callee := .value (.func 129), args := #[(.tmp 23), (.tmp 24), (.tmp 25), (.tmp 26)], argTypes := #[95, 3, 3, 125] })) rfl rfl (ent Tryz.call129 rfl) (insG_ok (a := 0) (b := n) hF hj ho (Nat.zero_le _) (by omega) (by omega)) ?_
 rintro vw2 w2 ⟨rfl, zs, σ, hPL, hWi, hAs, hs, ho, hF⟩
 refine ⟨trivial, ?_⟩
 replace hT := hT.trans hs (by simp <;> omega)
 refine Sch.nil ?_
 refine run_bk 2 ?_
 
 refine run_lp (ι := Nat) (I := fun x w => Lim w C ∧ Stp [j] w₀ C w C ∧ OwnL w C j 98 v zs) (e := fun x => [(0, v), (1, .int .i64 n), (2, .func (.func 87) #[] #[]), (6, .int .i64 20)]) (m := fun x => 0) (x₀ := 0) (sr 0 (sr 1 (sr 2 (sr 6 (sub_nil _))))) ?_ ?_
 · exact ⟨hF, hT, ho⟩
 intro z w3 hI next
 obtain ⟨hF, hT, ho⟩ := hI
 try simp only at hF hT ho
 have next2 := next
 clear next
 show Run _ _ _ _ [(0, v), (1, .int .i64 n), (2, .func (.func 87) #[] #[]), (6, .int .i64 20)] _ _
 refine run_sq ?_
 refine run_sq ?_
 refine run_pl [yy 0, yy 1, yy 2] ?_
 refine yM 28 6 ?_
 refine yM 29 1 ?_
 refine yV (kq 30 (.binOp .lss 3 (.tmp 28) (.tmp 29) 3)) (fun _ => val_is (val_lss rfl rfl) (show _ = Value.bool false from congrArg Value.bool (decide_eq_false (by omega)))) ?_
 refine Sch.nil ?_
 refine run_cF 30 ?_
 refine run_ex 2 ?_
 refine run_end0 Tryz.func108 rfl ?_
 subst hn
 exact ⟨rfl, zs, ⟨σ, hPL, hWi, hAs⟩, hT, ho, hF⟩
namespace F86
noncomputable def c0 := bodyOf Tryz.f86
end F86
/-- 'slices.SortStableFunc' of less than twenty elements. -/
theorem sortG_ok {w₀ : World} {C : Nat → Nat} {j : Nat} {v : Value} {ys : List Couple} (hF : Lim w₀ C) (hj : j ≠ 0) (ho : OwnL w₀ C j 98 v ys) (hlen : ys.length < 20) :
    Calls Tryz.prog 86 #[v, .func (.func 87) #[] #[]] w₀ (Ret fun u w' => u = .tuple #[] ∧ ∃ zs, StS cmpG ys zs ∧ Stp [j] w₀ C w' C ∧ OwnL w' C j 98 v zs ∧ Lim w' C) := by
 have hT := Stp.refl [j] w₀ C
 refine calls_start (c := F86.c0) (N := 9) [v, .func (.func 87) #[] #[]] Tryz.func86 (by kernel_rfl) (by kernel_rfl) (by kernel_rfl) ?_
 show Run _ _ _ _ [(0, v), (1, .func (.func 87) #[] #[])] _ _
 refine run_pl [yy 0, yy 1, yy 2, yy 3, nn 4] ?_
 refine yM 4 0 ?_
 refine yM 5 0 ?_
 refine yS (kq 6 (.call { callee := .builtin .len, args := #[(.tmp 5)], argTypes := #[95] })) rfl rfl (fun w' hS => ho.lenV rfl Tryz.underlying95 w' ) ?_
 refine yM 7 1 ?_
 refine cS (kq 8 (.call { callee := .value (.func 108), args := #[(.tmp 4), (.tmp 6), (.tmp 7)], argTypes := #[95, 3, 125] })) rfl rfl (ent Tryz.call108 rfl) (stableG_ok (n := ys.length) hF hj ho rfl hlen) ?_
 rintro vw1 w1 ⟨rfl, zs, hSt, hs, ho, hF⟩
 refine ⟨trivial, ?_⟩
 replace hT := hT.trans hs (by simp <;> omega)
 refine Sch.nil ?_
 refine run_end0 Tryz.func86 rfl ?_
 exact ⟨rfl, zs, hSt, hT, ho, hF⟩
namespace F52
noncomputable def c0 := bodyOf Tryz.f52
noncomputable def c8 := (cl (cr (cl (cr (cr c0)))))
noncomputable def c17 := (cl (cl (cr (cr (cl c8)))))
noncomputable def o5 := rops (cl (cr c17))
noncomputable def c26 := (cl (cr (cr (cr (cr c17)))))
noncomputable def c32 := (cl (cr (cr (cr (cr c0)))))
end F52
/-- 'gains'. -/
theorem gains_ok {w₀ : World} {C : Nat → Nat} {pr : Int} {ag df : List Int} {va vd : Value} {p : Nat} {vg : Value} (hF : Lim w₀ C) (hW : WOK pr ag df) (ha : RV w₀ (Mc C) ag va) (hd : RV w₀ (Mc C) df vd) (hg : RV w₀ (Mc C) (digs p ag.length) vg) : Calls Tryz.prog 52 #[.agg #[.int .i64 pr, va, vd], vg] w₀ (Ret fun v w' => Stp [] w₀ C w' C ∧ RV w' (Mc C) (stS cmpG (gnL ag df p ag.length)) v ∧ StS cmpG (gnL ag df p ag.length) (stS cmpG (gnL ag df p ag.length))) := by
 have hF0 := hF
 have hT := Stp.refl [2, 3, 4, 5, 6, 7, 8, 9] w₀ (col1 C)
 replace hF := hF.col1
 replace ha : RV w₀ (Mc (col1 C)) ag va := by rw [Mc_col1]; exact ha
 replace hd : RV w₀ (Mc (col1 C)) df vd := by rw [Mc_col1]; exact hd
 replace hg : RV w₀ (Mc (col1 C)) (digs p ag.length) vg := by rw [Mc_col1]; exact hg
 refine calls_start (c := F52.c0) (N := 49) [.agg #[.int .i64 pr, va, vd], vg] Tryz.func52 (by kernel_rfl) (by kernel_rfl) (by kernel_rfl) ?_
 show Run _ _ _ _ [(0, .agg #[.int .i64 pr, va, vd]), (1, vg)] _ _
 refine run_sq ?_
 refine run_pl [nn 0, yy 1] ?_
 refine aS (kq 2 (.box 28 (.tmp 0))) rfl rfl (a_box (cs := [.int .i64 pr, va, vd]) hF 3 rfl rfl) ?_
 rintro _ w1 ⟨Cw1, bw1, rfl, hs, hx, hF⟩
 refine ⟨trivial, ?_⟩
 replace hT := hT.t hs; replace ha := ha.t hs; replace hd := hd.t hs; replace hg := hg.t hs
 refine yV (kq 4 (.assign (.const (.slice none 0 0)))) (fun _ => val_assign rfl) ?_
 refine Sch.nil ?_
 refine run_sq ?_
 refine run_pl [yy 0] ?_
 refine yV (kq 5 (.assign (.const (.slice none 0 0)))) (fun _ => val_assign rfl) ?_
 refine Sch.nil ?_
 refine run_sq ?_
 refine run_sq ?_
 refine run_pl [yy 0, yy 1, yy 2] ?_
 refine yM 10 1 ?_
 refine yS (kq 11 (.call { callee := .builtin .len, args := #[(.tmp 10)], argTypes := #[22] })) rfl rfl (fun w' hS => hg.lenV rfl Tryz.underlying22 w' ) ?_
 refine yV (kq 12 (.move (.const (.int .i64 0)))) (fun _ => val_move rfl) ?_
 refine Sch.nil ?_
 refine run_bk 0 ?_
 
 refine run_lp (ι := Nat × Value × (Nat → Nat)) (I := fun x w => x.1 ≤ ag.length ∧ Lim w x.2.2 ∧ Stp [2, 3, 4, 5, 6, 7, 8, 9] w₀ (col1 C) w x.2.2 ∧ RV w (Mc x.2.2) ag va ∧ RV w (Mc x.2.2) df vd ∧ RV w (Mc x.2.2) (digs p ag.length) vg ∧ OwnB w x.2.2 3 bw1 (.cells [.int .i64 pr, va, vd].toArray 28) ∧ OwnL w x.2.2 4 98 x.2.1 (gnL ag df p x.1)) (e := fun x => [(2, .pointer (some ⟨bw1, 0, none⟩)), (5, x.2.1), (10, vg), (11, .int .i64 ag.length), (12, .int .i64 x.1)]) (m := fun x => ag.length - x.1) (x₀ := (0, .slice none 0 0, Cw1)) (sr 2 (sr 5 (sr 10 (sub_cons 11 rfl (eq_int (by rw [digs_len])) (sr 12 (sub_nil _)))))) ?_ ?_
 · exact ⟨Nat.zero_le _, hF, hT, ha, hd, hg, hx, OwnL.nil⟩
 intro ⟨k, vo, C1⟩ w2 hI next
 obtain ⟨hk, hF, hT, ha, hd, hg, hx, ho⟩ := hI
 try simp only at hk hF hT ha hd hg hx ho
 have next1 := next
 clear next
 show Run _ _ _ _ [(2, .pointer (some ⟨bw1, 0, none⟩)), (5, vo), (10, vg), (11, .int .i64 ag.length), (12, .int .i64 k)] _ _
 have hle := hW.l5
 have hld := hW.ld
 have hdl := digs_len p ag.length
 have hgl := gnL_len ag df p k
 refine run_sq ?_
 refine run_pl [yy 0] ?_
 refine yV (kq 13 (.binOp .lss 3 (.tmp 12) (.tmp 11) 3)) (fun _ => val_lss rfl rfl) ?_
 refine Sch.nil ?_
 refine run_sq ?_
 refine run_i 13 rfl (fun h13 => ?_) (fun h13 => ?_)
 ·
  have hkl : k < ag.length := by omega
  have hkd : k < df.length := by omega
  have hab := hW.amt_b hkl p
  have hfa := hW.fa k hkl
  unfold fitW at hfa
  have hdg := dg_lt p k
  have hix := idx3 (p := p) hkl hkd
  refine run_sk ?_
  refine run_sq ?_
  refine run_bk 1 ?_
  refine run_sq ?_
  refine run_pl [yy 0, yy 1, nn 2, yy 3, yy 4] ?_
  refine yM 14 12 ?_
  refine iS (e := 3) (kq 15 (.indexAddr 22 (.tmp 10) (.tmp 12))) rfl rfl hg rfl (by kernel_rfl) rfl (by omega) (by omega) ?_
  intro b15 o15 h15
  try simp only [Int.toNat_natCast] at h15
  refine lN (kq 16 (.load 3 (.tmp 15))) rfl rfl trivial h15 (by kernel_rfl) rfl rfl ?_
  intro v16 g16
  first | (obtain rfl := rv_nat.1 g16) | (obtain rfl := rv_int.1 g16)
  rw [digs_get]
  refine yA 6 14 ?_
  refine yA 7 16 ?_
  refine Sch.nil ?_
  refine run_sq ?_
  refine run_draw (id := 5) (ops := F52.o5) [] (C1) [yy 0, yy 1, yy 2, yy 3, yy 4, yy 5, yy 6, yy 7, yy 8, yy 9, yy 10, yy 11, yy 12, yy 13] Tryz_mixed (by kernel_rfl) (by kernel_rfl) (by kernel_rfl) ?_
  intro w3 hs
  replace hF := hF.st hs
  replace hT := hT.t hs; replace ha := ha.t hs; replace hd := hd.t hs; replace hg := hg.t hs; replace hx := hx.t hs; replace ho := ho.t hs; replace h15 := h15.t hs
  refine yF 17 28 2 2 2 ?_
  refine yS (kq 18 (.load 22 (.tmp 17))) rfl rfl (fun w' hS => val_loadOwn (hx.sy hS) (by kernel_rfl) rfl rfl) ?_
  refine yM 19 6 ?_
  refine iS (e := 3) (kq 20 (.indexAddr 22 (.tmp 18) (.tmp 19))) rfl rfl hd rfl (by kernel_rfl) rfl (by omega) (by omega) ?_
  intro b20 o20 h20
  try simp only [Int.toNat_natCast] at h20
  refine lS (kq 21 (.load 3 (.tmp 20))) rfl rfl (fun w' hS => h20.sy hS) h20 (by kernel_rfl) rfl rfl ?_
  intro v21 g21
  first | (obtain rfl := rv_nat.1 g21) | (obtain rfl := rv_int.1 g21)
  refine yF 22 28 2 1 1 ?_
  refine yS (kq 23 (.load 22 (.tmp 22))) rfl rfl (fun w' hS => val_loadOwn (hx.sy hS) (by kernel_rfl) rfl rfl) ?_
  refine yM 24 6 ?_
  refine iS (e := 3) (kq 25 (.indexAddr 22 (.tmp 23) (.tmp 24))) rfl rfl ha rfl (by kernel_rfl) rfl (by omega) (by omega) ?_
  intro b25 o25 h25
  try simp only [Int.toNat_natCast] at h25
  refine lS (kq 26 (.load 3 (.tmp 25))) rfl rfl (fun w' hS => h25.sy hS) h25 (by kernel_rfl) rfl rfl ?_
  intro v26 g26
  first | (obtain rfl := rv_nat.1 g26) | (obtain rfl := rv_int.1 g26)
  refine yV (kq 27 (.build 114 #[(0, (.const (.int .i64 0))), (1, (.tmp 21)), (2, (.tmp 26))])) (fun _ => val_buildAr (zs := [.int .i64 0, .int .i64 0, .int .i64 0]) (cs := [.int .i64 0, .int .i64 (df[k]'hkd), .int .i64 (ag[k]'hkl)]) (qs := [(0, [.int .i64 0]), (1, [.int .i64 (df[k]'hkd)]), (2, [.int .i64 (ag[k]'hkl)])]) (n := 1) Tryz.underlying114 (by kernel_rfl) (by kernel_rfl) (by exact ⟨rfl, ⟨_, rfl, rfl⟩, rfl, ⟨_, rfl, rfl⟩, rfl, ⟨_, rfl, rfl⟩, trivial⟩) rfl) ?_
  refine yM 28 7 ?_
  refine yV (kq 29 (.index 114 (.tmp 27) (.tmp 28))) (fun _ => val_idxArr (cs := [.int .i64 0, .int .i64 (df[k]'hkd), .int .i64 (ag[k]'hkl)]) Tryz.underlying114 (by kernel_rfl) (by kernel_rfl) rfl rfl (by omega) (by omega) hix) ?_
  refine yA 8 29 ?_
  refine Sch.nil ?_
  refine run_sq ?_
  refine run_pl [yy 0, nn 1, yy 2, yy 3, nn 4, yy 5, yy 6, yy 7] ?_
  refine yF 30 28 2 1 1 ?_
  refine nS (kq 31 (.load 22 (.tmp 30))) rfl rfl trivial (val_loadOwn hx.at_ (by kernel_rfl) rfl rfl) ?_
  refine yM 32 6 ?_
  refine iS (e := 3) (kq 33 (.indexAddr 22 (.tmp 31) (.tmp 32))) rfl rfl ha rfl (by kernel_rfl) rfl (by omega) (by omega) ?_
  intro b33 o33 h33
  try simp only [Int.toNat_natCast] at h33
  refine lN (kq 34 (.load 3 (.tmp 33))) rfl rfl trivial h33 (by kernel_rfl) rfl rfl ?_
  intro v34 g34
  first | (obtain rfl := rv_nat.1 g34) | (obtain rfl := rv_int.1 g34)
  refine yM 35 8 ?_
  refine yV (kq 36 (.binOp .sub 3 (.tmp 34) (.tmp 35) 3)) (fun _ => val_subi rfl rfl (by omega) (by omega)) ?_
  refine yA 9 36 ?_
  refine Sch.nil ?_
  refine run_sq ?_
  refine run_pl [yy 0, yy 1] ?_
  refine yM 37 9 ?_
  refine yV (kq 38 (.binOp .gtr 3 (.tmp 37) (.const (.int .i64 0)) 3)) (fun _ => val_gtr rfl rfl) ?_
  refine Sch.nil ?_
  refine run_i 38 rfl (fun h38 => ?_) (fun h38 => ?_)
  ·
   have hgs : gnL ag df p (k + 1) = gnL ag df p k ++ [⟨(k : Int), (ag[k]'hkl - amt ag df p k)⟩] := by rw [gnL, getD_in hkl, if_pos h38]
   refine run_pl [yy 0, yy 1, yy 2, yy 3, nn 4, nn 5, yy 6] ?_
   refine yM 39 5 ?_
   refine yM 40 6 ?_
   refine yM 41 9 ?_
   refine yV (kq 42 (.build 98 #[(0, (.tmp 40)), (1, (.tmp 41))])) (fun _ => val_build (zs := [.int .i64 0, .int .i64 0]) (ps := [(0, 1), (1, 1)]) (qs := [(0, [.int .i64 k]), (1, [.int .i64 (ag[k]'hkl - amt ag df p k)])]) (cs := [.int .i64 k, .int .i64 (ag[k]'hkl - amt ag df p k)]) (by kernel_rfl) (by kernel_rfl) (by exact ⟨rfl, ⟨_, rfl, rfl⟩, rfl, ⟨_, rfl, rfl⟩, trivial⟩) rfl) ?_
   refine aS (kq 43 (.buildSlice 95 1 #[(0, (.tmp 42))])) rfl rfl (a_buildSlice (ys := ([⟨(k : Int), (ag[k]'hkl - amt ag df p k)⟩] : List Couple)) (e := 98) (bytes := 16) hF (by kernel_rfl) rfl (by decide) (by decide) ⟨rfl, ⟨_, rfl, rv_couple.2 rfl⟩, trivial⟩) ?_
   rintro v43 w4 ⟨hs, g43, hF⟩
   refine ⟨trivial, ?_⟩
   replace hT := hT.t hs; replace ha := ha.t hs; replace hd := hd.t hs; replace hg := hg.t hs; replace hx := hx.t hs; replace ho := ho.t hs; replace h15 := h15.t hs; replace h20 := h20.t hs; replace h25 := h25.t hs; replace h33 := h33.t hs
   refine aS (kq 44 (.call { callee := .builtin .append, args := #[(.tmp 39), (.tmp 43)], argTypes := #[95, 95] })) rfl rfl (a_append (e := 98) (bytes := 16) hF (by decide) rfl rfl (by kernel_rfl) (by decide) ho g43 (by simp only [List.length_cons, List.length_nil]; omega) (by simp only [List.length_cons, List.length_nil]; omega)) ?_
   rintro v44 w5 ⟨Cw5, hs, ho, hF⟩
   refine ⟨trivial, ?_⟩
   replace hT := hT.t hs; replace ha := ha.t hs; replace hd := hd.t hs; replace hg := hg.t hs; replace hx := hx.t hs; replace h15 := h15.t hs; replace h20 := h20.t hs; replace h25 := h25.t hs; replace h33 := h33.t hs; replace g43 := g43.t hs
   refine yA 5 44 ?_
   refine Sch.nil ?_
   refine run_inBlock ?_
   refine run_pl [yy 0, yy 1] ?_
   refine yV (kq 45 (.binOp .add 3 (.tmp 12) (.const (.int .i64 1)) 3)) (fun _ => val_addi rfl rfl (by omega) (by omega)) ?_
   refine yM 12 45 ?_
   refine Sch.nil ?_
   refine kp (sub_cons 2 rfl rfl (sub_cons 5 rfl rfl (sub_cons 10 rfl rfl (sub_cons 11 rfl rfl (sub_cons 12 rfl (eq_int (by simp)) (sub_nil _)))))) (next1 (k + 1, v44, Cw5) _ ⟨(by first | omega | (simp only; omega)), hF, hT, ha, hd, hg, hx, (by simp only; rw [hgs]; exact ho)⟩ (by first | omega | (simp only; omega)))
  ·
   have hgs : gnL ag df p (k + 1) = gnL ag df p k := by rw [gnL, getD_in hkl, if_neg h38, List.append_nil]
   refine run_sk ?_
   refine run_inBlock ?_
   refine run_pl [yy 0, yy 1] ?_
   refine yV (kq 45 (.binOp .add 3 (.tmp 12) (.const (.int .i64 1)) 3)) (fun _ => val_addi rfl rfl (by omega) (by omega)) ?_
   refine yM 12 45 ?_
   refine Sch.nil ?_
   refine kp (sub_cons 2 rfl rfl (sub_cons 5 rfl rfl (sub_cons 10 rfl rfl (sub_cons 11 rfl rfl (sub_cons 12 rfl (eq_int (by simp)) (sub_nil _)))))) (next1 (k + 1, vo, C1) _ ⟨(by first | omega | (simp only; omega)), hF, hT, ha, hd, hg, hx, (by simp only; rw [hgs]; exact ho)⟩ (by first | omega | (simp only; omega)))
 ·
  have hkl : k = ag.length := by omega
  subst hkl
  refine run_ex 0 ?_
  refine run_sq ?_
  refine run_pl [yy 0, nn 1] ?_
  refine yM 46 5 ?_
  refine cS (kq 47 (.call { callee := .value (.func 86), args := #[(.tmp 46), (.func 87)], argTypes := #[95, 125] })) rfl rfl (ent Tryz.call86 rfl) (sortG_ok hF (by decide) ho (by omega)) ?_
  rintro vw6 w6 ⟨rfl, zs, hSt, hs, ho, hF⟩
  have hze := hSt.eq cmpG_3 (fun x _ => trivial)
  have hzl : zs.length = (gnL ag df p ag.length).length := by obtain ⟨σ, h1, _⟩ := hSt; exact h1.len
  refine ⟨trivial, ?_⟩
  replace hT := hT.t hs; replace ha := ha.t hs; replace hd := hd.t hs; replace hg := hg.t hs; replace hx := hx.t hs
  refine Sch.nil ?_
  refine run_sq ?_
  refine run_pl [yy 0, yy 1] ?_
  refine yM 48 5 ?_
  refine yA 4 48 ?_
  refine Sch.nil ?_
  refine run_ret1 (by kernel_rfl) Tryz.func52 Tryz.results52 rfl ?_
  exact ⟨hT.out1 (by decide), by rw [← hze]; exact ho.out hT hF0 (Mc_col1 C) (fun b _ => col1_lt C (by decide) b) (by omega), by rw [← hze]; exact hSt⟩
end Go.Proofs.YtionghonhnedgaaGreat
