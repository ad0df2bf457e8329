/- Steps through functions of the program. -/
import Derived.Test.YtionghonhnedgaaGreatJVD
set_option linter.unusedVariables false
set_option linter.unusedSimpArgs false
set_option maxRecDepth 100000
set_option maxHeartbeats 4000000
namespace Go.Proofs.YtionghonhnedgaaGreat
open Go.K Go.K.Rep

namespace F26
noncomputable def c0 := bodyOf Tryz.f26
noncomputable def c8 := (cl (cl (cr (cr (cr c0)))))
noncomputable def c9 := (cr (cl (cr (cr (cr c0)))))
noncomputable def c18 := (cl (cr (cr (cl (cl c9)))))
noncomputable def c25 := (cl (cl (cr (cr (cl c18)))))
noncomputable def c26 := (cr (cl (cr (cr (cl c18)))))
noncomputable def c28 := (cr (cr (cr (cl (cl c9)))))
noncomputable def c30 := (cl (cr (cr (cr (cr c0)))))
end F26
/-- 'Missing'. -/
theorem missing_ok {w₀ : World} {C : Nat → Nat} {bud id ver : Int} {l : List Shw} {vals : List ByteArray} {fl : List Int} {vs vz vv vf : Value} {r : Couple} (hF : Lim w₀ C) (hl : RV w₀ (Mc C) l vs) (hv : RV w₀ (Mc C) vals vv) (hg : RV w₀ (Mc C) fl vf) (h64 : ∀ i (hi : i < vals.length), (vals[i]).size ≤ 64) (hn : vals.length ≤ 5) :
    Calls Tryz.prog 26 #[.agg #[.int .i64 bud, vs, vz], .agg #[.int .i64 r.a, .int .i64 r.b], .agg #[.int .i64 id, .int .i64 ver, vv], vf] w₀ (Ret fun v w' => ∃ u, v = .tuple #[u, .int .i64 (sumCh (misL l r ver vals fl vals.length))] ∧ Stp [] w₀ C w' C ∧ RV w' (Mc C) (misL l r ver vals fl vals.length) u) := by
 have hF0 := hF
 have hT := Stp.refl [2, 3, 4, 5, 6, 7, 8, 9] w₀ (col1 C)
 replace hF := hF.col1
 replace hl : RV w₀ (Mc (col1 C)) l vs := by rw [Mc_col1]; exact hl
 replace hv : RV w₀ (Mc (col1 C)) vals vv := by rw [Mc_col1]; exact hv
 replace hg : RV w₀ (Mc (col1 C)) fl vf := by rw [Mc_col1]; exact hg
 refine calls_start (c := F26.c0) (N := 51) [.agg #[.int .i64 bud, vs, vz], .agg #[.int .i64 r.a, .int .i64 r.b], .agg #[.int .i64 id, .int .i64 ver, vv], vf] Tryz.func26 (by kernel_rfl) (by kernel_rfl) (by kernel_rfl) ?_
 show Run _ _ _ _ [(0, .agg #[.int .i64 bud, vs, vz]), (1, .agg #[.int .i64 r.a, .int .i64 r.b]), (2, .agg #[.int .i64 id, .int .i64 ver, vv]), (3, vf)] _ _
 refine run_sq ?_
 refine run_pl [nn 0, nn 1, nn 2, yy 3, yy 4] ?_
 refine aS (kq 4 (.box 26 (.tmp 0))) rfl rfl (a_box (cs := [.int .i64 bud, vs, vz]) hF 3 rfl rfl) ?_
 rintro _ w1 ⟨Cw1, bw1, rfl, hs, hx, hF⟩
 refine ⟨trivial, ?_⟩
 replace hT := hT.t hs; replace hl := hl.t hs; replace hv := hv.t hs; replace hg := hg.t hs
 refine aS (kq 5 (.box 32 (.tmp 1))) rfl rfl (a_box (cs := encR r) hF 4 rfl rfl) ?_
 rintro _ w2 ⟨Cw2, bw2, rfl, hs, hr, hF⟩
 refine ⟨trivial, ?_⟩
 replace hT := hT.t hs; replace hl := hl.t hs; replace hv := hv.t hs; replace hg := hg.t hs; replace hx := hx.t hs
 refine aS (kq 6 (.box 37 (.tmp 2))) rfl rfl (a_box (cs := [.int .i64 id, .int .i64 ver, vv]) hF 5 rfl rfl) ?_
 rintro _ w3 ⟨Cw3, bw3, rfl, hs, hq, hF⟩
 refine ⟨trivial, ?_⟩
 replace hT := hT.t hs; replace hl := hl.t hs; replace hv := hv.t hs; replace hg := hg.t hs; replace hx := hx.t hs; replace hr := hr.t hs
 refine yV (kq 8 (.assign (.const (.slice none 0 0)))) (fun _ => val_assign rfl) ?_
 refine yAc 9 (.int .i64 0) ?_
 refine Sch.nil ?_
 refine run_sq ?_
 refine run_pl [yy 0] ?_
 refine yV (kq 10 (.assign (.const (.slice none 0 0)))) (fun _ => val_assign rfl) ?_
 refine Sch.nil ?_
 refine run_sq ?_
 refine run_pl [yy 0] ?_
 refine yAc 11 (.int .i64 0) ?_
 refine Sch.nil ?_
 refine run_sq ?_
 refine run_sq ?_
 refine run_pl [yy 0, nn 1, yy 2, yy 3] ?_
 refine yF 14 37 6 2 2 ?_
 refine nS (kq 15 (.load 35 (.tmp 14))) rfl rfl trivial (val_loadOwn hq.at_ (by kernel_rfl) rfl rfl) ?_
 refine yS (kq 16 (.call { callee := .builtin .len, args := #[(.tmp 15)], argTypes := #[35] })) rfl rfl (fun w' hS => hv.lenV rfl Tryz.underlying35 w' ) ?_
 refine yV (kq 17 (.move (.const (.int .i64 0)))) (fun _ => val_move rfl) ?_
 refine Sch.nil ?_
 refine run_bk 0 ?_
 
 refine run_lp (ι := Nat × Value × (Nat → Nat)) (I := fun x w => x.1 ≤ vals.length ∧ Lim w x.2.2 ∧ Stp [2, 3, 4, 5, 6, 7, 8, 9] w₀ (col1 C) w x.2.2 ∧ RV w (Mc x.2.2) l vs ∧ RV w (Mc x.2.2) vals vv ∧ RV w (Mc x.2.2) fl vf ∧ OwnB w x.2.2 3 bw1 (.cells [.int .i64 bud, vs, vz].toArray 26) ∧ OwnB w x.2.2 4 bw2 (.cells (encR r).toArray 32) ∧ OwnB w x.2.2 5 bw3 (.cells [.int .i64 id, .int .i64 ver, vv].toArray 37) ∧ OwnL w x.2.2 6 50 x.2.1 (misL l r ver vals fl x.1)) (e := fun x => [(3, vf), (4, .pointer (some ⟨bw1, 0, none⟩)), (5, .pointer (some ⟨bw2, 0, none⟩)), (6, .pointer (some ⟨bw3, 0, none⟩)), (10, x.2.1), (11, .int .i64 (sumCh (misL l r ver vals fl x.1))), (15, vv), (16, .int .i64 vals.length), (17, .int .i64 x.1)]) (m := fun x => vals.length - x.1) (x₀ := (0, .slice none 0 0, Cw3)) (sr 3 (sr 4 (sr 5 (sr 6 (sr 10 (sr 11 (sr 15 (sr 16 (sr 17 (sub_nil _)))))))))) ?_ ?_
 · exact ⟨Nat.zero_le _, hF, hT, hl, hv, hg, hx, hr, hq, OwnL.nil⟩
 intro ⟨k, vo, C1⟩ w4 hI next
 obtain ⟨hk, hF, hT, hl, hv, hg, hx, hr, hq, ho⟩ := hI
 try simp only at hk hF hT hl hv hg hx hr hq ho
 have next1 := next
 clear next
 show Run _ _ _ _ [(3, vf), (4, .pointer (some ⟨bw1, 0, none⟩)), (5, .pointer (some ⟨bw2, 0, none⟩)), (6, .pointer (some ⟨bw3, 0, none⟩)), (10, vo), (11, .int .i64 (sumCh (misL l r ver vals fl k))), (15, vv), (16, .int .i64 vals.length), (17, .int .i64 k)] _ _
 have hml := misL_len l r ver vals fl k
 have hms := misL_sum (sh := l) (r := r) (ver := ver) (fl := fl) h64 k hk
 refine run_sq ?_
 refine run_pl [yy 0] ?_
 refine yV (kq 18 (.binOp .lss 3 (.tmp 17) (.tmp 16) 3)) (fun _ => val_lss rfl rfl) ?_
 refine Sch.nil ?_
 refine run_sq ?_
 refine run_i 18 rfl (fun h18 => ?_) (fun h18 => ?_)
 ·
  have hkl : k < vals.length := by omega
  have hks := h64 k hkl
  refine run_sk ?_
  refine run_sq ?_
  refine run_bk 1 ?_
  refine run_sq ?_
  refine run_pl [yy 0, yy 1, nn 2, yy 3, yy 4] ?_
  refine yM 19 17 ?_
  refine iS (e := 9) (kq 20 (.indexAddr 35 (.tmp 15) (.tmp 17))) rfl rfl hv rfl (by kernel_rfl) rfl (by omega) (by omega) ?_
  intro b20 o20 h20
  try simp only [Int.toNat_natCast] at h20
  refine lN (kq 21 (.load 9 (.tmp 20))) rfl rfl trivial h20 (by kernel_rfl) rfl rfl ?_
  intro v21 g21
  obtain ⟨rfl, hb21⟩ := rv_str.1 g21
  refine yA 12 19 ?_
  refine yA 13 21 ?_
  refine Sch.nil ?_
  refine run_sq ?_
  by_cases hA : (k : Int) ∈ fl
  ·
   refine run_pl [yy 0, yy 1, nn 2, yy 3, nn 4, nn 5, yy 6, nn 7, yy 8, nn 9, yy 10, yy 11] ?_
   refine yM 22 3 ?_
   refine yM 23 12 ?_
   refine cS (kq 24 (.call { callee := .value (.func 58), args := #[(.tmp 22), (.tmp 23)], argTypes := #[22, 3] })) rfl rfl (ent Tryz.call58 rfl) (containsI_ok hg) ?_
   rintro vw5 w5 ⟨rfl, rfl⟩
   rw [decide_eq_true hA]
   refine ⟨trivial, ?_⟩
   refine yM 25 24 ?_
   refine nS (kg 26 (.load 26 (.tmp 4)) 3 true) rfl rfl trivial (val_loadOwnAgg (n := 3) (vs := [.int .i64 bud, vs, vz]) hx.at_ (by kernel_rfl) (by kernel_rfl) rfl rfl rfl) ?_
   refine nS (kg 27 (.load 32 (.tmp 5)) 3 true) rfl rfl trivial (val_loadOwnAgg (n := 2) (vs := encR r) hr.at_ (by kernel_rfl) (by kernel_rfl) rfl rfl rfl) ?_
   refine yFg 28 37 6 1 1 3 true ?_
   refine nS (kg 29 (.load 3 (.tmp 28)) 3 true) rfl rfl trivial (val_loadOwn hq.at_ (by kernel_rfl) rfl rfl) ?_
   refine yMg 30 12 3 true ?_
   refine cS (kg 31 (.call { callee := .value (.func 59), args := #[(.tmp 26), (.tmp 27), (.tmp 29), (.tmp 30)], argTypes := #[26, 32, 3, 3] }) 3 true) rfl rfl (ent Tryz.call59 rfl) (shown_ok (bud := bud) (vz := vz) (r := r) hF hl) ?_
   rintro vw6 w6 ⟨rfl, hs⟩
   refine ⟨trivial, ?_⟩
   replace hF := hF.st hs
   replace hT := hT.t hs; replace hl := hl.t hs; replace hv := hv.t hs; replace hg := hg.t hs; replace hx := hx.t hs; replace hr := hr.t hs; replace hq := hq.t hs; replace ho := ho.t hs; replace h20 := h20.t hs
   refine yV (kg 32 (.unOp .not 4 (.tmp 31)) 3 true) (fun _ => val_not rfl) ?_
   refine yAt 33 25 32 ?_
   refine Sch.nil ?_
   refine run_c 33 rfl (fun h33 => ?_) (fun h33 => ?_)
   ·
    have hm : misL l r ver vals fl (k + 1) = misL l r ver vals fl k ++ [(⟨r, ver, k, (((vals[k]'hkl)).size : Nat)⟩ : Shw)] := by rw [misL, getD_in hkl, if_pos ⟨hA, by simpa using h33⟩]
    have hmt : sumCh (misL l r ver vals fl (k + 1)) = sumCh (misL l r ver vals fl k) + (((vals[k]'hkl)).size : Nat) := by rw [hm, sumCh_app]; simp [sumCh]
    refine run_sq ?_
    refine run_pl [yy 0, nn 1, yy 2, nn 3, yy 4, yy 5, yy 6, yy 7, nn 8, nn 9, yy 10] ?_
    refine yM 34 10 ?_
    refine nS (kq 35 (.load 32 (.tmp 5))) rfl rfl trivial (val_loadOwnAgg (n := 2) (vs := encR r) hr.at_ (by kernel_rfl) (by kernel_rfl) rfl rfl rfl) ?_
    refine yF 36 37 6 1 1 ?_
    refine nS (kq 37 (.load 3 (.tmp 36))) rfl rfl trivial (val_loadOwn hq.at_ (by kernel_rfl) rfl rfl) ?_
    refine yM 38 12 ?_
    refine yM 39 13 ?_
    refine yV (kq 40 (.call { callee := .builtin .len, args := #[(.tmp 39)], argTypes := #[9] })) (fun _ => val_len_string rfl Tryz.underlying9) ?_
    refine yV (kq 41 (.build 50 #[(0, (.tmp 35)), (1, (.tmp 37)), (2, (.tmp 38)), (3, (.tmp 40))])) (fun _ => val_build (zs := [.int .i64 0, .int .i64 0, .int .i64 0, .int .i64 0, .int .i64 0]) (ps := [(0, 2), (2, 1), (3, 1), (4, 1)]) (qs := [(0, encR r), (1, [.int .i64 ver]), (2, [.int .i64 k]), (3, [.int .i64 (((vals[k]'hkl)).size : Nat)])]) (cs := encS (⟨r, ver, k, (((vals[k]'hkl)).size : Nat)⟩ : Shw)) (by kernel_rfl) (by kernel_rfl) (by exact ⟨rfl, ⟨_, rfl, rfl⟩, rfl, ⟨_, rfl, rfl⟩, rfl, ⟨_, rfl, rfl⟩, rfl, ⟨_, rfl, rfl⟩, trivial⟩) rfl) ?_
    refine aS (kq 42 (.buildSlice 23 1 #[(0, (.tmp 41))])) rfl rfl (a_buildSlice (ys := ([(⟨r, ver, k, (((vals[k]'hkl)).size : Nat)⟩ : Shw)] : List Shw)) (e := 50) (bytes := 40) hF (by kernel_rfl) rfl (by decide) (by decide) ⟨rfl, ⟨_, rfl, rv_shw.2 rfl⟩, trivial⟩) ?_
    rintro v42 w7 ⟨hs, g42, hF⟩
    refine ⟨trivial, ?_⟩
    replace hT := hT.t hs; replace hl := hl.t hs; replace hv := hv.t hs; replace hg := hg.t hs; replace hx := hx.t hs; replace hr := hr.t hs; replace hq := hq.t hs; replace ho := ho.t hs; replace h20 := h20.t hs
    refine aS (kq 43 (.call { callee := .builtin .append, args := #[(.tmp 34), (.tmp 42)], argTypes := #[23, 23] })) rfl rfl (a_append (e := 50) (bytes := 40) hF (by decide) rfl rfl (by kernel_rfl) (by decide) ho g42 (by simp only [List.length_cons, List.length_nil]; omega) (by simp only [List.length_cons, List.length_nil]; omega)) ?_
    rintro v43 w8 ⟨Cw8, hs, ho, hF⟩
    refine ⟨trivial, ?_⟩
    replace hT := hT.t hs; replace hl := hl.t hs; replace hv := hv.t hs; replace hg := hg.t hs; replace hx := hx.t hs; replace hr := hr.t hs; replace hq := hq.t hs; replace h20 := h20.t hs; replace g42 := g42.t hs
    refine yA 10 43 ?_
    refine Sch.nil ?_
    refine run_pl [yy 0, yy 1, yy 2, yy 3, yy 4] ?_
    refine yM 44 11 ?_
    refine yM 45 13 ?_
    refine yV (kq 46 (.call { callee := .builtin .len, args := #[(.tmp 45)], argTypes := #[9] })) (fun _ => val_len_string rfl Tryz.underlying9) ?_
    refine yV (kq 47 (.binOp .add 3 (.tmp 44) (.tmp 46) 3)) (fun _ => val_addi rfl rfl (by omega) (by omega)) ?_
    refine yA 11 47 ?_
    refine Sch.nil ?_
    refine run_inBlock ?_
    refine run_pl [yy 0, yy 1] ?_
    refine yV (kq 48 (.binOp .add 3 (.tmp 17) (.const (.int .i64 1)) 3)) (fun _ => val_addi rfl rfl (by omega) (by omega)) ?_
    refine yM 17 48 ?_
    refine Sch.nil ?_
    refine kp (sub_cons 3 rfl rfl (sub_cons 4 rfl rfl (sub_cons 5 rfl rfl (sub_cons 6 rfl rfl (sub_cons 10 rfl rfl (sub_cons 11 rfl (eq_int (by simp only; rw [hmt])) (sub_cons 15 rfl rfl (sub_cons 16 rfl rfl (sub_cons 17 rfl (eq_int (by simp)) (sub_nil _)))))))))) (next1 (k + 1, v43, Cw8) _ ⟨(by first | omega | (simp only; omega)), hF, hT, hl, hv, hg, hx, hr, hq, (by simp only; rw [hm]; exact ho)⟩ (by first | omega | (simp only; omega)))
   ·
    refine run_sk ?_
    refine run_inBlock ?_
    refine run_pl [yy 0, yy 1] ?_
    refine yV (kq 48 (.binOp .add 3 (.tmp 17) (.const (.int .i64 1)) 3)) (fun _ => val_addi rfl rfl (by omega) (by omega)) ?_
    refine yM 17 48 ?_
    refine Sch.nil ?_
    have hm : misL l r ver vals fl (k + 1) = misL l r ver vals fl k := by rw [misL, if_neg (by rintro ⟨_, e⟩; rw [e] at h33; cases h33), List.append_nil]
    refine kp (sub_cons 3 rfl rfl (sub_cons 4 rfl rfl (sub_cons 5 rfl rfl (sub_cons 6 rfl rfl (sub_cons 10 rfl rfl (sub_cons 11 rfl (eq_int (by simp only; rw [hm])) (sub_cons 15 rfl rfl (sub_cons 16 rfl rfl (sub_cons 17 rfl (eq_int (by simp)) (sub_nil _)))))))))) (next1 (k + 1, vo, C1) _ ⟨(by first | omega | (simp only; omega)), hF, hT, hl, hv, hg, hx, hr, hq, (by simp only; rw [hm]; exact ho)⟩ (by first | omega | (simp only; omega)))
  ·
   refine run_pl [yy 0, yy 1, nn 2, yy 3, nn 4, nn 5, yy 6, nn 7, yy 8, nn 9, yy 10, yy 11] ?_
   refine yM 22 3 ?_
   refine yM 23 12 ?_
   refine cS (kq 24 (.call { callee := .value (.func 58), args := #[(.tmp 22), (.tmp 23)], argTypes := #[22, 3] })) rfl rfl (ent Tryz.call58 rfl) (containsI_ok hg) ?_
   rintro vw9 w9 ⟨rfl, rfl⟩
   rw [decide_eq_false hA]
   refine ⟨trivial, ?_⟩
   refine yM 25 24 ?_
   refine pW (kg 26 (.load 26 (.tmp 4)) 3 true) rfl rfl trivial ?_
   refine pW (kg 27 (.load 32 (.tmp 5)) 3 true) rfl rfl trivial ?_
   refine pX 28 3 true ?_
   refine pW (kg 29 (.load 3 (.tmp 28)) 3 true) rfl rfl trivial ?_
   refine pX 30 3 true ?_
   refine pW (kg 31 (.call { callee := .value (.func 59), args := #[(.tmp 26), (.tmp 27), (.tmp 29), (.tmp 30)], argTypes := #[26, 32, 3, 3] }) 3 true) rfl rfl trivial ?_
   refine pX 32 3 true ?_
   refine yAf 33 25 32 ?_
   refine Sch.nil ?_
   refine run_cF 33 ?_
   refine run_sk ?_
   refine run_inBlock ?_
   refine run_pl [yy 0, yy 1] ?_
   refine yV (kq 48 (.binOp .add 3 (.tmp 17) (.const (.int .i64 1)) 3)) (fun _ => val_addi rfl rfl (by omega) (by omega)) ?_
   refine yM 17 48 ?_
   refine Sch.nil ?_
   have hm : misL l r ver vals fl (k + 1) = misL l r ver vals fl k := by rw [misL, if_neg (by exact fun e => hA e.1), List.append_nil]
   refine kp (sub_cons 3 rfl rfl (sub_cons 4 rfl rfl (sub_cons 5 rfl rfl (sub_cons 6 rfl rfl (sub_cons 10 rfl rfl (sub_cons 11 rfl (eq_int (by simp only; rw [hm])) (sub_cons 15 rfl rfl (sub_cons 16 rfl rfl (sub_cons 17 rfl (eq_int (by simp)) (sub_nil _)))))))))) (next1 (k + 1, vo, C1) _ ⟨(by first | omega | (simp only; omega)), hF, hT, hl, hv, hg, hx, hr, hq, (by simp only; rw [hm]; exact ho)⟩ (by first | omega | (simp only; omega)))
 ·
  have hkl : k = vals.length := by omega
  subst hkl
  refine run_ex 0 ?_
  refine run_sq ?_
  refine run_pl [yy 0, yy 1, yy 2, yy 3] ?_
  refine yM 49 10 ?_
  refine yM 50 11 ?_
  refine yA 8 49 ?_
  refine yA 9 50 ?_
  refine Sch.nil ?_
  refine run_ret2 (by kernel_rfl) Tryz.func26 Tryz.results26 rfl rfl ?_
  exact ⟨_, rfl, hT.out1 (by decide), ho.out hT hF0 (Mc_col1 C) (fun b _ => col1_lt C (by decide) b) (by omega)⟩
end Go.Proofs.YtionghonhnedgaaGreat
