/- Steps through functions of the program. -/
import Derived.Test.YtionghonhnedgaaGreatJVA
set_option linter.unusedVariables false
set_option linter.unusedSimpArgs false
set_option maxRecDepth 100000
set_option maxHeartbeats 4000000
namespace Go.Proofs.YtionghonhnedgaaGreat
open Go.K Go.K.Rep

namespace F46
noncomputable def c0 := bodyOf Tryz.f46
noncomputable def c7 := (cl (cl (cr (cl (cr c0)))))
noncomputable def c14 := (cl (cr (cl (cr (cr c0)))))
noncomputable def c23 := (cl (cl (cr (cr (cl c14)))))
noncomputable def c30 := (cl (cl (cr (cl (cr c23)))))
noncomputable def c33 := (cl (cr (cr (cl (cr c23)))))
noncomputable def c34 := (cr (cr (cr (cl (cr c23)))))
noncomputable def o10 := rops (cl (cr c34))
end F46
/-- Decisions that are valid. -/
theorem decided_ok {w₀ : World} {C : Nat → Nat} {l : List Dcs} {vl : Value} (hF : Lim w₀ C) (hl : RV w₀ (Mc C) l vl) (hm : l.length ≤ 4096) (hO : ∀ i (h : i < l.length), dcsOK l[i]) (hA1 : ∀ i (h : i + 1 < l.length), cmpD l[i] l[i + 1] < 0) : Calls Tryz.prog 46 #[vl] w₀ (Ret fun v w' => v = .int .i64 0 ∧ Stp [] w₀ C w' C) := by
 have hF0 := hF
 have hT := Stp.refl [2, 3, 4, 5, 6, 7, 8, 9] w₀ (col1 C)
 replace hF := hF.col1
 replace hl : RV w₀ (Mc (col1 C)) l vl := by rw [Mc_col1]; exact hl
 refine calls_start (c := F46.c0) (N := 47) [vl] Tryz.func46 (by kernel_rfl) (by kernel_rfl) (by kernel_rfl) ?_
 show Run _ _ _ _ [(0, vl)] _ _
 refine run_sq ?_
 refine run_pl [yy 0] ?_
 refine yAc 2 (.int .i64 0) ?_
 refine Sch.nil ?_
 refine run_sq ?_
 refine run_sq ?_
 refine run_pl [yy 0, yy 1, yy 2] ?_
 refine yM 5 0 ?_
 refine yS (kq 6 (.call { callee := .builtin .len, args := #[(.tmp 5)], argTypes := #[24] })) rfl rfl (fun w' hS => hl.lenV rfl Tryz.underlying24 w' ) ?_
 refine yV (kq 7 (.binOp .gtr 3 (.tmp 6) (.const (.int .i64 4096)) 3)) (fun _ => val_is (val_gtr rfl rfl) (show _ = Value.bool false from congrArg Value.bool (decide_eq_false (by omega)))) ?_
 refine Sch.nil ?_
 refine run_cF 7 ?_
 refine run_sk ?_
 refine run_sq ?_
 refine run_sq ?_
 refine run_pl [yy 0, yy 1, yy 2] ?_
 refine yM 8 0 ?_
 refine yS (kq 9 (.call { callee := .builtin .len, args := #[(.tmp 8)], argTypes := #[24] })) rfl rfl (fun w' hS => hl.lenV rfl Tryz.underlying24 w' ) ?_
 refine yV (kq 10 (.move (.const (.int .i64 0)))) (fun _ => val_move rfl) ?_
 refine Sch.nil ?_
 refine run_bk 0 ?_
 
 refine run_lp (ι := Nat × (Nat → Nat)) (I := fun x w => x.1 ≤ l.length ∧ Lim w x.2 ∧ Stp [2, 3, 4, 5, 6, 7, 8, 9] w₀ (col1 C) w x.2 ∧ RV w (Mc x.2) l vl) (e := fun x => [(0, vl), (8, vl), (9, .int .i64 l.length), (10, .int .i64 x.1)]) (m := fun x => l.length - x.1) (x₀ := (0, col1 C)) (sr 0 (sr 8 (sr 9 (sr 10 (sub_nil _))))) ?_ ?_
 · exact ⟨Nat.zero_le _, hF, hT, hl⟩
 intro ⟨i, C1⟩ w1 hI next
 obtain ⟨hi, hF, hT, hl⟩ := hI
 try simp only at hi hF hT hl
 have next1 := next
 clear next
 show Run _ _ _ _ [(0, vl), (8, vl), (9, .int .i64 l.length), (10, .int .i64 i)] _ _
 have hle := hl.le
 refine run_sq ?_
 refine run_pl [yy 0] ?_
 refine yV (kq 11 (.binOp .lss 3 (.tmp 10) (.tmp 9) 3)) (fun _ => val_lss rfl rfl) ?_
 refine Sch.nil ?_
 refine run_sq ?_
 refine run_i 11 rfl (fun h11 => ?_) (fun h11 => ?_)
 ·
  have hil : i < l.length := by omega
  have hok := hO i hil
  unfold dcsOK at hok
  refine run_sk ?_
  refine run_sq ?_
  refine run_bk 1 ?_
  refine run_sq ?_
  refine run_pl [yy 0, yy 1, nn 2, nn 3, yy 4, nn 5] ?_
  refine yM 12 10 ?_
  refine iS (e := 75) (kq 13 (.indexAddr 24 (.tmp 8) (.tmp 10))) rfl rfl hl rfl (by kernel_rfl) rfl (by omega) (by omega) ?_
  intro b13 o13 h13
  try simp only [Int.toNat_natCast] at h13
  refine lNA (kq 14 (.load 75 (.tmp 13))) rfl rfl trivial h13 (by kernel_rfl) (by kernel_rfl) rfl rfl ?_
  intro v14 g14
  obtain rfl := rv_dcs.1 g14
  refine aS (kq 4 (.alloc 75)) rfl rfl (a_alloc (cs := [.int .i64 0, .int .i64 0, .int .i64 0, .int .i64 0, .int .i64 0, .int .i64 0, .bool false]) hF 4 (by kernel_rfl)) ?_
  rintro _ w2 ⟨Cw2, bw2, rfl, hs, hx, hF⟩
  refine ⟨trivial, ?_⟩
  replace hT := hT.t hs; replace hl := hl.t hs; replace h13 := h13.t hs
  refine yA 3 12 ?_
  refine aN (k0 (.store 75 (.tmp 4) (.tmp 14))) rfl (a_storeAll (vs := encD (l[i]'hil)) (n := 7) rfl rfl (by kernel_rfl) rfl rfl (by intro u hu; simp only [encD, List.mem_cons, List.not_mem_nil, or_false] at hu; rcases hu with rfl | rfl | rfl | rfl | rfl | rfl | rfl <;> rfl) hx rfl) ?_
  rintro _ w3 ⟨rfl, hs, hx⟩
  refine ⟨trivial, ?_⟩
  replace hF := hF.st hs
  replace hT := hT.t hs; replace hl := hl.t hs; replace h13 := h13.t hs
  refine Sch.nil ?_
  refine run_bk 2 ?_
  refine run_sq ?_
  refine run_pl [yy 0, nn 1, yy 2, nn 3, nn 4, yy 5, yy 6] ?_
  refine yF 16 75 4 0 0 ?_
  refine nS (kq 17 (.load 32 (.tmp 16))) rfl rfl trivial (val_loadOwnAgg (n := 2) (vs := encR (l[i]'hil).A) hx.at_ (by kernel_rfl) (by kernel_rfl) rfl rfl rfl) ?_
  refine yF 18 75 4 1 2 ?_
  refine nS (kq 19 (.load 32 (.tmp 18))) rfl rfl trivial (val_loadOwnAgg (n := 2) (vs := encR (l[i]'hil).B) hx.at_ (by kernel_rfl) (by kernel_rfl) rfl rfl rfl) ?_
  refine cS (kq 20 (.call { callee := .value (.func 80), args := #[(.tmp 17), (.tmp 19)], argTypes := #[32, 32] })) rfl rfl (ent Tryz.call80 rfl) (couple_ok (x := (l[i]'hil).A) (y := (l[i]'hil).B) hF) ?_
  rintro vw4 w4 ⟨rfl, hs⟩
  rw [hok.1]
  refine ⟨trivial, ?_⟩
  replace hF := hF.st hs
  replace hT := hT.t hs; replace hl := hl.t hs; replace h13 := h13.t hs; replace hx := hx.t hs
  refine yV (kq 21 (.unOp .not 4 (.tmp 20))) (fun _ => val_not rfl) ?_
  refine yA 15 21 ?_
  refine Sch.nil ?_
  refine run_cF 15 ?_
  refine run_sq ?_
  refine run_pl [yy 0, nn 1, nn 2, yy 3, yy 4, yy 5, nn 6, nn 7, yy 8, yy 9, yy 10] ?_
  refine yF 23 75 4 2 4 ?_
  refine nS (kq 24 (.load 3 (.tmp 23))) rfl rfl trivial (val_loadOwn hx.at_ (by kernel_rfl) rfl rfl) ?_
  refine cS (kq 25 (.call { callee := .value (.func 81), args := #[(.tmp 24)], argTypes := #[3] })) rfl rfl (ent Tryz.call81 rfl) (verG_ok _ _) ?_
  rintro vw5 w5 ⟨rfl, rfl⟩
  rw [hok.2.1]
  refine ⟨trivial, ?_⟩
  refine yV (kq 26 (.unOp .not 4 (.tmp 25))) (fun _ => val_not rfl) ?_
  refine yM 27 26 ?_
  refine yFg 28 75 4 3 5 4 false ?_
  refine nS (kg 29 (.load 3 (.tmp 28)) 4 false) rfl rfl trivial (val_loadOwn hx.at_ (by kernel_rfl) rfl rfl) ?_
  refine cS (kg 30 (.call { callee := .value (.func 81), args := #[(.tmp 29)], argTypes := #[3] }) 4 false) rfl rfl (ent Tryz.call81 rfl) (verG_ok _ _) ?_
  rintro vw6 w6 ⟨rfl, rfl⟩
  rw [hok.2.2]
  refine ⟨trivial, ?_⟩
  refine yV (kg 31 (.unOp .not 4 (.tmp 30)) 4 false) (fun _ => val_not rfl) ?_
  refine yOf 32 27 31 ?_
  refine yA 22 32 ?_
  refine Sch.nil ?_
  refine run_cF 22 ?_
  refine run_sq ?_
  by_cases hA : (0 : Int) < i
  ·
   refine run_draw (id := 10) (ops := F46.o10) [] (Cw2) [yy 0, yy 1, yy 2, yy 3, yy 4, yy 5, yy 6, yy 7, yy 8, nn 9, yy 10, yy 11, yy 12] Tryz_mixed (by kernel_rfl) (by kernel_rfl) (by kernel_rfl) ?_
   intro w7 hs
   replace hF := hF.st hs
   replace hT := hT.t hs; replace hl := hl.t hs; replace h13 := h13.t hs; replace hx := hx.t hs
   have hR := Stp.refl [] w7 (Cw2)
   refine yM 34 3 ?_
   refine yV (kq 35 (.binOp .gtr 3 (.tmp 34) (.const (.int .i64 0)) 3)) (fun _ => val_T (val_gtr rfl rfl) hA) ?_
   refine yM 36 35 ?_
   refine yMg 37 0 2 true ?_
   refine yMg 38 3 2 true ?_
   refine yV (kg 39 (.binOp .sub 3 (.tmp 38) (.const (.int .i64 1)) 3) 2 true) (fun _ => val_subi rfl rfl (by omega) (by omega)) ?_
   refine iS (e := 75) (kg 40 (.indexAddr 24 (.tmp 37) (.tmp 39)) 2 true) rfl rfl hl rfl (by kernel_rfl) rfl (by omega) (by omega) ?_
   intro b40 o40 h40
   try simp only [Int.toNat_natCast] at h40
   refine lSA (kg 41 (.load 75 (.tmp 40)) 2 true) rfl rfl (fun w' hS => h40.sy hS) h40 (by kernel_rfl) (by kernel_rfl) rfl rfl ?_
   intro v41 g41
   have eq1 : ((i : Int) - 1).toNat = i - 1 := by omega
   simp only [eq1] at g41
   obtain rfl := rv_dcs.1 g41
   refine yS (kg 42 (.load 75 (.tmp 4)) 2 true) rfl rfl (fun w' hS => val_loadOwnAgg (n := 7) (vs := encD (l[i]'hil)) (hx.stay hS (by decide)) (by kernel_rfl) (by kernel_rfl) rfl rfl rfl) ?_
   refine cS (kg 43 (.call { callee := .value (.func 69), args := #[(.tmp 41), (.tmp 42)], argTypes := #[75, 75] }) 2 true) rfl rfl (ent Tryz.call69 rfl) (decisions_ok (y := l[i]'hil) hF) ?_
   rintro vw8 w8 ⟨rfl, hs⟩
   have hlt : cmpD (l[i - 1]'(by omega)) (l[i]'hil) < 0 := by
     have := hA1 (i - 1) (by omega)
     simp only [show i - 1 + 1 = i from by omega] at this
     exact this
   refine ⟨(hR.trans hs (by simp)).ext, ?_⟩
   replace hF := hF.st hs
   replace hT := hT.t hs; replace hl := hl.t hs; replace h13 := h13.t hs; replace hx := hx.t hs; replace hR := hR.t hs; replace h40 := h40.t hs
   refine yV (kg 44 (.binOp .geq 3 (.tmp 43) (.const (.int .i64 0)) 3) 2 true) (fun _ => val_is (val_geq rfl rfl) (show _ = Value.bool false from congrArg Value.bool (decide_eq_false (by omega)))) ?_
   refine yAt 45 36 44 ?_
   refine yA 33 45 ?_
   refine Sch.nil ?_
   refine run_cF 33 ?_
   refine run_sk ?_
   refine run_inBlock ?_
   refine run_inBlock ?_
   refine run_pl [yy 0, yy 1] ?_
   refine yV (kq 46 (.binOp .add 3 (.tmp 10) (.const (.int .i64 1)) 3)) (fun _ => val_addi rfl rfl (by omega) (by omega)) ?_
   refine yM 10 46 ?_
   refine Sch.nil ?_
   refine kp (sub_cons 0 rfl rfl (sub_cons 8 rfl rfl (sub_cons 9 rfl rfl (sub_cons 10 rfl (eq_int (by simp)) (sub_nil _))))) (next1 (i + 1, Cw2) _ ⟨(by first | omega | (simp only; omega)), hF, hT, hl⟩ (by first | omega | (simp only; omega)))
  ·
   refine run_draw (id := 10) (ops := F46.o10) [] (Cw2) [yy 0, yy 1, yy 2, yy 3, yy 4, yy 5, yy 6, yy 7, yy 8, nn 9, yy 10, yy 11, yy 12] Tryz_mixed (by kernel_rfl) (by kernel_rfl) (by kernel_rfl) ?_
   intro w9 hs
   replace hF := hF.st hs
   replace hT := hT.t hs; replace hl := hl.t hs; replace h13 := h13.t hs; replace hx := hx.t hs
   have hR := Stp.refl [] w9 (Cw2)
   refine yM 34 3 ?_
   refine yV (kq 35 (.binOp .gtr 3 (.tmp 34) (.const (.int .i64 0)) 3)) (fun _ => val_F (val_gtr rfl rfl) hA) ?_
   refine yM 36 35 ?_
   refine pX 37 2 true ?_
   refine pX 38 2 true ?_
   refine pX 39 2 true ?_
   refine pX 40 2 true ?_
   refine pX 41 2 true ?_
   refine pX 42 2 true ?_
   refine pW (kg 43 (.call { callee := .value (.func 69), args := #[(.tmp 41), (.tmp 42)], argTypes := #[75, 75] }) 2 true) rfl rfl hR.ext ?_
   refine pX 44 2 true ?_
   refine yAf 45 36 44 ?_
   refine yA 33 45 ?_
   refine Sch.nil ?_
   refine run_cF 33 ?_
   refine run_sk ?_
   refine run_inBlock ?_
   refine run_inBlock ?_
   refine run_pl [yy 0, yy 1] ?_
   refine yV (kq 46 (.binOp .add 3 (.tmp 10) (.const (.int .i64 1)) 3)) (fun _ => val_addi rfl rfl (by omega) (by omega)) ?_
   refine yM 10 46 ?_
   refine Sch.nil ?_
   refine kp (sub_cons 0 rfl rfl (sub_cons 8 rfl rfl (sub_cons 9 rfl rfl (sub_cons 10 rfl (eq_int (by simp)) (sub_nil _))))) (next1 (i + 1, Cw2) _ ⟨(by first | omega | (simp only; omega)), hF, hT, hl⟩ (by first | omega | (simp only; omega)))
 ·
  have hil : i = l.length := by omega
  refine run_ex 0 ?_
  refine run_sq ?_
  refine run_pl [yy 0] ?_
  refine yAc 2 (.int .i64 0) ?_
  refine Sch.nil ?_
  refine run_ret1 (by kernel_rfl) Tryz.func46 Tryz.results46 rfl ?_
  exact ⟨rfl, hT.out1 (by decide)⟩
namespace F21
noncomputable def c0 := bodyOf Tryz.f21
noncomputable def c7 := (cl (cr (cl (cl (cr c0)))))
noncomputable def c10 := (cr (cr (cl (cl (cr c0)))))
noncomputable def c21 := (cl (cr (cl (cr (cr c0)))))
noncomputable def c30 := (cl (cl (cr (cr (cl c21)))))
noncomputable def c37 := (cl (cl (cr (cl (cr c30)))))
noncomputable def c40 := (cl (cr (cr (cl (cr c30)))))
noncomputable def c41 := (cr (cr (cr (cl (cr c30)))))
noncomputable def o12 := rops (cl (cr c41))
end F21
/-- 'Check', of a review that is valid. -/
theorem rcheck_ok {w₀ : World} {C : Nat → Nat} {bud : Int} {sh : List Shw} {ds : List Dcs} {vs vz : Value} (hF : Lim w₀ C) (hRo : ROK bud sh ds) (hsh : RV w₀ (Mc C) sh vs) (hds : RV w₀ (Mc C) ds vz) : Calls Tryz.prog 21 #[.agg #[.int .i64 bud, vs, vz]] w₀ (Ret fun v w' => v = .int .i64 0 ∧ Stp [] w₀ C w' C) := by
 have hF0 := hF
 have hT := Stp.refl [2, 3, 4, 5, 6, 7, 8, 9] w₀ (col1 C)
 replace hF := hF.col1
 replace hsh : RV w₀ (Mc (col1 C)) sh vs := by rw [Mc_col1]; exact hsh
 replace hds : RV w₀ (Mc (col1 C)) ds vz := by rw [Mc_col1]; exact hds
 refine calls_start (c := F21.c0) (N := 75) [.agg #[.int .i64 bud, vs, vz]] Tryz.func21 (by kernel_rfl) (by kernel_rfl) (by kernel_rfl) ?_
 show Run _ _ _ _ [(0, .agg #[.int .i64 bud, vs, vz])] _ _
 refine run_sq ?_
 refine run_pl [nn 0, yy 1] ?_
 refine aS (kq 1 (.box 26 (.tmp 0))) rfl rfl (a_box (cs := [.int .i64 bud, vs, vz]) hF 3 rfl rfl) ?_
 rintro _ w1 ⟨Cw1, bw1, rfl, hs, hx, hF⟩
 refine ⟨trivial, ?_⟩
 replace hT := hT.t hs; replace hsh := hsh.t hs; replace hds := hds.t hs
 refine yAc 2 (.int .i64 0) ?_
 refine Sch.nil ?_
 refine run_sq ?_
 refine run_bk 0 ?_
 refine run_sq ?_
 refine run_pl [yy 0, nn 1, yy 2, yy 3, yy 4, nn 5, yy 6, yy 7, yy 8] ?_
 refine yF 6 26 1 0 0 ?_
 refine nS (kq 7 (.load 3 (.tmp 6))) rfl rfl trivial (val_loadOwn hx.at_ (by kernel_rfl) rfl rfl) ?_
 refine yV (kq 8 (.binOp .lss 3 (.tmp 7) (.const (.int .i64 0)) 3)) (fun _ => val_is (val_lss rfl rfl) (show _ = Value.bool false from congrArg Value.bool (decide_eq_false (by have := hRo.b0; have := hRo.b1; omega)))) ?_
 refine yM 9 8 ?_
 refine yFg 10 26 1 0 0 3 false ?_
 refine nS (kg 11 (.load 3 (.tmp 10)) 3 false) rfl rfl trivial (val_loadOwn hx.at_ (by kernel_rfl) rfl rfl) ?_
 refine yV (kg 12 (.binOp .gtr 3 (.tmp 11) (.const (.int .i64 65536)) 3) 3 false) (fun _ => val_is (val_gtr rfl rfl) (show _ = Value.bool false from congrArg Value.bool (decide_eq_false (by have := hRo.b0; have := hRo.b1; omega)))) ?_
 refine yOf 13 9 12 ?_
 refine yA 5 13 ?_
 refine Sch.nil ?_
 refine run_cF 5 ?_
 refine run_sq ?_
 refine run_pl [yy 0, nn 1, yy 2, yy 3, yy 4] ?_
 refine yF 15 26 1 1 1 ?_
 refine nS (kq 16 (.load 23 (.tmp 15))) rfl rfl trivial (val_loadOwn hx.at_ (by kernel_rfl) rfl rfl) ?_
 refine yS (kq 17 (.call { callee := .builtin .len, args := #[(.tmp 16)], argTypes := #[23] })) rfl rfl (fun w' hS => hsh.lenV rfl Tryz.underlying23 w' ) ?_
 refine yV (kq 18 (.binOp .gtr 3 (.tmp 17) (.const (.int .i64 4096)) 3)) (fun _ => val_is (val_gtr rfl rfl) (show _ = Value.bool false from congrArg Value.bool (decide_eq_false (by have := hRo.ls; omega)))) ?_
 refine yA 14 18 ?_
 refine Sch.nil ?_
 refine run_cF 14 ?_
 refine run_sk ?_
 refine run_inBlock ?_
 refine run_sq ?_
 refine run_sq ?_
 refine run_pl [yy 0, nn 1, yy 2, yy 3] ?_
 refine yF 19 26 1 1 1 ?_
 refine nS (kq 20 (.load 23 (.tmp 19))) rfl rfl trivial (val_loadOwn hx.at_ (by kernel_rfl) rfl rfl) ?_
 refine yS (kq 21 (.call { callee := .builtin .len, args := #[(.tmp 20)], argTypes := #[23] })) rfl rfl (fun w' hS => hsh.lenV rfl Tryz.underlying23 w' ) ?_
 refine yV (kq 22 (.move (.const (.int .i64 0)))) (fun _ => val_move rfl) ?_
 refine Sch.nil ?_
 refine run_bk 1 ?_
 
 refine run_lp (ι := Nat × (Nat → Nat)) (I := fun x w => x.1 ≤ sh.length ∧ Lim w x.2 ∧ Stp [2, 3, 4, 5, 6, 7, 8, 9] w₀ (col1 C) w x.2 ∧ RV w (Mc x.2) sh vs ∧ RV w (Mc x.2) ds vz ∧ OwnB w x.2 3 bw1 (.cells [.int .i64 bud, vs, vz].toArray 26)) (e := fun x => [(1, .pointer (some ⟨bw1, 0, none⟩)), (20, vs), (21, .int .i64 sh.length), (22, .int .i64 x.1)]) (m := fun x => sh.length - x.1) (x₀ := (0, Cw1)) (sr 1 (sr 20 (sr 21 (sr 22 (sub_nil _))))) ?_ ?_
 · exact ⟨Nat.zero_le _, hF, hT, hsh, hds, hx⟩
 intro ⟨i, C1⟩ w2 hI next
 obtain ⟨hi, hF, hT, hsh, hds, hx⟩ := hI
 try simp only at hi hF hT hsh hds hx
 have next1 := next
 clear next
 show Run _ _ _ _ [(1, .pointer (some ⟨bw1, 0, none⟩)), (20, vs), (21, .int .i64 sh.length), (22, .int .i64 i)] _ _
 have hle := hsh.le
 refine run_sq ?_
 refine run_pl [yy 0] ?_
 refine yV (kq 23 (.binOp .lss 3 (.tmp 22) (.tmp 21) 3)) (fun _ => val_lss rfl rfl) ?_
 refine Sch.nil ?_
 refine run_sq ?_
 refine run_i 23 rfl (fun h23 => ?_) (fun h23 => ?_)
 ·
  have hil : i < sh.length := by omega
  have hok := hRo.so i hil
  unfold shwOK at hok
  refine run_sk ?_
  refine run_sq ?_
  refine run_bk 2 ?_
  refine run_sq ?_
  refine run_pl [yy 0, yy 1, nn 2, nn 3, yy 4, nn 5] ?_
  refine yM 24 22 ?_
  refine iS (e := 50) (kq 25 (.indexAddr 23 (.tmp 20) (.tmp 22))) rfl rfl hsh rfl (by kernel_rfl) rfl (by omega) (by omega) ?_
  intro b25 o25 h25
  try simp only [Int.toNat_natCast] at h25
  refine lNA (kq 26 (.load 50 (.tmp 25))) rfl rfl trivial h25 (by kernel_rfl) (by kernel_rfl) rfl rfl ?_
  intro v26 g26
  obtain rfl := rv_shw.1 g26
  refine aS (kq 4 (.alloc 50)) rfl rfl (a_alloc (cs := [.int .i64 0, .int .i64 0, .int .i64 0, .int .i64 0, .int .i64 0]) hF 4 (by kernel_rfl)) ?_
  rintro _ w3 ⟨Cw3, bw3, rfl, hs, hy, hF⟩
  refine ⟨trivial, ?_⟩
  replace hT := hT.t hs; replace hsh := hsh.t hs; replace hds := hds.t hs; replace hx := hx.t hs; replace h25 := h25.t hs
  refine yA 3 24 ?_
  refine aN (k0 (.store 50 (.tmp 4) (.tmp 26))) rfl (a_storeAll (vs := encS (sh[i]'hil)) (n := 5) rfl rfl (by kernel_rfl) rfl rfl (by intro u hu; simp only [encS, List.mem_cons, List.not_mem_nil, or_false] at hu; rcases hu with rfl | rfl | rfl | rfl | rfl <;> rfl) hy rfl) ?_
  rintro _ w4 ⟨rfl, hs, hy⟩
  refine ⟨trivial, ?_⟩
  replace hF := hF.st hs
  replace hT := hT.t hs; replace hsh := hsh.t hs; replace hds := hds.t hs; replace hx := hx.t hs; replace h25 := h25.t hs
  refine Sch.nil ?_
  refine run_bk 3 ?_
  refine run_sq ?_
  refine run_pl [yy 0, nn 1, nn 2, yy 3, yy 4] ?_
  refine yF 28 50 4 0 0 ?_
  refine nS (kq 29 (.load 32 (.tmp 28))) rfl rfl trivial (val_loadOwnAgg (n := 2) (vs := encR (sh[i]'hil).r) hy.at_ (by kernel_rfl) (by kernel_rfl) rfl rfl rfl) ?_
  refine cS (kq 30 (.call { callee := .value (.func 43), args := #[(.tmp 29)], argTypes := #[32] })) rfl rfl (ent Tryz.call43 rfl) (greyRef_ok (x := (sh[i]'hil).r) hF) ?_
  rintro vw5 w5 ⟨rfl, hs⟩
  rw [hok.1]
  refine ⟨trivial, ?_⟩
  replace hF := hF.st hs
  replace hT := hT.t hs; replace hsh := hsh.t hs; replace hds := hds.t hs; replace hx := hx.t hs; replace h25 := h25.t hs; replace hy := hy.t hs
  refine yV (kq 31 (.unOp .not 4 (.tmp 30))) (fun _ => val_not rfl) ?_
  refine yA 27 31 ?_
  refine Sch.nil ?_
  refine run_cF 27 ?_
  refine run_sq ?_
  refine run_pl [yy 0, nn 1, nn 2, yy 3, yy 4, yy 5, nn 6, yy 7, yy 8, yy 9, yy 10, nn 11, yy 12, yy 13, yy 14, yy 15, nn 16, yy 17, yy 18, yy 19, yy 20, nn 21, yy 22, yy 23, yy 24] ?_
  refine yF 33 50 4 1 2 ?_
  refine nS (kq 34 (.load 3 (.tmp 33))) rfl rfl trivial (val_loadOwn hy.at_ (by kernel_rfl) rfl rfl) ?_
  refine cS (kq 35 (.call { callee := .value (.func 44), args := #[(.tmp 34)], argTypes := #[3] })) rfl rfl (ent Tryz.call44 rfl) (ver_ok _ _) ?_
  rintro vw6 w6 ⟨rfl, rfl⟩
  rw [hok.2.1]
  refine ⟨trivial, ?_⟩
  refine yV (kq 36 (.unOp .not 4 (.tmp 35))) (fun _ => val_not rfl) ?_
  refine yM 37 36 ?_
  refine yFg 38 50 4 2 3 4 false ?_
  refine nS (kg 39 (.load 3 (.tmp 38)) 4 false) rfl rfl trivial (val_loadOwn hy.at_ (by kernel_rfl) rfl rfl) ?_
  refine yV (kg 40 (.binOp .lss 3 (.tmp 39) (.const (.int .i64 0)) 3) 4 false) (fun _ => val_is (val_lss rfl rfl) (show _ = Value.bool false from congrArg Value.bool (decide_eq_false (by omega)))) ?_
  refine yOf 41 37 40 ?_
  refine yM 42 41 ?_
  refine yFg 43 50 4 2 3 9 false ?_
  refine nS (kg 44 (.load 3 (.tmp 43)) 9 false) rfl rfl trivial (val_loadOwn hy.at_ (by kernel_rfl) rfl rfl) ?_
  refine yV (kg 45 (.binOp .geq 3 (.tmp 44) (.const (.int .i64 5)) 3) 9 false) (fun _ => val_is (val_geq rfl rfl) (show _ = Value.bool false from congrArg Value.bool (decide_eq_false (by omega)))) ?_
  refine yOf 46 42 45 ?_
  refine yM 47 46 ?_
  refine yFg 48 50 4 3 4 14 false ?_
  refine nS (kg 49 (.load 3 (.tmp 48)) 14 false) rfl rfl trivial (val_loadOwn hy.at_ (by kernel_rfl) rfl rfl) ?_
  refine yV (kg 50 (.binOp .lss 3 (.tmp 49) (.const (.int .i64 0)) 3) 14 false) (fun _ => val_is (val_lss rfl rfl) (show _ = Value.bool false from congrArg Value.bool (decide_eq_false (by omega)))) ?_
  refine yOf 51 47 50 ?_
  refine yM 52 51 ?_
  refine yFg 53 50 4 3 4 19 false ?_
  refine nS (kg 54 (.load 3 (.tmp 53)) 19 false) rfl rfl trivial (val_loadOwn hy.at_ (by kernel_rfl) rfl rfl) ?_
  refine yV (kg 55 (.binOp .gtr 3 (.tmp 54) (.const (.int .i64 64)) 3) 19 false) (fun _ => val_is (val_gtr rfl rfl) (show _ = Value.bool false from congrArg Value.bool (decide_eq_false (by omega)))) ?_
  refine yOf 56 52 55 ?_
  refine yA 32 56 ?_
  refine Sch.nil ?_
  refine run_cF 32 ?_
  refine run_sq ?_
  by_cases hA : (0 : Int) < i
  ·
   refine run_draw (id := 12) (ops := F21.o12) [] (Cw3) [yy 0, yy 1, yy 2, yy 3, yy 4, yy 5, yy 6, yy 7, yy 8, yy 9, nn 10, yy 11, yy 12, yy 13] Tryz_mixed (by kernel_rfl) (by kernel_rfl) (by kernel_rfl) ?_
   intro w7 hs
   replace hF := hF.st hs
   replace hT := hT.t hs; replace hsh := hsh.t hs; replace hds := hds.t hs; replace hx := hx.t hs; replace h25 := h25.t hs; replace hy := hy.t hs
   have hR := Stp.refl [] w7 (Cw3)
   refine yM 58 3 ?_
   refine yV (kq 59 (.binOp .gtr 3 (.tmp 58) (.const (.int .i64 0)) 3)) (fun _ => val_T (val_gtr rfl rfl) hA) ?_
   refine yM 60 59 ?_
   refine yFg 61 26 1 1 1 2 true ?_
   refine yS (kg 62 (.load 23 (.tmp 61)) 2 true) rfl rfl (fun w' hS => val_loadOwn (hx.sy hS) (by kernel_rfl) rfl rfl) ?_
   refine yMg 63 3 2 true ?_
   refine yV (kg 64 (.binOp .sub 3 (.tmp 63) (.const (.int .i64 1)) 3) 2 true) (fun _ => val_subi rfl rfl (by omega) (by omega)) ?_
   refine iS (e := 50) (kg 65 (.indexAddr 23 (.tmp 62) (.tmp 64)) 2 true) rfl rfl hsh rfl (by kernel_rfl) rfl (by omega) (by omega) ?_
   intro b65 o65 h65
   try simp only [Int.toNat_natCast] at h65
   refine lSA (kg 66 (.load 50 (.tmp 65)) 2 true) rfl rfl (fun w' hS => h65.sy hS) h65 (by kernel_rfl) (by kernel_rfl) rfl rfl ?_
   intro v66 g66
   have eq1 : ((i : Int) - 1).toNat = i - 1 := by omega
   simp only [eq1] at g66
   obtain rfl := rv_shw.1 g66
   refine yS (kg 67 (.load 50 (.tmp 4)) 2 true) rfl rfl (fun w' hS => val_loadOwnAgg (n := 5) (vs := encS (sh[i]'hil)) (hy.stay hS (by decide)) (by kernel_rfl) (by kernel_rfl) rfl rfl rfl) ?_
   refine cS (kg 68 (.call { callee := .value (.func 45), args := #[(.tmp 66), (.tmp 67)], argTypes := #[50, 50] }) 2 true) rfl rfl (ent Tryz.call45 rfl) (compareS_ok (y := sh[i]'hil) hF) ?_
   rintro vw8 w8 ⟨rfl, hs⟩
   have hlt : cmpS (sh[i - 1]'(by omega)) (sh[i]'hil) < 0 := by
     have := hRo.sa (i - 1) (by omega)
     simp only [show i - 1 + 1 = i from by omega] at this
     exact this
   refine ⟨(hR.trans hs (by simp)).ext, ?_⟩
   replace hF := hF.st hs
   replace hT := hT.t hs; replace hsh := hsh.t hs; replace hds := hds.t hs; replace hx := hx.t hs; replace h25 := h25.t hs; replace hy := hy.t hs; replace hR := hR.t hs; replace h65 := h65.t hs
   refine yV (kg 69 (.binOp .geq 3 (.tmp 68) (.const (.int .i64 0)) 3) 2 true) (fun _ => val_is (val_geq rfl rfl) (show _ = Value.bool false from congrArg Value.bool (decide_eq_false (by omega)))) ?_
   refine yAt 70 60 69 ?_
   refine yA 57 70 ?_
   refine Sch.nil ?_
   refine run_cF 57 ?_
   refine run_sk ?_
   refine run_inBlock ?_
   refine run_inBlock ?_
   refine run_pl [yy 0, yy 1] ?_
   refine yV (kq 71 (.binOp .add 3 (.tmp 22) (.const (.int .i64 1)) 3)) (fun _ => val_addi rfl rfl (by omega) (by omega)) ?_
   refine yM 22 71 ?_
   refine Sch.nil ?_
   refine kp (sub_cons 1 rfl rfl (sub_cons 20 rfl rfl (sub_cons 21 rfl rfl (sub_cons 22 rfl (eq_int (by simp)) (sub_nil _))))) (next1 (i + 1, Cw3) _ ⟨(by first | omega | (simp only; omega)), hF, hT, hsh, hds, hx⟩ (by first | omega | (simp only; omega)))
  ·
   refine run_draw (id := 12) (ops := F21.o12) [] (Cw3) [yy 0, yy 1, yy 2, yy 3, yy 4, yy 5, yy 6, yy 7, yy 8, yy 9, nn 10, yy 11, yy 12, yy 13] Tryz_mixed (by kernel_rfl) (by kernel_rfl) (by kernel_rfl) ?_
   intro w9 hs
   replace hF := hF.st hs
   replace hT := hT.t hs; replace hsh := hsh.t hs; replace hds := hds.t hs; replace hx := hx.t hs; replace h25 := h25.t hs; replace hy := hy.t hs
   have hR := Stp.refl [] w9 (Cw3)
   refine yM 58 3 ?_
   refine yV (kq 59 (.binOp .gtr 3 (.tmp 58) (.const (.int .i64 0)) 3)) (fun _ => val_F (val_gtr rfl rfl) hA) ?_
   refine yM 60 59 ?_
   refine pX 61 2 true ?_
   refine pX 62 2 true ?_
   refine pX 63 2 true ?_
   refine pX 64 2 true ?_
   refine pX 65 2 true ?_
   refine pX 66 2 true ?_
   refine pX 67 2 true ?_
   refine pW (kg 68 (.call { callee := .value (.func 45), args := #[(.tmp 66), (.tmp 67)], argTypes := #[50, 50] }) 2 true) rfl rfl hR.ext ?_
   refine pX 69 2 true ?_
   refine yAf 70 60 69 ?_
   refine yA 57 70 ?_
   refine Sch.nil ?_
   refine run_cF 57 ?_
   refine run_sk ?_
   refine run_inBlock ?_
   refine run_inBlock ?_
   refine run_pl [yy 0, yy 1] ?_
   refine yV (kq 71 (.binOp .add 3 (.tmp 22) (.const (.int .i64 1)) 3)) (fun _ => val_addi rfl rfl (by omega) (by omega)) ?_
   refine yM 22 71 ?_
   refine Sch.nil ?_
   refine kp (sub_cons 1 rfl rfl (sub_cons 20 rfl rfl (sub_cons 21 rfl rfl (sub_cons 22 rfl (eq_int (by simp)) (sub_nil _))))) (next1 (i + 1, Cw3) _ ⟨(by first | omega | (simp only; omega)), hF, hT, hsh, hds, hx⟩ (by first | omega | (simp only; omega)))
 ·
  have hil : i = sh.length := by omega
  refine run_ex 1 ?_
  refine run_sq ?_
  refine run_pl [yy 0, nn 1, nn 2, yy 3] ?_
  refine yF 72 26 1 2 2 ?_
  refine nS (kq 73 (.load 24 (.tmp 72))) rfl rfl trivial (val_loadOwn hx.at_ (by kernel_rfl) rfl rfl) ?_
  refine cS (kq 74 (.call { callee := .value (.func 46), args := #[(.tmp 73)], argTypes := #[24] })) rfl rfl (ent Tryz.call46 rfl) (decided_ok hF hds hRo.ld hRo.dO hRo.da) ?_
  rintro vw10 w10 ⟨rfl, hs⟩
  refine ⟨trivial, ?_⟩
  replace hF := hF.st hs
  replace hT := hT.t hs; replace hsh := hsh.t hs; replace hds := hds.t hs; replace hx := hx.t hs
  refine yA 2 74 ?_
  refine Sch.nil ?_
  refine run_ret1 (by kernel_rfl) Tryz.func21 Tryz.results21 rfl ?_
  exact ⟨rfl, hT.out1 (by decide)⟩
namespace F18
noncomputable def c0 := bodyOf Tryz.f18
noncomputable def c7 := (cl (cl (cr (cl (cr c0)))))
end F18
/-- 'Start'. -/
theorem start_ok {w₀ : World} {C : Nat → Nat} {bud : Int} (hF : Lim w₀ C) (h0 : 0 ≤ bud) (h1 : bud ≤ 65536) : Calls Tryz.prog 18 #[.int .i64 bud] w₀ (Ret fun v w' => v = .tuple #[.agg #[.int .i64 bud, .slice none 0 0, .slice none 0 0], .int .i64 0] ∧ Stp [] w₀ C w' C) := by
 have hF0 := hF
 have hT := Stp.refl [2, 3, 4, 5, 6, 7, 8, 9] w₀ (col1 C)
 replace hF := hF.col1
 refine calls_start (c := F18.c0) (N := 13) [.int .i64 bud] Tryz.func18 (by kernel_rfl) (by kernel_rfl) (by kernel_rfl) ?_
 show Run _ _ _ _ [(0, .int .i64 bud)] _ _
 refine run_sq ?_
 refine run_pl [nn 0, yy 1] ?_
 refine aS (kq 2 (.alloc 26)) rfl rfl (a_alloc (cs := [.int .i64 0, .slice none 0 0, .slice none 0 0]) hF 3 (by kernel_rfl)) ?_
 rintro _ w1 ⟨Cw1, bw1, rfl, hs, hx, hF⟩
 refine ⟨trivial, ?_⟩
 replace hT := hT.t hs
 refine yAc 3 (.int .i64 0) ?_
 refine Sch.nil ?_
 refine run_sq ?_
 refine run_sq ?_
 refine run_pl [yy 0, yy 1, yy 2, yy 3, yy 4, yy 5] ?_
 refine yM 4 0 ?_
 refine yV (kq 5 (.binOp .lss 3 (.tmp 4) (.const (.int .i64 0)) 3)) (fun _ => val_is (val_lss rfl rfl) (show _ = Value.bool false from congrArg Value.bool (decide_eq_false (by omega)))) ?_
 refine yM 6 5 ?_
 refine yMg 7 0 2 false ?_
 refine yV (kg 8 (.binOp .gtr 3 (.tmp 7) (.const (.int .i64 65536)) 3) 2 false) (fun _ => val_is (val_gtr rfl rfl) (show _ = Value.bool false from congrArg Value.bool (decide_eq_false (by omega)))) ?_
 refine yOf 9 6 8 ?_
 refine Sch.nil ?_
 refine run_cF 9 ?_
 refine run_sk ?_
 refine run_sq ?_
 refine run_pl [yy 0, yy 1, nn 2, yy 3] ?_
 refine yM 11 0 ?_
 refine yV (kq 12 (.build 26 #[(0, (.tmp 11))])) (fun _ => val_build (zs := [.int .i64 0, .slice none 0 0, .slice none 0 0]) (ps := [(0, 1), (1, 1), (2, 1)]) (qs := [(0, [.int .i64 bud])]) (cs := [.int .i64 bud, .slice none 0 0, .slice none 0 0]) (by kernel_rfl) (by kernel_rfl) (by exact ⟨rfl, ⟨_, rfl, rfl⟩, trivial⟩) rfl) ?_
 refine aN (k0 (.store 26 (.tmp 2) (.tmp 12))) rfl (a_storeAll (vs := [.int .i64 bud, .slice none 0 0, .slice none 0 0]) (n := 3) rfl rfl (by kernel_rfl) rfl rfl (by intro u hu; simp only [List.mem_cons, List.not_mem_nil, or_false] at hu; rcases hu with rfl | rfl | rfl <;> rfl) hx rfl) ?_
 rintro _ w2 ⟨rfl, hs, hx⟩
 refine ⟨trivial, ?_⟩
 replace hF := hF.st hs
 replace hT := hT.t hs
 refine yAc 3 (.int .i64 0) ?_
 refine Sch.nil ?_
 refine run_retC2 (by kernel_rfl) Tryz.func18 Tryz.results18 rfl rfl hx.at_ (by kernel_rfl) (by kernel_rfl) rfl ?_
 exact ⟨rfl, hT.out1 (by decide)⟩
end Go.Proofs.YtionghonhnedgaaGreat
