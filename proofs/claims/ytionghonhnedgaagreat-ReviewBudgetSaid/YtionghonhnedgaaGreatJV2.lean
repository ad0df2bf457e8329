/- Steps through functions of the program. -/
import Derived.Test.YtionghonhnedgaaGreatJV1
set_option linter.unusedVariables false
set_option linter.unusedSimpArgs false
set_option maxRecDepth 100000
set_option maxHeartbeats 4000000
namespace Go.Proofs.YtionghonhnedgaaGreat
open Go.K Go.K.Rep

namespace F106
noncomputable def c0 := bodyOf Tryz.f106
noncomputable def o1 := rops (cl (cr c0))
end F106
/-- 'counts'. -/
theorem counts_ok {w₀ : World} {C : Nat → Nat} {pr : Int} {ag df : List Int} {va vd : Value} {f : Nat} (hF : Lim w₀ C) (hf : f < ag.length) (hfd : f < df.length) (ha : RV w₀ (Mc C) ag va) (hd : RV w₀ (Mc C) df vd) : Calls Tryz.prog 106 #[.agg #[.int .i64 pr, va, vd], .int .i64 f] w₀ (Ret fun v w' => v = .agg [.int .i64 0, .int .i64 (df.getD f 0), .int .i64 (ag.getD f 0)].toArray ∧ Stp [] w₀ C w' C) := by
 have hF0 := hF
 have hT := Stp.refl [2, 3, 4, 5, 6, 7, 8, 9] w₀ (col1 C)
 replace hF := hF.col1
 replace ha : RV w₀ (Mc (col1 C)) ag va := by rw [Mc_col1]; exact ha
 replace hd : RV w₀ (Mc (col1 C)) df vd := by rw [Mc_col1]; exact hd
 refine calls_start (c := F106.c0) (N := 16) [.agg #[.int .i64 pr, va, vd], .int .i64 f] Tryz.func106 (by kernel_rfl) (by kernel_rfl) (by kernel_rfl) ?_
 show Run _ _ _ _ [(0, .agg #[.int .i64 pr, va, vd]), (1, .int .i64 f)] _ _
 refine run_sq ?_
 refine run_pl [nn 0, nn 1] ?_
 refine aS (kq 2 (.box 28 (.tmp 0))) rfl rfl (a_box (cs := [.int .i64 pr, va, vd]) hF 3 rfl rfl) ?_
 rintro _ w1 ⟨Cw1, bw1, rfl, hs, hx, hF⟩
 refine ⟨trivial, ?_⟩
 replace hT := hT.t hs; replace ha := ha.t hs; replace hd := hd.t hs
 refine aS (kq 4 (.alloc 114)) rfl rfl (a_alloc (cs := [.int .i64 0, .int .i64 0, .int .i64 0]) hF 4 (by kernel_rfl)) ?_
 rintro _ w2 ⟨Cw2, bw2, rfl, hs, hy, hF⟩
 refine ⟨trivial, ?_⟩
 replace hT := hT.t hs; replace ha := ha.t hs; replace hd := hd.t hs; replace hx := hx.t hs
 refine Sch.nil ?_
 refine run_sq ?_
 refine run_draw (id := 1) (ops := F106.o1) [4] (Cw2) [yy 0, yy 1, yy 2, yy 3, yy 4, yy 5, yy 6, yy 7, yy 8, yy 9, yy 10, nn 11] Tryz_mixed (by kernel_rfl) (by kernel_rfl) (by kernel_rfl) ?_
 intro w3 hs
 replace hF := hF.st hs
 replace hT := hT.t hs; replace ha := ha.t hs; replace hd := hd.t hs; replace hx := hx.t hs; replace hy := hy.t hs
 have hR := Stp.refl [4] w3 (Cw2)
 refine yF 5 28 2 2 2 ?_
 refine yS (kq 6 (.load 22 (.tmp 5))) rfl rfl (fun w' hS => val_loadOwn (hx.sy hS) (by kernel_rfl) rfl rfl) ?_
 refine yM 7 1 ?_
 refine iS (e := 3) (kq 8 (.indexAddr 22 (.tmp 6) (.tmp 7))) rfl rfl hd rfl (by kernel_rfl) rfl (by omega) (by omega) ?_
 intro b8 o8 h8
 try simp only [Int.toNat_natCast] at h8
 refine lS (kq 9 (.load 3 (.tmp 8))) rfl rfl (fun w' hS => h8.sy hS) h8 (by kernel_rfl) rfl rfl ?_
 intro v9 g9
 first | (obtain rfl := rv_nat.1 g9) | (obtain rfl := rv_int.1 g9)
 refine yF 10 28 2 1 1 ?_
 refine yS (kq 11 (.load 22 (.tmp 10))) rfl rfl (fun w' hS => val_loadOwn (hx.sy hS) (by kernel_rfl) rfl rfl) ?_
 refine yM 12 1 ?_
 refine iS (e := 3) (kq 13 (.indexAddr 22 (.tmp 11) (.tmp 12))) rfl rfl ha rfl (by kernel_rfl) rfl (by omega) (by omega) ?_
 intro b13 o13 h13
 try simp only [Int.toNat_natCast] at h13
 refine lS (kq 14 (.load 3 (.tmp 13))) rfl rfl (fun w' hS => h13.sy hS) h13 (by kernel_rfl) rfl rfl ?_
 intro v14 g14
 first | (obtain rfl := rv_nat.1 g14) | (obtain rfl := rv_int.1 g14)
 refine yV (kq 15 (.build 114 #[(0, (.const (.int .i64 0))), (1, (.tmp 9)), (2, (.tmp 14))])) (fun _ => val_buildAr (zs := [.int .i64 0, .int .i64 0, .int .i64 0]) (cs := [.int .i64 0, .int .i64 (df[f]'hfd), .int .i64 (ag[f]'hf)]) (qs := [(0, [.int .i64 0]), (1, [.int .i64 (df[f]'hfd)]), (2, [.int .i64 (ag[f]'hf)])]) (n := 1) Tryz.underlying114 (by kernel_rfl) (by kernel_rfl) (by exact ⟨rfl, ⟨_, rfl, rfl⟩, rfl, ⟨_, rfl, rfl⟩, rfl, ⟨_, rfl, rfl⟩, trivial⟩) rfl) ?_
 refine Sch.free rfl ?_
 refine aN (k0 (.store 114 (.tmp 4) (.tmp 15))) rfl (a_storeAll (vs := [.int .i64 0, .int .i64 (df[f]'hfd), .int .i64 (ag[f]'hf)]) (n := 3) rfl rfl (by kernel_rfl) rfl rfl (by intro u hu; simp only [List.mem_cons, List.not_mem_nil, or_false] at hu; rcases hu with rfl | rfl | rfl <;> rfl) hy rfl) ?_
 rintro _ w4 ⟨rfl, hs, hy⟩
 refine ⟨trivial, ?_⟩
 replace hF := hF.st hs
 replace hT := hT.t hs; replace ha := ha.t hs; replace hd := hd.t hs; replace hx := hx.t hs; replace h8 := h8.t hs; replace h13 := h13.t hs
 refine Sch.nil ?_
 refine run_retC1 (by kernel_rfl) Tryz.func106 Tryz.results106 rfl hy.at_ (by kernel_rfl) (by kernel_rfl) rfl ?_
 exact ⟨by rw [getD_in hfd, getD_in hf], hT.out1 (by decide)⟩
namespace F73
noncomputable def c0 := bodyOf Tryz.f73
end F73
theorem score1_ok {w₀ : World} {C : Nat → Nat} {a1 a2 : Int} {k : Nat} (hF : Lim w₀ C) (hk : k < 3) : Calls Tryz.prog 73 #[.agg #[.int .i64 0, .int .i64 a1, .int .i64 a2], .int .i64 k] w₀ (Ret fun v w' => v = .int .i64 (([0, a1, a2] : List Int).getD k 0) ∧ Stp [] w₀ C w' C) := by
 have hF0 := hF
 have hT := Stp.refl [2, 3, 4, 5, 6, 7, 8, 9] w₀ (col1 C)
 replace hF := hF.col1
 have hv : ([.int .i64 0, .int .i64 a1, .int .i64 a2] : List Value)[k]? = some (.int .i64 (([0, a1, a2] : List Int).getD k 0)) := by
   obtain rfl | rfl | rfl : k = 0 ∨ k = 1 ∨ k = 2 := by omega
   all_goals simp
 refine calls_start (c := F73.c0) (N := 8) [.agg #[.int .i64 0, .int .i64 a1, .int .i64 a2], .int .i64 k] Tryz.func73 (by kernel_rfl) (by kernel_rfl) (by kernel_rfl) ?_
 show Run _ _ _ _ [(0, .agg #[.int .i64 0, .int .i64 a1, .int .i64 a2]), (1, .int .i64 k)] _ _
 refine run_sq ?_
 refine run_pl [nn 0, yy 1] ?_
 refine aS (kq 2 (.box 114 (.tmp 0))) rfl rfl (a_box (cs := [.int .i64 0, .int .i64 a1, .int .i64 a2]) hF 3 rfl rfl) ?_
 rintro _ w1 ⟨Cw1, bw1, rfl, hs, hx, hF⟩
 refine ⟨trivial, ?_⟩
 replace hT := hT.t hs
 refine yAc 4 (.int .i64 0) ?_
 refine Sch.nil ?_
 refine run_sq ?_
 refine run_pl [yy 0, yy 1, nn 2, yy 3] ?_
 refine yM 5 1 ?_
 refine yV (kq 6 (.indexAddr 114 (.tmp 2) (.tmp 5))) (fun _ => val_indexArr (n := 1) (o' := k) Tryz.underlying114 (by kernel_rfl) rfl rfl (by omega) (by omega) (by simp)) ?_
 refine nS (kq 7 (.load 3 (.tmp 6))) rfl rfl trivial (val_loadOwn (v := .int .i64 (([0, a1, a2] : List Int).getD k 0)) hx.at_ (by kernel_rfl) hv rfl) ?_
 refine yA 4 7 ?_
 refine Sch.nil ?_
 refine run_ret1 (by kernel_rfl) Tryz.func73 Tryz.results73 rfl ?_
 exact ⟨rfl, hT.out1 (by decide)⟩
namespace F72
noncomputable def c0 := bodyOf Tryz.f72
noncomputable def c8 := (cl (cr (cr (cl (cr c0)))))
noncomputable def c16 := (cl (cl (cr (cr (cr c0)))))
noncomputable def c17 := (cr (cl (cr (cr (cr c0)))))
noncomputable def c23 := (cl (cr (cr (cr (cr c0)))))
noncomputable def c24 := (cr (cr (cr (cr (cr c0)))))
noncomputable def c30 := (cl (cl (cl (cr (cl c24)))))
noncomputable def c31 := (cr (cl (cl (cr (cl c24)))))
end F72
/-- 'sum', for 'Score'. -/
theorem sum_ok {w₀ : World} {C : Nat → Nat} {pr : Int} {ag df : List Int} {va vd : Value} {p : Nat} (hF : Lim w₀ C) (hW : WOK pr ag df) (ha : RV w₀ (Mc C) ag va) (hd : RV w₀ (Mc C) df vd) (hp : p < 3 ^ ag.length) : Calls Tryz.prog 72 #[.agg #[.int .i64 pr, va, vd], .int .i64 p, .func (.func 73) #[] #[]] w₀ (Ret fun v w' => v = .tuple #[.int .i64 (scN pr ag df p ag.length), .int .i64 0] ∧ Stp [] w₀ C w' C) := by
 have hF0 := hF
 have hT := Stp.refl [2, 3, 4, 5, 6, 7, 8, 9] w₀ (col1 C)
 replace hF := hF.col1
 replace ha : RV w₀ (Mc (col1 C)) ag va := by rw [Mc_col1]; exact ha
 replace hd : RV w₀ (Mc (col1 C)) df vd := by rw [Mc_col1]; exact hd
 refine calls_start (c := F72.c0) (N := 49) [.agg #[.int .i64 pr, va, vd], .int .i64 p, .func (.func 73) #[] #[]] Tryz.func72 (by kernel_rfl) (by kernel_rfl) (by kernel_rfl) ?_
 show Run _ _ _ _ [(0, .agg #[.int .i64 pr, va, vd]), (1, .int .i64 p), (2, .func (.func 73) #[] #[])] _ _
 refine run_sq ?_
 refine run_pl [nn 0, yy 1, yy 2] ?_
 refine aS (kq 3 (.box 28 (.tmp 0))) rfl rfl (a_box (cs := [.int .i64 pr, va, vd]) hF 3 rfl rfl) ?_
 rintro _ w1 ⟨Cw1, bw1, rfl, hs, hx, hF⟩
 refine ⟨trivial, ?_⟩
 replace hT := hT.t hs; replace ha := ha.t hs; replace hd := hd.t hs
 refine yAc 6 (.int .i64 0) ?_
 refine yAc 7 (.int .i64 0) ?_
 refine Sch.nil ?_
 refine run_sq ?_
 refine run_sq ?_
 refine run_pl [nn 0, nn 1, yy 2] ?_
 refine nS (kq 14 (.load 28 (.tmp 3))) rfl rfl trivial (val_loadOwnAgg (n := 3) (vs := [.int .i64 pr, va, vd]) hx.at_ (by kernel_rfl) (by kernel_rfl) rfl rfl rfl) ?_
 refine cS (kq 15 (.call { callee := .value (.func 94), args := #[(.tmp 14)], argTypes := #[28] })) rfl rfl (ent Tryz.call94 rfl) (wcheck_ok hF hW ha hd) ?_
 rintro vw2 w2 ⟨rfl, hs⟩
 refine ⟨trivial, ?_⟩
 replace hF := hF.st hs
 replace hT := hT.t hs; replace ha := ha.t hs; replace hd := hd.t hs; replace hx := hx.t hs
 refine yA 8 15 ?_
 refine Sch.nil ?_
 refine run_sq ?_
 refine run_pl [yy 0, yy 1] ?_
 refine yM 16 8 ?_
 refine yV (kq 17 (.binOp .neq 52 (.tmp 16) (.const (.int .i64 0)) 52)) (fun _ => val_is (val_neq rfl rfl) (show _ = Value.bool false from congrArg Value.bool (decide_eq_false (by decide)))) ?_
 refine Sch.nil ?_
 refine run_cF 17 ?_
 refine run_sk ?_
 refine run_sq ?_
 refine run_pl [yy 0, yy 1, nn 2, yy 3, nn 4, yy 5, yy 6, yy 7, yy 8, yy 9] ?_
 refine yM 20 1 ?_
 refine yF 21 28 3 1 1 ?_
 refine nS (kq 22 (.load 22 (.tmp 21))) rfl rfl trivial (val_loadOwn hx.at_ (by kernel_rfl) rfl rfl) ?_
 refine yS (kq 23 (.call { callee := .builtin .len, args := #[(.tmp 22)], argTypes := #[22] })) rfl rfl (fun w' hS => ha.lenV rfl Tryz.underlying22 w' ) ?_
 refine cS (kq 24 (.call { callee := .value (.func 51), args := #[(.tmp 20), (.tmp 23)], argTypes := #[3, 3] })) rfl rfl (ent Tryz.call51 rfl) (digits_ok hF hW.l1 hW.l5 hp) ?_
 rintro vw3 w3 ⟨ug, rfl, hs, hg⟩
 refine ⟨trivial, ?_⟩
 replace hF := hF.st hs
 replace hT := hT.t hs; replace ha := ha.t hs; replace hd := hd.t hs; replace hx := hx.t hs
 refine yM 19 24 ?_
 refine yV (kq 25 (.extract (.tmp 19) 0)) (fun _ => val_extract rfl rfl) ?_
 refine yV (kq 26 (.extract (.tmp 19) 1)) (fun _ => val_extract rfl rfl) ?_
 refine yA 9 25 ?_
 refine yA 10 26 ?_
 refine Sch.nil ?_
 refine run_sq ?_
 refine run_sq ?_
 refine run_pl [yy 0, yy 1] ?_
 refine yM 27 10 ?_
 refine yV (kq 28 (.binOp .neq 52 (.tmp 27) (.const (.int .i64 0)) 52)) (fun _ => val_is (val_neq rfl rfl) (show _ = Value.bool false from congrArg Value.bool (decide_eq_false (by decide)))) ?_
 refine Sch.nil ?_
 refine run_cF 28 ?_
 refine run_sk ?_
 refine run_sq ?_
 refine run_pl [yy 0, nn 1, yy 2] ?_
 refine yF 30 28 3 0 0 ?_
 refine nS (kq 31 (.load 3 (.tmp 30))) rfl rfl trivial (val_loadOwn hx.at_ (by kernel_rfl) rfl rfl) ?_
 refine yA 11 31 ?_
 refine Sch.nil ?_
 refine run_sq ?_
 refine run_sq ?_
 refine run_pl [yy 0, yy 1, yy 2] ?_
 refine yM 32 9 ?_
 refine yS (kq 33 (.call { callee := .builtin .len, args := #[(.tmp 32)], argTypes := #[22] })) rfl rfl (fun w' hS => hg.lenV rfl Tryz.underlying22 w' ) ?_
 refine yV (kq 34 (.move (.const (.int .i64 0)))) (fun _ => val_move rfl) ?_
 refine Sch.nil ?_
 refine run_bk 0 ?_
 
 refine run_lp (ι := Nat × (Nat → Nat)) (I := fun x w => x.1 ≤ ag.length ∧ Lim w x.2 ∧ Stp [2, 3, 4, 5, 6, 7, 8, 9] w₀ (col1 C) w x.2 ∧ RV w (Mc x.2) ag va ∧ RV w (Mc x.2) df vd ∧ RV w (Mc x.2) (digs p ag.length) ug ∧ OwnB w x.2 3 bw1 (.cells [.int .i64 pr, va, vd].toArray 28)) (e := fun x => [(2, .func (.func 73) #[] #[]), (3, .pointer (some ⟨bw1, 0, none⟩)), (11, .int .i64 (scN pr ag df p x.1)), (32, ug), (33, .int .i64 ag.length), (34, .int .i64 x.1)]) (m := fun x => ag.length - x.1) (x₀ := (0, Cw1)) (sr 2 (sr 3 (sr 11 (sr 32 (sub_cons 33 rfl (eq_int (by rw [digs_len])) (sr 34 (sub_nil _))))))) ?_ ?_
 · exact ⟨Nat.zero_le _, hF, hT, ha, hd, hg, hx⟩
 intro ⟨i, C1⟩ w4 hI next
 obtain ⟨hi, hF, hT, ha, hd, hg, hx⟩ := hI
 try simp only at hi hF hT ha hd hg hx
 have next1 := next
 clear next
 show Run _ _ _ _ [(2, .func (.func 73) #[] #[]), (3, .pointer (some ⟨bw1, 0, none⟩)), (11, .int .i64 (scN pr ag df p i)), (32, ug), (33, .int .i64 ag.length), (34, .int .i64 i)] _ _
 have hle := hW.l5
 have hld := hW.ld
 have hdl := digs_len p ag.length
 have hsb := hW.sc p hi
 refine run_sq ?_
 refine run_pl [yy 0] ?_
 refine yV (kq 35 (.binOp .lss 3 (.tmp 34) (.tmp 33) 3)) (fun _ => val_lss rfl rfl) ?_
 refine Sch.nil ?_
 refine run_sq ?_
 refine run_i 35 rfl (fun h35 => ?_) (fun h35 => ?_)
 ·
  have hil : i < ag.length := by omega
  have hid : i < df.length := by omega
  have hab := hW.amt_b hil p
  refine run_sk ?_
  refine run_sq ?_
  refine run_bk 1 ?_
  refine run_sq ?_
  refine run_pl [yy 0, yy 1, nn 2, yy 3, yy 4] ?_
  refine yM 36 34 ?_
  refine iS (e := 3) (kq 37 (.indexAddr 22 (.tmp 32) (.tmp 34))) rfl rfl hg rfl (by kernel_rfl) rfl (by omega) (by omega) ?_
  intro b37 o37 h37
  try simp only [Int.toNat_natCast] at h37
  refine lN (kq 38 (.load 3 (.tmp 37))) rfl rfl trivial h37 (by kernel_rfl) rfl rfl ?_
  intro v38 g38
  first | (obtain rfl := rv_nat.1 g38) | (obtain rfl := rv_int.1 g38)
  rw [digs_get]
  refine yA 12 36 ?_
  refine yA 13 38 ?_
  refine Sch.nil ?_
  refine run_pl [yy 0, yy 1, nn 2, yy 3, nn 4, yy 5, nn 6, yy 7, yy 8] ?_
  refine yM 39 11 ?_
  refine yM 40 2 ?_
  refine nS (kq 41 (.load 28 (.tmp 3))) rfl rfl trivial (val_loadOwnAgg (n := 3) (vs := [.int .i64 pr, va, vd]) hx.at_ (by kernel_rfl) (by kernel_rfl) rfl rfl rfl) ?_
  refine yM 42 12 ?_
  refine cS (kq 43 (.call { callee := .value (.func 106), args := #[(.tmp 41), (.tmp 42)], argTypes := #[28, 3] })) rfl rfl (ent Tryz.call106 rfl) (counts_ok (f := i) (pr := pr) hF hil hid ha hd) ?_
  rintro vw5 w5 ⟨rfl, hs⟩
  refine ⟨trivial, ?_⟩
  replace hF := hF.st hs
  replace hT := hT.t hs; replace ha := ha.t hs; replace hd := hd.t hs; replace hg := hg.t hs; replace hx := hx.t hs; replace h37 := h37.t hs
  refine yM 44 13 ?_
  refine cS (kq 45 (.call { callee := .value (.tmp 40), args := #[(.tmp 43), (.tmp 44)], argTypes := #[114, 3] })) rfl rfl (enters_func (fun args w => Tryz.call73 args w) rfl rfl) (score1_ok hF (dg_lt p i)) ?_
  rintro vw6 w6 ⟨rfl, hs⟩
  rw [show ([0, df.getD i 0, ag.getD i 0] : List Int).getD (dg p i) 0 = amt ag df p i from rfl]
  refine ⟨trivial, ?_⟩
  replace hF := hF.st hs
  replace hT := hT.t hs; replace ha := ha.t hs; replace hd := hd.t hs; replace hg := hg.t hs; replace hx := hx.t hs; replace h37 := h37.t hs
  refine yV (kq 46 (.binOp .add 3 (.tmp 39) (.tmp 45) 3)) (fun _ => val_addi rfl rfl (by omega) (by omega)) ?_
  refine yA 11 46 ?_
  refine Sch.nil ?_
  refine run_inBlock ?_
  refine run_pl [yy 0, yy 1] ?_
  refine yV (kq 47 (.binOp .add 3 (.tmp 34) (.const (.int .i64 1)) 3)) (fun _ => val_addi rfl rfl (by omega) (by omega)) ?_
  refine yM 34 47 ?_
  refine Sch.nil ?_
  refine kp (sub_cons 2 rfl rfl (sub_cons 3 rfl rfl (sub_cons 11 rfl (eq_int (by rw [scN])) (sub_cons 32 rfl rfl (sub_cons 33 rfl rfl (sub_cons 34 rfl (eq_int (by simp)) (sub_nil _))))))) (next1 (i + 1, C1) _ ⟨(by first | omega | (simp only; omega)), hF, hT, ha, hd, hg, hx⟩ (by first | omega | (simp only; omega)))
 ·
  have hil : i = ag.length := by omega
  refine run_ex 0 ?_
  refine run_sq ?_
  refine run_pl [yy 0, yy 1, yy 2] ?_
  refine yM 48 11 ?_
  refine yA 6 48 ?_
  refine yAc 7 (.int .i64 0) ?_
  refine Sch.nil ?_
  refine run_ret2 (by kernel_rfl) Tryz.func72 Tryz.results72 rfl rfl ?_
  exact ⟨by subst hil; rfl, hT.out1 (by decide)⟩
namespace F33
noncomputable def c0 := bodyOf Tryz.f33
end F33
/-- 'Score'. -/
theorem wscore_ok {w₀ : World} {C : Nat → Nat} {pr : Int} {ag df : List Int} {va vd : Value} {p : Nat} (hF : Lim w₀ C) (hW : WOK pr ag df) (ha : RV w₀ (Mc C) ag va) (hd : RV w₀ (Mc C) df vd) (hp : p < 3 ^ ag.length) : Calls Tryz.prog 33 #[.agg #[.int .i64 pr, va, vd], .int .i64 p] w₀ (Ret fun v w' => v = .tuple #[.int .i64 (scN pr ag df p ag.length), .int .i64 0] ∧ Stp [] w₀ C w' C) := by
 have hF0 := hF
 have hT := Stp.refl [2, 3, 4, 5, 6, 7, 8, 9] w₀ (col1 C)
 replace hF := hF.col1
 replace ha : RV w₀ (Mc (col1 C)) ag va := by rw [Mc_col1]; exact ha
 replace hd : RV w₀ (Mc (col1 C)) df vd := by rw [Mc_col1]; exact hd
 refine calls_start (c := F33.c0) (N := 11) [.agg #[.int .i64 pr, va, vd], .int .i64 p] Tryz.func33 (by kernel_rfl) (by kernel_rfl) (by kernel_rfl) ?_
 show Run _ _ _ _ [(0, .agg #[.int .i64 pr, va, vd]), (1, .int .i64 p)] _ _
 refine run_sq ?_
 refine run_pl [nn 0, yy 1, yy 2] ?_
 refine aS (kq 2 (.box 28 (.tmp 0))) rfl rfl (a_box (cs := [.int .i64 pr, va, vd]) hF 3 rfl rfl) ?_
 rintro _ w1 ⟨Cw1, bw1, rfl, hs, hx, hF⟩
 refine ⟨trivial, ?_⟩
 replace hT := hT.t hs; replace ha := ha.t hs; replace hd := hd.t hs
 refine yAc 4 (.int .i64 0) ?_
 refine yAc 5 (.int .i64 0) ?_
 refine Sch.nil ?_
 refine run_sq ?_
 refine run_pl [nn 0, yy 1, nn 2, yy 3, yy 4, yy 5, yy 6] ?_
 refine nS (kq 6 (.load 28 (.tmp 2))) rfl rfl trivial (val_loadOwnAgg (n := 3) (vs := [.int .i64 pr, va, vd]) hx.at_ (by kernel_rfl) (by kernel_rfl) rfl rfl rfl) ?_
 refine yM 7 1 ?_
 refine cS (kq 8 (.call { callee := .value (.func 72), args := #[(.tmp 6), (.tmp 7), (.func 73)], argTypes := #[28, 3, 115] })) rfl rfl (ent Tryz.call72 rfl) (sum_ok hF hW ha hd hp) ?_
 rintro vw2 w2 ⟨rfl, hs⟩
 refine ⟨trivial, ?_⟩
 replace hF := hF.st hs
 replace hT := hT.t hs; replace ha := ha.t hs; replace hd := hd.t hs; replace hx := hx.t hs
 refine yV (kq 9 (.extract (.tmp 8) 0)) (fun _ => val_extract rfl rfl) ?_
 refine yV (kq 10 (.extract (.tmp 8) 1)) (fun _ => val_extract rfl rfl) ?_
 refine yA 4 9 ?_
 refine yA 5 10 ?_
 refine Sch.nil ?_
 refine run_ret2 (by kernel_rfl) Tryz.func33 Tryz.results33 rfl rfl ?_
 exact ⟨rfl, hT.out1 (by decide)⟩
end Go.Proofs.YtionghonhnedgaaGreat
