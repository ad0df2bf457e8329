/- Steps through functions of the program. -/
import Derived.Test.YtionghonhnedgaaGreatJVP
import Derived.Test.YtionghonhnedgaaGreatL2
set_option linter.unusedVariables false
set_option linter.unusedSimpArgs false
set_option maxRecDepth 100000
set_option maxHeartbeats 4000000
namespace Go.Proofs.YtionghonhnedgaaGreat
open Go.K Go.K.Rep

namespace F5
noncomputable def c0 := bodyOf Tryz.f5
noncomputable def c7 := (cl (cl (cr (cl (cr c0)))))
noncomputable def c15 := (cl (cr (cr (cr (cr c0)))))
noncomputable def c16 := (cr (cr (cr (cr (cr c0)))))
noncomputable def c24 := (cl (cr (cl (cr (cr c16)))))
noncomputable def c31 := (cl (cr (cr (cr (cr c16)))))
noncomputable def c32 := (cr (cr (cr (cr (cr c16)))))
noncomputable def c39 := (cl (cl (cr (cl (cr c32)))))
noncomputable def c50 := (cl (cr (cl (cl (cr c39)))))
noncomputable def c51 := (cr (cr (cl (cl (cr c39)))))
noncomputable def c63 := (cl (cr (cl (cr (cr c51)))))
noncomputable def o22 := rops c63
noncomputable def c71 := (cl (cr (cl (cr (cr c32)))))
noncomputable def c81 := (cl (cl (cl (cr (cl c71)))))
noncomputable def c82 := (cr (cl (cl (cr (cl c71)))))
noncomputable def c88 := (cl (cl (cl (cr (cl c82)))))
noncomputable def c93 := (cr (cl (cl (cr (cl c82)))))
noncomputable def c99 := (cl (cl (cr (cl (cl c93)))))
noncomputable def c100 := (cr (cl (cr (cl (cl c93)))))
noncomputable def c112 := (cl (cr (cr (cr (cr c32)))))
noncomputable def c119 := (cr (cr (cr (cr (cr c32)))))
noncomputable def c126 := (cl (cl (cr (cl (cr c119)))))
noncomputable def c135 := (cl (cl (cl (cr (cr c126)))))
noncomputable def c136 := (cr (cl (cl (cr (cr c126)))))
end F5
/-- Fewer fields than those that are shown could not reach the threshold. -/
theorem reviewFewest_ok {w₀ : World} {C : Nat → Nat} {l : List Int} {vl : Value} (hF : Lim w₀ C) (hl : RV w₀ (Mc C) l vl) : Calls Tryz.prog 5 #[vl] w₀ (Ret fun v w' => v = .bool true ∧ Stp [] w₀ C w' C) := by
 have hF0 := hF
 have hT := Stp.refl [2, 3, 4, 5, 6, 7, 8, 9] w₀ (col1 C)
 replace hF := hF.col1
 replace hl : RV w₀ (Mc (col1 C)) l vl := by rw [Mc_col1]; exact hl
 refine calls_start (c := F5.c0) (N := 180) [vl] Tryz.func5 (by kernel_rfl) (by kernel_rfl) (by kernel_rfl) ?_
 show Run _ _ _ _ [(0, vl)] _ _
 refine run_sq ?_
 refine run_pl [yy 0] ?_
 refine yAc 2 (.bool false) ?_
 refine Sch.nil ?_
 refine run_sq ?_
 refine run_sq ?_
 refine run_pl [nn 0, yy 1, yy 2, yy 3, nn 4, yy 5, yy 6] ?_
 refine cS (kq 26 (.call { callee := .value (.func 8), args := #[], argTypes := #[] })) rfl rfl (ent Tryz.call8 rfl) (awake_ok hF) ?_
 rintro vw1 w1 ⟨rfl, hs⟩
 refine ⟨trivial, ?_⟩
 replace hF := hF.st hs
 replace hT := hT.t hs; replace hl := hl.t hs
 refine yV (kq 27 (.unOp .not 4 (.tmp 26))) (fun _ => val_not rfl) ?_
 refine yM 28 27 ?_
 refine yMg 29 0 2 false ?_
 refine cS (kg 30 (.call { callee := .value (.func 9), args := #[(.tmp 29)], argTypes := #[22] }) 2 false) rfl rfl (ent Tryz.call9 rfl) (few_any hl) ?_
 rintro vw2 w2 ⟨rfl, rfl⟩
 refine ⟨trivial, ?_⟩
 refine yV (kg 31 (.unOp .not 4 (.tmp 30)) 2 false) (fun _ => val_notd rfl) ?_
 refine yOf 32 28 31 ?_
 refine Sch.nil ?_
 refine run_i 32 rfl (fun h32 => ?_) (fun h32 => ?_)
 ·
  refine run_sq ?_
  refine run_pl [nn 0, yy 1] ?_
  refine cS (kq 33 (.call { callee := .value (.func 8), args := #[], argTypes := #[] })) rfl rfl (ent Tryz.call8 rfl) (awake_ok hF) ?_
  rintro vw3 w3 ⟨rfl, hs⟩
  refine ⟨trivial, ?_⟩
  replace hF := hF.st hs
  replace hT := hT.t hs; replace hl := hl.t hs
  refine yA 2 33 ?_
  refine Sch.nil ?_
  refine run_ret1 (by kernel_rfl) Tryz.func5 Tryz.results5 rfl ?_
  exact ⟨rfl, hT.out1 (by decide)⟩
 ·
  refine run_sk ?_
  refine run_sq ?_
  refine run_pl [yy 0, nn 1, yy 2] ?_
  refine yM 34 0 ?_
  refine cS (kq 35 (.call { callee := .value (.func 10), args := #[(.tmp 34)], argTypes := #[22] })) rfl rfl (ent Tryz.call10 rfl) (new_any hF hl) ?_
  rintro vw4 w4 ⟨Cd, bd, rfl, hs, hF, hd⟩
  refine ⟨trivial, ?_⟩
  replace hT := hT.t hs; replace hl := hl.t hs
  refine yA 3 35 ?_
  refine Sch.nil ?_
  refine run_sq ?_
  refine run_pl [yy 0, nn 1, yy 2, yy 3] ?_
  refine yM 36 3 ?_
  refine cS (kq 37 (.call { callee := .value (.func 11), args := #[(.tmp 36), (.const (.int .i64 4))], argTypes := #[40, 3] })) rfl rfl (ent Tryz.call11 rfl) (next_any (n := 4) hF (by decide) hd (by omega) (by omega)) ?_
  rintro vw5 w5 ⟨kn, rfl, hkn, hs, hd⟩
  refine ⟨trivial, ?_⟩
  replace hF := hF.st hs
  replace hT := hT.t hs; replace hl := hl.t hs
  obtain ⟨n, hn⟩ : ∃ n, n = kn + 1 := ⟨_, rfl⟩
  refine yV (kq 38 (.binOp .add 3 (.const (.int .i64 1)) (.tmp 37) 3)) (fun _ => val_is (val_addi rfl rfl (by omega) (by omega)) (show _ = Value.int .i64 ((n : Nat) : Int) from congrArg (Value.int .i64) (by omega))) ?_
  refine yA 4 38 ?_
  refine Sch.nil ?_
  refine run_sq ?_
  refine run_pl [yy 0, yy 1, nn 2, yy 3, yy 4, yy 5, yy 6, nn 7, nn 8, nn 9, nn 10, yy 11] ?_
  refine yM 40 3 ?_
  refine yM 41 4 ?_
  refine cS (kq 42 (.call { callee := .value (.func 12), args := #[(.tmp 40), (.tmp 41)], argTypes := #[40, 3] })) rfl rfl (ent Tryz.call12 rfl) (grey_any (n := n) hF (by decide) hd (by omega) (by omega)) ?_
  rintro vw6 w6 ⟨pr, ag, df, va, vd, lo, hh, p, rfl, hDW, prl, prh, hK, hh9, hpp, hs, ha, hq, hd⟩
  refine ⟨trivial, ?_⟩
  replace hF := hF.st hs
  replace hT := hT.t hs; replace hl := hl.t hs
  have hW := hDW.ok (by omega) (by omega) prl prh
  have hla := hDW.la
  have hld := hDW.ld
  have hp3 := pow3 hW.l5
  obtain ⟨hk1, hk2, hk3, hk4⟩ := id hK
  refine yM 39 42 ?_
  refine yV (kq 43 (.extract (.tmp 39) 0)) (fun _ => val_extract rfl rfl) ?_
  refine yV (kq 44 (.extract (.tmp 39) 1)) (fun _ => val_extract rfl rfl) ?_
  refine yV (kq 45 (.extract (.tmp 39) 2)) (fun _ => val_extract rfl rfl) ?_
  refine aS (kq 5 (.alloc 28)) rfl rfl (a_alloc (cs := [.int .i64 0, .slice none 0 0, .slice none 0 0]) hF 4 (by kernel_rfl)) ?_
  rintro _ w7 ⟨Cw7, bw7, rfl, hs, bw, hF⟩
  refine ⟨trivial, ?_⟩
  replace hT := hT.t hs; replace hl := hl.t hs
  replace hd := hd.st hs (by first | decide | (simp <;> omega)) (by first | decide | (simp <;> omega))
  replace ha := ha.t hs; replace hq := hq.t hs
  refine aS (kq 6 (.alloc 30)) rfl rfl (a_alloc (cs := [.int .i64 0, .int .i64 0]) hF 5 (by kernel_rfl)) ?_
  rintro _ w8 ⟨Cw8, bw8, rfl, hs, bt, hF⟩
  refine ⟨trivial, ?_⟩
  replace hT := hT.t hs; replace hl := hl.t hs
  replace hd := hd.st hs (by first | decide | (simp <;> omega)) (by first | decide | (simp <;> omega))
  replace ha := ha.t hs; replace hq := hq.t hs; replace bw := bw.t hs
  refine aN (k0 (.store 28 (.tmp 5) (.tmp 43))) rfl (a_storeAll (vs := [.int .i64 pr, va, vd]) (n := 3) rfl rfl (by kernel_rfl) rfl rfl (by intro u hu; simp only [List.mem_cons, List.not_mem_nil, or_false] at hu; rcases hu with rfl | rfl | rfl <;> first | rfl | exact (ha.one rfl).2 | exact (hq.one rfl).2) bw rfl) ?_
  rintro _ w9 ⟨rfl, hs, bw⟩
  refine ⟨trivial, ?_⟩
  replace hF := hF.st hs
  replace hT := hT.t hs; replace hl := hl.t hs
  replace hd := hd.st hs (by first | decide | (simp <;> omega)) (by first | decide | (simp <;> omega))
  replace ha := ha.t hs; replace hq := hq.t hs; replace bt := bt.t hs
  refine aN (k0 (.store 30 (.tmp 6) (.tmp 44))) rfl (a_storeAll (vs := [.int .i64 lo, .int .i64 hh]) (n := 2) rfl rfl (by kernel_rfl) rfl rfl (by intro u hu; simp only [List.mem_cons, List.not_mem_nil, or_false] at hu; rcases hu with rfl | rfl <;> first | rfl) bt rfl) ?_
  rintro _ w10 ⟨rfl, hs, bt⟩
  refine ⟨trivial, ?_⟩
  replace hF := hF.st hs
  replace hT := hT.t hs; replace hl := hl.t hs
  replace hd := hd.st hs (by first | decide | (simp <;> omega)) (by first | decide | (simp <;> omega))
  replace ha := ha.t hs; replace hq := hq.t hs; replace bw := bw.t hs
  refine yA 7 45 ?_
  refine Sch.nil ?_
  refine run_sq ?_
  refine run_pl [nn 0, nn 1, yy 2, nn 3, yy 4, yy 5, yy 6, yy 7, yy 8] ?_
  refine nS (kq 47 (.load 28 (.tmp 5))) rfl rfl trivial (val_loadOwnAgg (n := 3) (vs := [.int .i64 pr, va, vd]) bw.at_ (by kernel_rfl) (by kernel_rfl) rfl rfl rfl) ?_
  refine nS (kq 48 (.load 30 (.tmp 6))) rfl rfl trivial (val_loadOwnAgg (n := 2) (vs := [.int .i64 lo, .int .i64 hh]) bt.at_ (by kernel_rfl) (by kernel_rfl) rfl rfl rfl) ?_
  refine yM 49 7 ?_
  refine cS (kq 50 (.call { callee := .value (.func 23), args := #[(.tmp 47), (.tmp 48), (.tmp 49)], argTypes := #[28, 30, 3] })) rfl rfl (ent Tryz.call23 rfl) (fields_ok hF hW ha hq hK hpp) ?_
  rintro vw11 w11 ⟨u1, fl, ok, rfl, hs, hf, hFl⟩
  refine ⟨trivial, ?_⟩
  replace hF := hF.st hs
  replace hT := hT.t hs; replace hl := hl.t hs
  replace hd := hd.st hs (by first | decide | (simp <;> omega)) (by first | decide | (simp <;> omega))
  replace ha := ha.t hs; replace hq := hq.t hs; replace bw := bw.t hs; replace bt := bt.t hs
  refine yM 46 50 ?_
  refine yV (kq 51 (.extract (.tmp 46) 0)) (fun _ => val_extract rfl rfl) ?_
  refine yV (kq 52 (.extract (.tmp 46) 1)) (fun _ => val_extract rfl rfl) ?_
  refine yA 8 51 ?_
  refine yA 9 52 ?_
  refine Sch.nil ?_
  refine run_sq ?_
  refine run_pl [nn 0, yy 1, nn 2, yy 3, yy 4, yy 5, yy 6, yy 7] ?_
  refine nS (kq 54 (.load 28 (.tmp 5))) rfl rfl trivial (val_loadOwnAgg (n := 3) (vs := [.int .i64 pr, va, vd]) bw.at_ (by kernel_rfl) (by kernel_rfl) rfl rfl rfl) ?_
  refine yM 55 7 ?_
  refine cS (kq 56 (.call { callee := .value (.func 33), args := #[(.tmp 54), (.tmp 55)], argTypes := #[28, 3] })) rfl rfl (ent Tryz.call33 rfl) (wscore_ok hF hW ha hq hpp) ?_
  rintro vw12 w12 ⟨rfl, hs⟩
  refine ⟨trivial, ?_⟩
  replace hF := hF.st hs
  replace hT := hT.t hs; replace hl := hl.t hs
  replace hd := hd.st hs (by first | decide | (simp <;> omega)) (by first | decide | (simp <;> omega))
  replace ha := ha.t hs; replace hq := hq.t hs; replace bw := bw.t hs; replace bt := bt.t hs; replace hf := hf.t hs
  obtain ⟨s, hsc⟩ : ∃ s, s = scN pr ag df p ag.length := ⟨_, rfl⟩
  rw [← hsc]
  have hsb := hW.sc p (Nat.le_refl _)
  rw [← hsc] at hsb
  obtain ⟨hfew1, hfew2⟩ := hFl.few hla.symm hsc
  have hgb := fun i (h : i < ag.length) => gnv_b hW p h
  refine yM 53 56 ?_
  refine yV (kq 57 (.extract (.tmp 53) 0)) (fun _ => val_extract rfl rfl) ?_
  refine yV (kq 58 (.extract (.tmp 53) 1)) (fun _ => val_extract rfl rfl) ?_
  refine yA 10 57 ?_
  refine yA 11 58 ?_
  refine Sch.nil ?_
  refine run_sq ?_
  refine run_sq ?_
  refine run_pl [yy 0, yy 1] ?_
  refine yM 59 11 ?_
  refine yV (kq 60 (.binOp .neq 52 (.tmp 59) (.const (.int .i64 0)) 52)) (fun _ => val_is (val_neq rfl rfl) (show _ = Value.bool false from congrArg Value.bool (decide_eq_false (by decide)))) ?_
  refine Sch.nil ?_
  refine run_cF 60 ?_
  refine run_sk ?_
  refine run_sq ?_
  refine run_pl [yy 0, yy 1, yy 2] ?_
  refine yM 61 4 ?_
  refine yV (kq 62 (.binOp .add 3 (.tmp 61) (.const (.int .i64 1)) 3)) (fun _ => val_is (val_addi rfl rfl (by omega) (by omega)) (show _ = Value.int .i64 ((n + 1 : Nat) : Int) from congrArg (Value.int .i64) (by omega))) ?_
  refine yA 12 62 ?_
  refine Sch.nil ?_
  refine run_sq ?_
  refine run_pl [yy 0, yy 1] ?_
  refine yM 63 7 ?_
  refine yA 13 63 ?_
  refine Sch.nil ?_
  refine run_sq ?_
  refine run_pl [yy 0] ?_
  refine yV (kq 14 (.assign (.const (.slice none 0 0)))) (fun _ => val_assign rfl) ?_
  refine Sch.nil ?_
  refine run_sq ?_
  refine run_sq ?_
  refine run_pl [yy 0] ?_
  refine yAc 15 (.int .i64 0) ?_
  refine Sch.nil ?_
  refine run_bk 0 ?_
  
  refine run_lp (ι := Nat × Value × (Nat → Nat)) (I := fun x w => x.1 ≤ n ∧ Lim w x.2.2 ∧ Stp [2, 3, 4, 5, 6, 7, 8, 9] w₀ (col1 C) w x.2.2 ∧ RV w (Mc x.2.2) ag va ∧ RV w (Mc x.2.2) df vd ∧ RV w (Mc x.2.2) fl u1 ∧ OwnB w x.2.2 5 bw8 (.cells [.int .i64 lo, .int .i64 hh].toArray 30) ∧ OwnB w x.2.2 4 bw7 (.cells [.int .i64 pr, va, vd].toArray 28) ∧ OwnL w x.2.2 6 3 x.2.1 (gvL ag df p x.1)) (e := fun x => [(4, .int .i64 n), (5, .pointer (some ⟨bw7, 0, none⟩)), (6, .pointer (some ⟨bw8, 0, none⟩)), (8, u1), (9, .bool ok), (10, .int .i64 s), (12, .int .i64 ((n + 1 : Nat) : Int)), (13, .int .i64 ((p / 3 ^ x.1 : Nat) : Int)), (14, x.2.1), (15, .int .i64 x.1)]) (m := fun x => n - x.1) (x₀ := (0, .slice none 0 0, Cw8)) (sr 4 (sr 5 (sr 6 (sr 8 (sr 9 (sr 10 (sr 12 (sub_cons 13 rfl (eq_int (by simp)) (sr 14 (sr 15 (sub_nil _))))))))))) ?_ ?_
  · exact ⟨Nat.zero_le _, hF, hT, ha, hq, hf, bt, bw, OwnL.nil⟩
  intro ⟨i, vo, C1⟩ w13 hI next
  obtain ⟨hi, hF, hT, ha, hq, hf, bt, bw, ho⟩ := hI
  try simp only at hi hF hT ha hq hf bt bw ho
  have next1 := next
  clear next
  show Run _ _ _ _ [(4, .int .i64 n), (5, .pointer (some ⟨bw7, 0, none⟩)), (6, .pointer (some ⟨bw8, 0, none⟩)), (8, u1), (9, .bool ok), (10, .int .i64 s), (12, .int .i64 ((n + 1 : Nat) : Int)), (13, .int .i64 ((p / 3 ^ i : Nat) : Int)), (14, vo), (15, .int .i64 i)] _ _
  have hpk : p / 3 ^ i ≤ p := Nat.div_le_self _ _
  have hgl := gvL_len ag df p i
  refine run_sq ?_
  refine run_sq ?_
  refine run_pl [yy 0, yy 1, yy 2] ?_
  refine yM 64 15 ?_
  refine yM 65 4 ?_
  refine yV (kq 66 (.binOp .lss 3 (.tmp 64) (.tmp 65) 3)) (fun _ => val_lss rfl rfl) ?_
  refine Sch.nil ?_
  refine run_i 66 rfl (fun h66 => ?_) (fun h66 => ?_)
  ·
   have hin : i < n := by omega
   have hia : i < ag.length := by omega
   have hid : i < df.length := by omega
   have hdg := dg_lt p i
   obtain ⟨hga1, hga2⟩ := hgb i hia
   have hfa := hW.fa i hia
   have hfd := hW.fd i hid
   unfold fitW at hfa hfd
   refine run_sk ?_
   refine run_sq ?_
   refine run_bk 1 ?_
   refine run_sq ?_
   refine run_pl [yy 0, yy 1, yy 2] ?_
   refine yM 69 13 ?_
   refine yV (kq 70 (.binOp .rem 3 (.tmp 69) (.const (.int .i64 3)) 3)) (fun _ => val_is (val_modi rfl rfl (Int.natCast_nonneg _) (by decide)) (show _ = Value.int .i64 ((dg p i : Nat) : Int) from by unfold dg; rw [Int.natCast_emod]; rfl)) ?_
   refine yA 16 70 ?_
   refine Sch.nil ?_
   refine run_sq ?_
   refine run_pl [yy 0, yy 1, yy 2] ?_
   refine yM 71 13 ?_
   refine yV (kq 72 (.binOp .quo 3 (.tmp 71) (.const (.int .i64 3)) 3)) (fun _ => val_is (val_divi rfl rfl (Int.natCast_nonneg _) (by decide) (Int.le_trans (Int.ofNat_le.2 hpk) (by omega))) (show _ = Value.int .i64 ((p / 3 ^ (i + 1) : Nat) : Int) from by rw [Nat.pow_succ, ← Nat.div_div_eq_div_mul, Int.natCast_ediv]; rfl)) ?_
   refine yA 13 72 ?_
   refine Sch.nil ?_
   refine run_sq ?_
   refine run_pl [yy 0] ?_
   refine yAc 17 (.int .i64 0) ?_
   refine Sch.nil ?_
   refine run_sq ?_
   refine run_sq ?_
   refine run_pl [yy 0, yy 1] ?_
   refine yM 73 16 ?_
   refine yV (kq 74 (.binOp .eql 3 (.tmp 73) (.const (.int .i64 0)) 3)) (fun _ => val_eql rfl rfl) ?_
   refine Sch.nil ?_
   refine run_i 74 rfl (fun h74 => ?_) (fun h74 => ?_)
   ·
    have hd0 : dg p i = 0 := by omega
    have hgv : ag[i]'hia = gnv ag df p i := by unfold gnv amt cntL; rw [hd0, getD_in hia]; simp
    refine run_pl [yy 0, nn 1, yy 2, yy 3, nn 4, yy 5] ?_
    refine yF 75 28 5 1 1 ?_
    refine nS (kq 76 (.load 22 (.tmp 75))) rfl rfl trivial (val_loadOwn bw.at_ (by kernel_rfl) rfl rfl) ?_
    refine yM 77 15 ?_
    refine iS (e := 3) (kq 78 (.indexAddr 22 (.tmp 76) (.tmp 77))) rfl rfl ha rfl (by kernel_rfl) rfl (by omega) (by omega) ?_
    intro b78 o78 h78
    try simp only [Int.toNat_natCast] at h78
    refine lN (kq 79 (.load 3 (.tmp 78))) rfl rfl trivial h78 (by kernel_rfl) rfl rfl ?_
    intro v79 g79
    first | (obtain rfl := rv_nat.1 g79) | (obtain rfl := rv_int.1 g79)
    refine yA 17 79 ?_
    refine Sch.nil ?_
    refine run_sq ?_
    refine run_sq ?_
    refine run_pl [yy 0, yy 1] ?_
    refine yM 80 16 ?_
    refine yV (kq 81 (.binOp .eql 3 (.tmp 80) (.const (.int .i64 1)) 3)) (fun _ => val_eql rfl rfl) ?_
    refine Sch.nil ?_
    refine run_i 81 rfl (fun h81 => ?_) (fun h81 => ?_)
    ·
     exact absurd h81 (by omega)
    ·
     refine run_sk ?_
     refine run_pl [yy 0, yy 1, nn 2, nn 3, yy 4] ?_
     refine yM 93 14 ?_
     refine yM 94 17 ?_
     refine aS (kq 95 (.buildSlice 22 1 #[(0, (.tmp 94))])) rfl rfl (a_buildSlice (ys := ([gnv ag df p i] : List Int)) (e := 3) (bytes := 8) hF (by kernel_rfl) rfl (by decide) (by decide) ⟨rfl, ⟨_, rfl, rv_int.2 (congrArg (Value.int .i64) hgv)⟩, trivial⟩) ?_
     rintro v95 w14 ⟨hs, g95, hF⟩
     refine ⟨trivial, ?_⟩
     replace hT := hT.t hs; replace ha := ha.t hs; replace hq := hq.t hs; replace hf := hf.t hs; replace bt := bt.t hs; replace bw := bw.t hs; replace ho := ho.t hs; replace h78 := h78.t hs
     refine aS (kq 96 (.call { callee := .builtin .append, args := #[(.tmp 93), (.tmp 95)], argTypes := #[22, 22] })) rfl rfl (a_append (e := 3) (bytes := 8) hF (by decide) rfl rfl (by kernel_rfl) (by decide) ho g95 (by simp only [List.length_cons, List.length_nil]; omega) (by simp only [List.length_cons, List.length_nil]; omega)) ?_
     rintro v96 w15 ⟨Cw15, hs, ho, hF⟩
     refine ⟨trivial, ?_⟩
     replace hT := hT.t hs; replace ha := ha.t hs; replace hq := hq.t hs; replace hf := hf.t hs; replace bt := bt.t hs; replace bw := bw.t hs; replace h78 := h78.t hs; replace g95 := g95.t hs
     refine yA 14 96 ?_
     refine Sch.nil ?_
     refine run_inBlock ?_
     refine run_pl [yy 0, yy 1, yy 2] ?_
     refine yM 67 15 ?_
     refine yV (kq 68 (.binOp .add 3 (.tmp 67) (.const (.int .i64 1)) 3)) (fun _ => val_addi rfl rfl (by omega) (by omega)) ?_
     refine yA 15 68 ?_
     refine Sch.nil ?_
     refine kp (sub_cons 4 rfl rfl (sub_cons 5 rfl rfl (sub_cons 6 rfl rfl (sub_cons 8 rfl rfl (sub_cons 9 rfl rfl (sub_cons 10 rfl rfl (sub_cons 12 rfl rfl (sub_cons 13 rfl rfl (sub_cons 14 rfl rfl (sub_cons 15 rfl (eq_int (by simp)) (sub_nil _))))))))))) (next1 (i + 1, v96, Cw15) _ ⟨(by first | omega | (simp only; omega)), hF, hT, ha, hq, hf, bt, bw, (by simp only; rw [gvL_succ]; exact ho)⟩ (by first | omega | (simp only; omega)))
   ·
    have hd0 : dg p i ≠ 0 := by omega
    refine run_sk ?_
    refine run_sq ?_
    refine run_sq ?_
    refine run_pl [yy 0, yy 1] ?_
    refine yM 80 16 ?_
    refine yV (kq 81 (.binOp .eql 3 (.tmp 80) (.const (.int .i64 1)) 3)) (fun _ => val_eql rfl rfl) ?_
    refine Sch.nil ?_
    refine run_i 81 rfl (fun h81 => ?_) (fun h81 => ?_)
    ·
     have hd1 : dg p i = 1 := by omega
     have hgv : ag[i]'hia - df[i]'hid = gnv ag df p i := by unfold gnv amt cntL; rw [hd1, getD_in hia, getD_in hid]; rfl
     refine run_draw (id := 22) (ops := F5.o22) [] (C1) [yy 0, yy 1, yy 2, yy 3, yy 4, yy 5, yy 6, yy 7, yy 8, yy 9, yy 10, yy 11] Tryz_mixed (by kernel_rfl) (by kernel_rfl) (by kernel_rfl) ?_
     intro w16 hs
     replace hF := hF.st hs
     replace hT := hT.t hs; replace ha := ha.t hs; replace hq := hq.t hs; replace hf := hf.t hs; replace bt := bt.t hs; replace bw := bw.t hs; replace ho := ho.t hs
     refine yF 82 28 5 1 1 ?_
     refine yS (kq 83 (.load 22 (.tmp 82))) rfl rfl (fun w' hS => val_loadOwn (bw.sy hS) (by kernel_rfl) rfl rfl) ?_
     refine yM 84 15 ?_
     refine iS (e := 3) (kq 85 (.indexAddr 22 (.tmp 83) (.tmp 84))) rfl rfl ha rfl (by kernel_rfl) rfl (by omega) (by omega) ?_
     intro b85 o85 h85
     try simp only [Int.toNat_natCast] at h85
     refine lS (kq 86 (.load 3 (.tmp 85))) rfl rfl (fun w' hS => h85.sy hS) h85 (by kernel_rfl) rfl rfl ?_
     intro v86 g86
     first | (obtain rfl := rv_nat.1 g86) | (obtain rfl := rv_int.1 g86)
     refine yF 87 28 5 2 2 ?_
     refine yS (kq 88 (.load 22 (.tmp 87))) rfl rfl (fun w' hS => val_loadOwn (bw.sy hS) (by kernel_rfl) rfl rfl) ?_
     refine yM 89 15 ?_
     refine iS (e := 3) (kq 90 (.indexAddr 22 (.tmp 88) (.tmp 89))) rfl rfl hq rfl (by kernel_rfl) rfl (by omega) (by omega) ?_
     intro b90 o90 h90
     try simp only [Int.toNat_natCast] at h90
     refine lS (kq 91 (.load 3 (.tmp 90))) rfl rfl (fun w' hS => h90.sy hS) h90 (by kernel_rfl) rfl rfl ?_
     intro v91 g91
     first | (obtain rfl := rv_nat.1 g91) | (obtain rfl := rv_int.1 g91)
     refine yV (kq 92 (.binOp .sub 3 (.tmp 86) (.tmp 91) 3)) (fun _ => val_subi rfl rfl (by omega) (by omega)) ?_
     refine yA 17 92 ?_
     refine Sch.nil ?_
     refine run_pl [yy 0, yy 1, nn 2, nn 3, yy 4] ?_
     refine yM 93 14 ?_
     refine yM 94 17 ?_
     refine aS (kq 95 (.buildSlice 22 1 #[(0, (.tmp 94))])) rfl rfl (a_buildSlice (ys := ([gnv ag df p i] : List Int)) (e := 3) (bytes := 8) hF (by kernel_rfl) rfl (by decide) (by decide) ⟨rfl, ⟨_, rfl, rv_int.2 (congrArg (Value.int .i64) hgv)⟩, trivial⟩) ?_
     rintro v95 w17 ⟨hs, g95, hF⟩
     refine ⟨trivial, ?_⟩
     replace hT := hT.t hs; replace ha := ha.t hs; replace hq := hq.t hs; replace hf := hf.t hs; replace bt := bt.t hs; replace bw := bw.t hs; replace ho := ho.t hs; replace h85 := h85.t hs; replace h90 := h90.t hs
     refine aS (kq 96 (.call { callee := .builtin .append, args := #[(.tmp 93), (.tmp 95)], argTypes := #[22, 22] })) rfl rfl (a_append (e := 3) (bytes := 8) hF (by decide) rfl rfl (by kernel_rfl) (by decide) ho g95 (by simp only [List.length_cons, List.length_nil]; omega) (by simp only [List.length_cons, List.length_nil]; omega)) ?_
     rintro v96 w18 ⟨Cw18, hs, ho, hF⟩
     refine ⟨trivial, ?_⟩
     replace hT := hT.t hs; replace ha := ha.t hs; replace hq := hq.t hs; replace hf := hf.t hs; replace bt := bt.t hs; replace bw := bw.t hs; replace h85 := h85.t hs; replace h90 := h90.t hs; replace g95 := g95.t hs
     refine yA 14 96 ?_
     refine Sch.nil ?_
     refine run_inBlock ?_
     refine run_pl [yy 0, yy 1, yy 2] ?_
     refine yM 67 15 ?_
     refine yV (kq 68 (.binOp .add 3 (.tmp 67) (.const (.int .i64 1)) 3)) (fun _ => val_addi rfl rfl (by omega) (by omega)) ?_
     refine yA 15 68 ?_
     refine Sch.nil ?_
     refine kp (sub_cons 4 rfl rfl (sub_cons 5 rfl rfl (sub_cons 6 rfl rfl (sub_cons 8 rfl rfl (sub_cons 9 rfl rfl (sub_cons 10 rfl rfl (sub_cons 12 rfl rfl (sub_cons 13 rfl rfl (sub_cons 14 rfl rfl (sub_cons 15 rfl (eq_int (by simp)) (sub_nil _))))))))))) (next1 (i + 1, v96, Cw18) _ ⟨(by first | omega | (simp only; omega)), hF, hT, ha, hq, hf, bt, bw, (by simp only; rw [gvL_succ]; exact ho)⟩ (by first | omega | (simp only; omega)))
    ·
     have hd2 : dg p i = 2 := by omega
     have hgv : (0 : Int) = gnv ag df p i := by unfold gnv amt cntL; rw [hd2, getD_in hia]; simp
     refine run_sk ?_
     refine run_pl [yy 0, yy 1, nn 2, nn 3, yy 4] ?_
     refine yM 93 14 ?_
     refine yM 94 17 ?_
     refine aS (kq 95 (.buildSlice 22 1 #[(0, (.tmp 94))])) rfl rfl (a_buildSlice (ys := ([gnv ag df p i] : List Int)) (e := 3) (bytes := 8) hF (by kernel_rfl) rfl (by decide) (by decide) ⟨rfl, ⟨_, rfl, rv_int.2 (congrArg (Value.int .i64) hgv)⟩, trivial⟩) ?_
     rintro v95 w19 ⟨hs, g95, hF⟩
     refine ⟨trivial, ?_⟩
     replace hT := hT.t hs; replace ha := ha.t hs; replace hq := hq.t hs; replace hf := hf.t hs; replace bt := bt.t hs; replace bw := bw.t hs; replace ho := ho.t hs
     refine aS (kq 96 (.call { callee := .builtin .append, args := #[(.tmp 93), (.tmp 95)], argTypes := #[22, 22] })) rfl rfl (a_append (e := 3) (bytes := 8) hF (by decide) rfl rfl (by kernel_rfl) (by decide) ho g95 (by simp only [List.length_cons, List.length_nil]; omega) (by simp only [List.length_cons, List.length_nil]; omega)) ?_
     rintro v96 w20 ⟨Cw20, hs, ho, hF⟩
     refine ⟨trivial, ?_⟩
     replace hT := hT.t hs; replace ha := ha.t hs; replace hq := hq.t hs; replace hf := hf.t hs; replace bt := bt.t hs; replace bw := bw.t hs; replace g95 := g95.t hs
     refine yA 14 96 ?_
     refine Sch.nil ?_
     refine run_inBlock ?_
     refine run_pl [yy 0, yy 1, yy 2] ?_
     refine yM 67 15 ?_
     refine yV (kq 68 (.binOp .add 3 (.tmp 67) (.const (.int .i64 1)) 3)) (fun _ => val_addi rfl rfl (by omega) (by omega)) ?_
     refine yA 15 68 ?_
     refine Sch.nil ?_
     refine kp (sub_cons 4 rfl rfl (sub_cons 5 rfl rfl (sub_cons 6 rfl rfl (sub_cons 8 rfl rfl (sub_cons 9 rfl rfl (sub_cons 10 rfl rfl (sub_cons 12 rfl rfl (sub_cons 13 rfl rfl (sub_cons 14 rfl rfl (sub_cons 15 rfl (eq_int (by simp)) (sub_nil _))))))))))) (next1 (i + 1, v96, Cw20) _ ⟨(by first | omega | (simp only; omega)), hF, hT, ha, hq, hf, bt, bw, (by simp only; rw [gvL_succ]; exact ho)⟩ (by first | omega | (simp only; omega)))
  ·
   have hin : i = n := by omega
   rw [hin] at ho hgl
   obtain ⟨gl, hgl0⟩ : ∃ x, x = gvL ag df p n := ⟨_, rfl⟩
   rw [← hgl0] at ho hgl
   refine run_ex 0 ?_
   refine run_sq ?_
   refine run_sq ?_
   refine run_pl [yy 0] ?_
   refine yAc 18 (.int .i64 0) ?_
   refine Sch.nil ?_
   refine run_bk 2 ?_
   
   refine run_lp (ι := Nat × (Nat → Nat)) (I := fun x w => x.1 ≤ 2 ^ n ∧ Lim w x.2 ∧ Stp [2, 3, 4, 5, 6, 7, 8, 9] w₀ (col1 C) w x.2 ∧ RV w (Mc x.2) ag va ∧ RV w (Mc x.2) df vd ∧ RV w (Mc x.2) fl u1 ∧ OwnB w x.2 5 bw8 (.cells [.int .i64 lo, .int .i64 hh].toArray 30) ∧ OwnL w x.2 6 3 vo gl) (e := fun x => [(4, .int .i64 n), (6, .pointer (some ⟨bw8, 0, none⟩)), (8, u1), (9, .bool ok), (10, .int .i64 s), (12, .int .i64 (leastF ag df p s hh n x.1 : Nat)), (14, vo), (18, .int .i64 x.1)]) (m := fun x => 2 ^ n - x.1) (x₀ := (0, C1)) (sr 4 (sr 6 (sr 8 (sr 9 (sr 10 (sub_cons 12 rfl (eq_int (by simp [leastF])) (sr 14 (sr 18 (sub_nil _))))))))) ?_ ?_
   · exact ⟨Nat.zero_le _, hF, hT, ha, hq, hf, bt, ho⟩
   intro ⟨k, C2⟩ w21 hI next
   obtain ⟨hk, hF, hT, ha, hq, hf, bt, ho⟩ := hI
   try simp only at hk hF hT ha hq hf bt ho
   have next2 := next
   clear next
   show Run _ _ _ _ [(4, .int .i64 n), (6, .pointer (some ⟨bw8, 0, none⟩)), (8, u1), (9, .bool ok), (10, .int .i64 s), (12, .int .i64 (leastF ag df p s hh n k : Nat)), (14, vo), (18, .int .i64 k)] _ _
   have hlb := leastF_b (ag := ag) (df := df) (p := p) (s := s) (hi := hh) (n := n) k
   have hp16 : 2 ^ n ≤ 16 := Nat.le_trans (Nat.pow_le_pow_right (by decide) (show n ≤ 4 by omega)) (by decide)
   obtain ⟨N2, hN2⟩ : ∃ x, x = 2 ^ n := ⟨_, rfl⟩
   rw [← hN2] at hp16
   refine run_sq ?_
   refine run_sq ?_
   refine run_pl [yy 0, yy 1, yy 2, yy 3, yy 4] ?_
   refine yM 97 18 ?_
   refine yM 98 4 ?_
   refine yV (kq 99 (.convert 3 73 (.tmp 98))) (fun _ => val_convE (r := (n : Int)) rfl ⟨_, Tryz.underlying3⟩ Tryz.underlying73 (wrap_u64 (by omega) (by omega))) ?_
   refine yV (kq 100 (.binOp .shl 3 (.const (.int .i64 1)) (.tmp 99) 73)) (fun _ => val_shlE (r := ((2 ^ n : Nat) : Int)) rfl rfl (by omega) (shl1N (by omega))) ?_
   rw [← hN2]
   refine yV (kq 101 (.binOp .lss 3 (.tmp 97) (.tmp 100) 3)) (fun _ => val_lss rfl rfl) ?_
   refine Sch.nil ?_
   refine run_i 101 rfl (fun h101 => ?_) (fun h101 => ?_)
   ·
    have hkn : k < 2 ^ n := by rw [← hN2]; omega
    refine run_sk ?_
    refine run_sq ?_
    refine run_bk 3 ?_
    refine run_sq ?_
    refine run_pl [yy 0, yy 1, yy 2] ?_
    refine yM 104 10 ?_
    refine yA 19 104 ?_
    refine yAc 20 (.int .i64 0) ?_
    refine Sch.nil ?_
    refine run_sq ?_
    refine run_sq ?_
    refine run_pl [yy 0] ?_
    refine yAc 21 (.int .i64 0) ?_
    refine Sch.nil ?_
    refine run_bk 4 ?_
    
    refine run_lp (ι := Nat × (Nat → Nat)) (I := fun x w => x.1 ≤ n ∧ Lim w x.2 ∧ Stp [2, 3, 4, 5, 6, 7, 8, 9] w₀ (col1 C) w x.2 ∧ RV w (Mc x.2) ag va ∧ RV w (Mc x.2) df vd ∧ RV w (Mc x.2) fl u1 ∧ OwnB w x.2 5 bw8 (.cells [.int .i64 lo, .int .i64 hh].toArray 30) ∧ OwnL w x.2 6 3 vo gl) (e := fun x => [(4, .int .i64 n), (6, .pointer (some ⟨bw8, 0, none⟩)), (8, u1), (9, .bool ok), (10, .int .i64 s), (12, .int .i64 (leastF ag df p s hh n k : Nat)), (14, vo), (18, .int .i64 k), (19, .int .i64 (fsS ag df p s k x.1)), (20, .int .i64 (fsC k x.1 : Nat)), (21, .int .i64 x.1)]) (m := fun x => n - x.1) (x₀ := (0, C2)) (sr 4 (sr 6 (sr 8 (sr 9 (sr 10 (sr 12 (sr 14 (sr 18 (sr 19 (sr 20 (sr 21 (sub_nil _)))))))))))) ?_ ?_
    · exact ⟨Nat.zero_le _, hF, hT, ha, hq, hf, bt, ho⟩
    intro ⟨i, C3⟩ w22 hI next
    obtain ⟨hi, hF, hT, ha, hq, hf, bt, ho⟩ := hI
    try simp only at hi hF hT ha hq hf bt ho
    have next3 := next
    clear next
    show Run _ _ _ _ [(4, .int .i64 n), (6, .pointer (some ⟨bw8, 0, none⟩)), (8, u1), (9, .bool ok), (10, .int .i64 s), (12, .int .i64 (leastF ag df p s hh n k : Nat)), (14, vo), (18, .int .i64 k), (19, .int .i64 (fsS ag df p s k i)), (20, .int .i64 (fsC k i : Nat)), (21, .int .i64 i)] _ _
    have hcl := fsC_le k i
    obtain ⟨hsb1, hsb2⟩ := fsS_b (s := s) hgb k (show i ≤ ag.length by omega)
    refine run_sq ?_
    refine run_sq ?_
    refine run_pl [yy 0, yy 1, yy 2] ?_
    refine yM 105 21 ?_
    refine yM 106 4 ?_
    refine yV (kq 107 (.binOp .lss 3 (.tmp 105) (.tmp 106) 3)) (fun _ => val_lss rfl rfl) ?_
    refine Sch.nil ?_
    refine run_i 107 rfl (fun h107 => ?_) (fun h107 => ?_)
    ·
     have hin : i < n := by omega
     obtain ⟨hga1, hga2⟩ := hgb i (by omega)
     have hge : gl[i]'(by omega) = gnv ag df p i := by simp only [hgl0]; exact gvL_get _
     refine run_sk ?_
     refine run_sq ?_
     refine run_bk 5 ?_
     refine run_sq ?_
     refine run_pl [yy 0, yy 1, yy 2, yy 3, yy 4, yy 5] ?_
     refine yM 110 18 ?_
     refine yM 111 21 ?_
     refine yV (kq 112 (.convert 3 73 (.tmp 111))) (fun _ => val_convE (r := (i : Int)) rfl ⟨_, Tryz.underlying3⟩ Tryz.underlying73 (wrap_u64 (by omega) (by omega))) ?_
     refine yV (kq 113 (.binOp .shr 3 (.tmp 110) (.tmp 112) 73)) (fun _ => val_shrE (r := ((k / 2 ^ i : Nat) : Int)) rfl rfl (by omega) (shrN (by omega))) ?_
     refine yV (kq 114 (.binOp .and 3 (.tmp 113) (.const (.int .i64 1)) 3)) (fun _ => val_is (val_and rfl rfl) (show _ = Value.int .i64 ((k / 2 ^ i &&& 1 : Nat) : Int) from congrArg (Value.int .i64) (bits_and (n := 1) (Nat.lt_of_le_of_lt (Nat.div_le_self _ _) (by omega)) (by decide)))) ?_
     refine yV (kq 115 (.binOp .eql 3 (.tmp 114) (.const (.int .i64 1)) 3)) (fun _ => val_is (val_eql rfl rfl) (congrArg Value.bool (bit_test k i))) ?_
     refine Sch.nil ?_
     refine run_c 115 rfl (fun h115 => ?_) (fun h115 => ?_)
     ·
      have hS1 : fsS ag df p s k (i + 1) = fsS ag df p s k i + gnv ag df p i := by rw [fsS, if_pos h115]
      have hC1 : fsC k (i + 1) = fsC k i + 1 := by rw [fsC, if_pos h115]
      refine run_sq ?_
      refine run_pl [yy 0, yy 1, yy 2, yy 3, nn 4, yy 5, yy 6] ?_
      refine yM 116 19 ?_
      refine yM 117 14 ?_
      refine yM 118 21 ?_
      refine oI (e' := 3) (kq 119 (.indexAddr 22 (.tmp 117) (.tmp 118))) rfl rfl ho rfl (by kernel_rfl) rfl (by omega) (by omega) ?_
      intro g119 hg119
      try simp only [Int.toNat_natCast]
      refine oN (kq 120 (.load 3 (.tmp 119))) rfl rfl trivial ho hg119 (by omega) (by kernel_rfl) rfl rfl ?_
      intro v120 g120
      try simp only [Int.toNat_natCast] at g120
      first | (obtain rfl := rv_nat.1 g120) | (obtain rfl := rv_int.1 g120)
      rw [hge]
      refine yV (kq 121 (.binOp .add 3 (.tmp 116) (.tmp 120) 3)) (fun _ => val_addi rfl rfl (by omega) (by omega)) ?_
      refine yA 19 121 ?_
      refine Sch.nil ?_
      refine run_pl [yy 0, yy 1, yy 2] ?_
      refine yM 122 20 ?_
      refine yV (kq 123 (.binOp .add 3 (.tmp 122) (.const (.int .i64 1)) 3)) (fun _ => val_addi rfl rfl (by omega) (by omega)) ?_
      refine yA 20 123 ?_
      refine Sch.nil ?_
      refine run_inBlock ?_
      refine run_pl [yy 0, yy 1, yy 2] ?_
      refine yM 108 21 ?_
      refine yV (kq 109 (.binOp .add 3 (.tmp 108) (.const (.int .i64 1)) 3)) (fun _ => val_addi rfl rfl (by omega) (by omega)) ?_
      refine yA 21 109 ?_
      refine Sch.nil ?_
      refine kp (sub_cons 4 rfl rfl (sub_cons 6 rfl rfl (sub_cons 8 rfl rfl (sub_cons 9 rfl rfl (sub_cons 10 rfl rfl (sub_cons 12 rfl rfl (sub_cons 14 rfl rfl (sub_cons 18 rfl rfl (sub_cons 19 rfl (eq_int (by simp only; exact hS1.symm)) (sub_cons 20 rfl (eq_int (by simp only; omega)) (sub_cons 21 rfl (eq_int (by simp)) (sub_nil _)))))))))))) (next3 (i + 1, C3) _ ⟨(by first | omega | (simp only; omega)), hF, hT, ha, hq, hf, bt, ho⟩ (by first | omega | (simp only; omega)))
     ·
      have hS1 : fsS ag df p s k (i + 1) = fsS ag df p s k i := by rw [fsS, if_neg (by rw [h115]; decide)]
      have hC1 : fsC k (i + 1) = fsC k i := by rw [fsC, if_neg (by rw [h115]; decide)]
      refine run_sk ?_
      refine run_inBlock ?_
      refine run_pl [yy 0, yy 1, yy 2] ?_
      refine yM 108 21 ?_
      refine yV (kq 109 (.binOp .add 3 (.tmp 108) (.const (.int .i64 1)) 3)) (fun _ => val_addi rfl rfl (by omega) (by omega)) ?_
      refine yA 21 109 ?_
      refine Sch.nil ?_
      refine kp (sub_cons 4 rfl rfl (sub_cons 6 rfl rfl (sub_cons 8 rfl rfl (sub_cons 9 rfl rfl (sub_cons 10 rfl rfl (sub_cons 12 rfl rfl (sub_cons 14 rfl rfl (sub_cons 18 rfl rfl (sub_cons 19 rfl (eq_int (by simp only; exact hS1.symm)) (sub_cons 20 rfl (eq_int (by simp only; omega)) (sub_cons 21 rfl (eq_int (by simp)) (sub_nil _)))))))))))) (next3 (i + 1, C3) _ ⟨(by first | omega | (simp only; omega)), hF, hT, ha, hq, hf, bt, ho⟩ (by first | omega | (simp only; omega)))
    ·
     have hin : n = i := by omega
     subst hin
     refine run_ex 4 ?_
     refine run_sq ?_
     by_cases hA : hh ≤ fsS ag df p s k n
     ·
      by_cases hB : fsC k n < leastF ag df p s hh n k
      ·
       refine run_pl [yy 0, yy 1, nn 2, yy 3, yy 4, yy 5, yy 6, yy 7, yy 8] ?_
       refine yM 124 19 ?_
       refine yF 125 30 6 1 1 ?_
       refine nS (kq 126 (.load 3 (.tmp 125))) rfl rfl trivial (val_loadOwn bt.at_ (by kernel_rfl) rfl rfl) ?_
       refine yV (kq 127 (.binOp .geq 3 (.tmp 124) (.tmp 126) 3)) (fun _ => val_T (val_geq rfl rfl) hA) ?_
       refine yM 128 127 ?_
       refine yMg 129 20 4 true ?_
       refine yMg 130 12 4 true ?_
       refine yV (kg 131 (.binOp .lss 3 (.tmp 129) (.tmp 130) 3) 4 true) (fun _ => val_T (val_lss rfl rfl) (by omega)) ?_
       refine yAt 132 128 131 ?_
       refine Sch.nil ?_
       have hlf : leastF ag df p s hh n (k + 1) = fsC k n := by rw [leastF, if_pos ⟨hA, hB⟩]
       refine run_cT 132 ?_
       refine run_pl [yy 0, yy 1] ?_
       refine yM 133 20 ?_
       refine yA 12 133 ?_
       refine Sch.nil ?_
       refine run_inBlock ?_
       refine run_pl [yy 0, yy 1, yy 2] ?_
       refine yM 102 18 ?_
       refine yV (kq 103 (.binOp .add 3 (.tmp 102) (.const (.int .i64 1)) 3)) (fun _ => val_addi rfl rfl (by omega) (by omega)) ?_
       refine yA 18 103 ?_
       refine Sch.nil ?_
       refine kp (sub_cons 4 rfl rfl (sub_cons 6 rfl rfl (sub_cons 8 rfl rfl (sub_cons 9 rfl rfl (sub_cons 10 rfl rfl (sub_cons 12 rfl (eq_int (by simp only; rw [hlf])) (sub_cons 14 rfl rfl (sub_cons 18 rfl (eq_int (by simp)) (sub_nil _))))))))) (next2 (k + 1, C3) _ ⟨(by first | omega | (simp only; omega)), hF, hT, ha, hq, hf, bt, ho⟩ (by simp only; omega))
      ·
       refine run_pl [yy 0, yy 1, nn 2, yy 3, yy 4, yy 5, yy 6, yy 7, yy 8] ?_
       refine yM 124 19 ?_
       refine yF 125 30 6 1 1 ?_
       refine nS (kq 126 (.load 3 (.tmp 125))) rfl rfl trivial (val_loadOwn bt.at_ (by kernel_rfl) rfl rfl) ?_
       refine yV (kq 127 (.binOp .geq 3 (.tmp 124) (.tmp 126) 3)) (fun _ => val_T (val_geq rfl rfl) hA) ?_
       refine yM 128 127 ?_
       refine yMg 129 20 4 true ?_
       refine yMg 130 12 4 true ?_
       refine yV (kg 131 (.binOp .lss 3 (.tmp 129) (.tmp 130) 3) 4 true) (fun _ => val_F (val_lss rfl rfl) (by omega)) ?_
       refine yAt 132 128 131 ?_
       refine Sch.nil ?_
       have hlf : leastF ag df p s hh n (k + 1) = leastF ag df p s hh n k := by rw [leastF, if_neg (fun e => hB e.2)]
       refine run_cF 132 ?_
       refine run_sk ?_
       refine run_inBlock ?_
       refine run_pl [yy 0, yy 1, yy 2] ?_
       refine yM 102 18 ?_
       refine yV (kq 103 (.binOp .add 3 (.tmp 102) (.const (.int .i64 1)) 3)) (fun _ => val_addi rfl rfl (by omega) (by omega)) ?_
       refine yA 18 103 ?_
       refine Sch.nil ?_
       refine kp (sub_cons 4 rfl rfl (sub_cons 6 rfl rfl (sub_cons 8 rfl rfl (sub_cons 9 rfl rfl (sub_cons 10 rfl rfl (sub_cons 12 rfl (eq_int (by simp only; rw [hlf])) (sub_cons 14 rfl rfl (sub_cons 18 rfl (eq_int (by simp)) (sub_nil _))))))))) (next2 (k + 1, C3) _ ⟨(by first | omega | (simp only; omega)), hF, hT, ha, hq, hf, bt, ho⟩ (by simp only; omega))
     ·
      refine run_pl [yy 0, yy 1, nn 2, yy 3, yy 4, yy 5, yy 6, yy 7, yy 8] ?_
      refine yM 124 19 ?_
      refine yF 125 30 6 1 1 ?_
      refine nS (kq 126 (.load 3 (.tmp 125))) rfl rfl trivial (val_loadOwn bt.at_ (by kernel_rfl) rfl rfl) ?_
      refine yV (kq 127 (.binOp .geq 3 (.tmp 124) (.tmp 126) 3)) (fun _ => val_F (val_geq rfl rfl) hA) ?_
      refine yM 128 127 ?_
      refine pX 129 4 true ?_
      refine pX 130 4 true ?_
      refine pX 131 4 true ?_
      refine yAf 132 128 131 ?_
      refine Sch.nil ?_
      have hlf : leastF ag df p s hh n (k + 1) = leastF ag df p s hh n k := by rw [leastF, if_neg (fun e => hA e.1)]
      refine run_cF 132 ?_
      refine run_sk ?_
      refine run_inBlock ?_
      refine run_pl [yy 0, yy 1, yy 2] ?_
      refine yM 102 18 ?_
      refine yV (kq 103 (.binOp .add 3 (.tmp 102) (.const (.int .i64 1)) 3)) (fun _ => val_addi rfl rfl (by omega) (by omega)) ?_
      refine yA 18 103 ?_
      refine Sch.nil ?_
      refine kp (sub_cons 4 rfl rfl (sub_cons 6 rfl rfl (sub_cons 8 rfl rfl (sub_cons 9 rfl rfl (sub_cons 10 rfl rfl (sub_cons 12 rfl (eq_int (by simp only; rw [hlf])) (sub_cons 14 rfl rfl (sub_cons 18 rfl (eq_int (by simp)) (sub_nil _))))))))) (next2 (k + 1, C3) _ ⟨(by first | omega | (simp only; omega)), hF, hT, ha, hq, hf, bt, ho⟩ (by simp only; omega))
   ·
    have hkn : k = 2 ^ n := by rw [← hN2] at hk ⊢; omega
    subst hkn
    refine run_ex 2 ?_
    refine run_sq ?_
    refine run_cut 22 (decide (lo ≤ s ∧ s < hh)) (C2) ?_ ?_
    ·
     intro hcut
     by_cases hGA : lo ≤ s
     ·
      by_cases hGB : s < hh
      ·
       refine run_pl [yy 0, yy 1, nn 2, yy 3, yy 4, yy 5, yy 6, nn 7, yy 8, yy 9, yy 10] ?_
       refine yM 134 10 ?_
       refine yF 135 30 6 0 0 ?_
       refine nS (kq 136 (.load 3 (.tmp 135))) rfl rfl trivial (val_loadOwn bt.at_ (by kernel_rfl) rfl rfl) ?_
       refine yV (kq 137 (.binOp .geq 3 (.tmp 134) (.tmp 136) 3)) (fun _ => val_T (val_geq rfl rfl) hGA) ?_
       refine yM 138 137 ?_
       refine yMg 139 10 4 true ?_
       refine yFg 140 30 6 1 1 4 true ?_
       refine nS (kg 141 (.load 3 (.tmp 140)) 4 true) rfl rfl trivial (val_loadOwn bt.at_ (by kernel_rfl) rfl rfl) ?_
       refine yV (kg 142 (.binOp .lss 3 (.tmp 139) (.tmp 141) 3) 4 true) (fun _ => val_T (val_lss rfl rfl) hGB) ?_
       refine yAt 143 138 142 ?_
       refine yA 22 143 ?_
       exact Sch.nil (hcut _ _ _ (Stp.refl _ _ _) rfl (by rw [decide_eq_true (And.intro hGA hGB)]) (sk 11))
      ·
       refine run_pl [yy 0, yy 1, nn 2, yy 3, yy 4, yy 5, yy 6, nn 7, yy 8, yy 9, yy 10] ?_
       refine yM 134 10 ?_
       refine yF 135 30 6 0 0 ?_
       refine nS (kq 136 (.load 3 (.tmp 135))) rfl rfl trivial (val_loadOwn bt.at_ (by kernel_rfl) rfl rfl) ?_
       refine yV (kq 137 (.binOp .geq 3 (.tmp 134) (.tmp 136) 3)) (fun _ => val_T (val_geq rfl rfl) hGA) ?_
       refine yM 138 137 ?_
       refine yMg 139 10 4 true ?_
       refine yFg 140 30 6 1 1 4 true ?_
       refine nS (kg 141 (.load 3 (.tmp 140)) 4 true) rfl rfl trivial (val_loadOwn bt.at_ (by kernel_rfl) rfl rfl) ?_
       refine yV (kg 142 (.binOp .lss 3 (.tmp 139) (.tmp 141) 3) 4 true) (fun _ => val_F (val_lss rfl rfl) hGB) ?_
       refine yAt 143 138 142 ?_
       refine yA 22 143 ?_
       exact Sch.nil (hcut _ _ _ (Stp.refl _ _ _) rfl (by rw [decide_eq_false (fun e : lo ≤ s ∧ s < hh => hGB e.2)]) (sk 11))
     ·
      refine run_pl [yy 0, yy 1, nn 2, yy 3, yy 4, yy 5, yy 6, nn 7, yy 8, yy 9, yy 10] ?_
      refine yM 134 10 ?_
      refine yF 135 30 6 0 0 ?_
      refine nS (kq 136 (.load 3 (.tmp 135))) rfl rfl trivial (val_loadOwn bt.at_ (by kernel_rfl) rfl rfl) ?_
      refine yV (kq 137 (.binOp .geq 3 (.tmp 134) (.tmp 136) 3)) (fun _ => val_F (val_geq rfl rfl) hGA) ?_
      refine yM 138 137 ?_
      refine pX 139 4 true ?_
      refine pX 140 4 true ?_
      refine pW (kg 141 (.load 3 (.tmp 140)) 4 true) rfl rfl trivial ?_
      refine pX 142 4 true ?_
      refine yAf 143 138 142 ?_
      refine yA 22 143 ?_
      exact Sch.nil (hcut _ _ _ (Stp.refl _ _ _) rfl (by rw [decide_eq_false (fun e : lo ≤ s ∧ s < hh => hGA e.1)]) (sk 11))
    intro w23 hs
    replace hF := hF.st hs
    replace hT := hT.t hs; replace ha := ha.t hs; replace hq := hq.t hs; replace hf := hf.t hs; replace bt := bt.t hs; replace ho := ho.t hs
    refine run_sq ?_
    refine run_sq ?_
    refine run_cut 151 (false) (C2) ?_ ?_
    ·
     intro hcut
     by_cases hG : lo ≤ s ∧ s < hh
     ·
      refine run_pl [yy 0, yy 1, yy 2, yy 3, yy 4, yy 5, yy 6, yy 7] ?_
      refine yM 144 9 ?_
      refine yV (kq 145 (.move (.tmp 22))) (fun _ => val_T (val_move rfl) hG) ?_
      refine yM 146 145 ?_
      refine yMg 147 12 2 true ?_
      refine yMg 148 4 2 true ?_
      refine yV (kg 149 (.binOp .leq 3 (.tmp 147) (.tmp 148) 3) 2 true) (fun _ => val_leq rfl rfl) ?_
      refine yAt 150 146 149 ?_
      refine yV (kq 151 (.binOp .neq 4 (.tmp 144) (.tmp 150) 4)) (fun _ => val_is (val_neqB Tryz.underlying4 rfl rfl) (show _ = Value.bool false from congrArg Value.bool (decide_eq_false (fun hne => hne (by cases e : ok with | true => exact (decide_eq_true (by have := (hfew1.1 e).2; omega)).symm | false => exact (decide_eq_false (fun e2 => by have := hfew1.2 ⟨hG, by omega⟩; rw [e] at this; cases this)).symm))))) ?_
      exact Sch.nil (hcut _ _ _ (Stp.refl _ _ _) rfl (rfl) (sk 8))
     ·
      refine run_pl [yy 0, yy 1, yy 2, yy 3, yy 4, yy 5, yy 6, yy 7] ?_
      refine yM 144 9 ?_
      refine yV (kq 145 (.move (.tmp 22))) (fun _ => val_F (val_move rfl) hG) ?_
      refine yM 146 145 ?_
      refine pX 147 2 true ?_
      refine pX 148 2 true ?_
      refine pX 149 2 true ?_
      refine yAf 150 146 149 ?_
      refine yV (kq 151 (.binOp .neq 4 (.tmp 144) (.tmp 150) 4)) (fun _ => val_is (val_neqB Tryz.underlying4 rfl rfl) (show _ = Value.bool false from congrArg Value.bool (decide_eq_false (fun hne => hne (by cases e : ok with | true => exact absurd (hfew1.1 e).1 hG | false => rfl))))) ?_
      exact Sch.nil (hcut _ _ _ (Stp.refl _ _ _) rfl (rfl) (sk 8))
    intro w24 hs
    replace hF := hF.st hs
    replace hT := hT.t hs; replace ha := ha.t hs; replace hq := hq.t hs; replace hf := hf.t hs; replace bt := bt.t hs; replace ho := ho.t hs
    refine run_cF 151 ?_
    refine run_sk ?_
    refine run_sq ?_
    refine run_pl [yy 0, yy 1] ?_
    refine yM 152 10 ?_
    refine yA 23 152 ?_
    refine Sch.nil ?_
    refine run_sq ?_
    refine run_sq ?_
    refine run_pl [yy 0, yy 1, yy 2] ?_
    refine yM 153 8 ?_
    refine yS (kq 154 (.call { callee := .builtin .len, args := #[(.tmp 153)], argTypes := #[22] })) rfl rfl (fun w' hS => hf.lenV rfl Tryz.underlying22 w' ) ?_
    refine yV (kq 155 (.move (.const (.int .i64 0)))) (fun _ => val_move rfl) ?_
    refine Sch.nil ?_
    refine run_bk 6 ?_
    
    refine run_lp (ι := Nat × (Nat → Nat)) (I := fun x w => x.1 ≤ fl.length ∧ Lim w x.2 ∧ Stp [2, 3, 4, 5, 6, 7, 8, 9] w₀ (col1 C) w x.2 ∧ RV w (Mc x.2) ag va ∧ RV w (Mc x.2) df vd ∧ RV w (Mc x.2) fl u1 ∧ OwnB w x.2 5 bw8 (.cells [.int .i64 lo, .int .i64 hh].toArray 30) ∧ OwnL w x.2 6 3 vo gl) (e := fun x => [(4, .int .i64 n), (6, .pointer (some ⟨bw8, 0, none⟩)), (8, u1), (9, .bool ok), (10, .int .i64 s), (12, .int .i64 (leastF ag df p s hh n (2 ^ n) : Nat)), (14, vo), (23, .int .i64 (s + fsum ag df p fl x.1)), (153, u1), (154, .int .i64 fl.length), (155, .int .i64 x.1)]) (m := fun x => fl.length - x.1) (x₀ := (0, C2)) (sr 4 (sr 6 (sr 8 (sr 9 (sr 10 (sr 12 (sr 14 (sub_cons 23 rfl (eq_int (by simp [fsum])) (sr 153 (sr 154 (sr 155 (sub_nil _)))))))))))) ?_ ?_
    · exact ⟨Nat.zero_le _, hF, hT, ha, hq, hf, bt, ho⟩
    intro ⟨j, C4⟩ w25 hI next
    obtain ⟨hj, hF, hT, ha, hq, hf, bt, ho⟩ := hI
    try simp only at hj hF hT ha hq hf bt ho
    have next4 := next
    clear next
    show Run _ _ _ _ [(4, .int .i64 n), (6, .pointer (some ⟨bw8, 0, none⟩)), (8, u1), (9, .bool ok), (10, .int .i64 s), (12, .int .i64 (leastF ag df p s hh n (2 ^ n) : Nat)), (14, vo), (23, .int .i64 (s + fsum ag df p fl j)), (153, u1), (154, .int .i64 fl.length), (155, .int .i64 j)] _ _
    have hle := hf.le
    have hfle := hFl.le
    obtain ⟨hub1, hub2⟩ := fsum_b hgb (fun f hf => hFl.fin rfl f hf) hj
    refine run_sq ?_
    refine run_pl [yy 0] ?_
    refine yV (kq 156 (.binOp .lss 3 (.tmp 155) (.tmp 154) 3)) (fun _ => val_lss rfl rfl) ?_
    refine Sch.nil ?_
    refine run_sq ?_
    refine run_i 156 rfl (fun h156 => ?_) (fun h156 => ?_)
    ·
     have hjl : j < fl.length := by omega
     have hqm := List.getElem_mem hjl
     obtain ⟨q, hql, hqe⟩ := hFl.fin rfl _ hqm
     obtain ⟨hga1, hga2⟩ := hgb q hql
     have hge : gl[q]'(by omega) = gnv ag df p q := by simp only [hgl0]; exact gvL_get _
     have hfs : fsum ag df p fl (j + 1) = fsum ag df p fl j + gnv ag df p q := by rw [fsum, getD_in hjl, hqe, Int.toNat_natCast]
     refine run_sk ?_
     refine run_sq ?_
     refine run_bk 7 ?_
     refine run_sq ?_
     refine run_pl [yy 0, nn 1, yy 2] ?_
     refine iS (e := 3) (kq 157 (.indexAddr 22 (.tmp 153) (.tmp 155))) rfl rfl hf rfl (by kernel_rfl) rfl (by omega) (by omega) ?_
     intro b157 o157 h157
     try simp only [Int.toNat_natCast] at h157
     refine lN (kq 158 (.load 3 (.tmp 157))) rfl rfl trivial h157 (by kernel_rfl) rfl rfl ?_
     intro v158 g158
     first | (obtain rfl := rv_nat.1 g158) | (obtain rfl := rv_int.1 g158)
     rw [hqe]
     refine yA 25 158 ?_
     refine Sch.nil ?_
     refine run_pl [yy 0, yy 1, yy 2, yy 3, nn 4, yy 5, yy 6] ?_
     refine yM 159 23 ?_
     refine yM 160 14 ?_
     refine yM 161 25 ?_
     refine oI (e' := 3) (kq 162 (.indexAddr 22 (.tmp 160) (.tmp 161))) rfl rfl ho rfl (by kernel_rfl) rfl (by omega) (by omega) ?_
     intro g162 hg162
     try simp only [Int.toNat_natCast]
     refine oN (kq 163 (.load 3 (.tmp 162))) rfl rfl trivial ho hg162 (by omega) (by kernel_rfl) rfl rfl ?_
     intro v163 g163
     try simp only [Int.toNat_natCast] at g163
     first | (obtain rfl := rv_nat.1 g163) | (obtain rfl := rv_int.1 g163)
     rw [hge]
     refine yV (kq 164 (.binOp .add 3 (.tmp 159) (.tmp 163) 3)) (fun _ => val_addi rfl rfl (by omega) (by omega)) ?_
     refine yA 23 164 ?_
     refine Sch.nil ?_
     refine run_inBlock ?_
     refine run_pl [yy 0, yy 1] ?_
     refine yV (kq 165 (.binOp .add 3 (.tmp 155) (.const (.int .i64 1)) 3)) (fun _ => val_addi rfl rfl (by omega) (by omega)) ?_
     refine yM 155 165 ?_
     refine Sch.nil ?_
     refine kp (sub_cons 4 rfl rfl (sub_cons 6 rfl rfl (sub_cons 8 rfl rfl (sub_cons 9 rfl rfl (sub_cons 10 rfl rfl (sub_cons 12 rfl rfl (sub_cons 14 rfl rfl (sub_cons 23 rfl (eq_int (by simp only; omega)) (sub_cons 153 rfl rfl (sub_cons 154 rfl rfl (sub_cons 155 rfl (eq_int (by simp)) (sub_nil _)))))))))))) (next4 (j + 1, C4) _ ⟨(by first | omega | (simp only; omega)), hF, hT, ha, hq, hf, bt, ho⟩ (by first | omega | (simp only; omega)))
    ·
     have hjl : j = fl.length := by omega
     subst hjl
     refine run_ex 6 ?_
     refine run_sq ?_
     rcases Bool.eq_false_or_eq_true (ok) with hk5 | hk5
     ·
      rw [hk5]
      refine run_pl [yy 0, yy 1, yy 2, yy 3, yy 4, yy 5, yy 6, yy 7, yy 8, yy 9, nn 10, yy 11, yy 12, yy 13, yy 14] ?_
      refine yM 166 9 ?_
      refine yV (kq 167 (.unOp .not 4 (.tmp 166))) (fun _ => val_not rfl) ?_
      refine yM 168 167 ?_
      refine yMg 169 8 2 false ?_
      refine yS (kg 170 (.call { callee := .builtin .len, args := #[(.tmp 169)], argTypes := #[22] }) 2 false) rfl rfl (fun w' hS => hf.lenV rfl Tryz.underlying22 w' ) ?_
      refine yMg 171 12 2 false ?_
      refine yV (kg 172 (.binOp .eql 3 (.tmp 170) (.tmp 171) 3) 2 false) (fun _ => val_is (val_eql rfl rfl) (show _ = Value.bool true from congrArg Value.bool (decide_eq_true (by have := (hfew2 hk5).1; omega)))) ?_
      refine yMg 173 172 2 false ?_
      refine yMg 174 23 7 true ?_
      refine yFg 175 30 6 1 1 7 true ?_
      refine nS (kg 176 (.load 3 (.tmp 175)) 7 true) rfl rfl trivial (val_loadOwn bt.at_ (by kernel_rfl) rfl rfl) ?_
      refine yV (kg 177 (.binOp .geq 3 (.tmp 174) (.tmp 176) 3) 7 true) (fun _ => val_is (val_geq rfl rfl) (show _ = Value.bool true from congrArg Value.bool (decide_eq_true (by have := (hfew2 hk5).2; rw [← fsum_all] at this; omega)))) ?_
      refine yV (kg 178 (.pick (.tmp 173) (.tmp 177) (.const (.bool false))) 2 false) (fun _ => val_pick_t rfl rfl) ?_
      refine yOf 179 168 178 ?_
      refine yA 2 179 ?_
      refine Sch.nil ?_
      refine run_ret1 (by kernel_rfl) Tryz.func5 Tryz.results5 rfl ?_
      exact ⟨rfl, hT.out1 (by decide)⟩
     ·
      rw [hk5]
      refine run_pl [yy 0, yy 1, yy 2, yy 3, yy 4, yy 5, yy 6, yy 7, yy 8, yy 9, nn 10, yy 11, yy 12, yy 13, yy 14] ?_
      refine yM 166 9 ?_
      refine yV (kq 167 (.unOp .not 4 (.tmp 166))) (fun _ => val_not rfl) ?_
      refine yM 168 167 ?_
      refine pX 169 2 false ?_
      refine pX 170 2 false ?_
      refine pX 171 2 false ?_
      refine pX 172 2 false ?_
      refine pX 173 2 false ?_
      refine pX 174 7 true ?_
      refine pX 175 7 true ?_
      refine pW (kg 176 (.load 3 (.tmp 175)) 7 true) rfl rfl trivial ?_
      refine pX 177 7 true ?_
      refine pX 178 2 false ?_
      refine yOt 179 168 178 ?_
      refine yA 2 179 ?_
      refine Sch.nil ?_
      refine run_ret1 (by kernel_rfl) Tryz.func5 Tryz.results5 rfl ?_
      exact ⟨rfl, hT.out1 (by decide)⟩
namespace F5B
noncomputable def c0 := bodyOf Tryz.f5
noncomputable def c7 := (cl (cl (cr (cl (cr c0)))))
noncomputable def c15 := (cl (cr (cr (cr (cr c0)))))
noncomputable def c16 := (cr (cr (cr (cr (cr c0)))))
noncomputable def c24 := (cl (cr (cl (cr (cr c16)))))
noncomputable def c31 := (cl (cr (cr (cr (cr c16)))))
noncomputable def c32 := (cr (cr (cr (cr (cr c16)))))
noncomputable def c39 := (cl (cl (cr (cl (cr c32)))))
noncomputable def c50 := (cl (cr (cl (cl (cr c39)))))
noncomputable def c51 := (cr (cr (cl (cl (cr c39)))))
noncomputable def c63 := (cl (cr (cl (cr (cr c51)))))
noncomputable def o22 := rops c63
noncomputable def c71 := (cl (cr (cl (cr (cr c32)))))
noncomputable def c81 := (cl (cl (cl (cr (cl c71)))))
noncomputable def c82 := (cr (cl (cl (cr (cl c71)))))
noncomputable def c88 := (cl (cl (cl (cr (cl c82)))))
noncomputable def c93 := (cr (cl (cl (cr (cl c82)))))
noncomputable def c99 := (cl (cl (cr (cl (cl c93)))))
noncomputable def c100 := (cr (cl (cr (cl (cl c93)))))
noncomputable def c112 := (cl (cr (cr (cr (cr c32)))))
noncomputable def c119 := (cr (cr (cr (cr (cr c32)))))
noncomputable def c126 := (cl (cl (cr (cl (cr c119)))))
noncomputable def c135 := (cl (cl (cl (cr (cr c126)))))
noncomputable def c136 := (cr (cl (cl (cr (cr c126)))))
end F5B
/-- .. where more is handed than it looks at. -/
theorem reviewFewest_big {w₀ : World} {C : Nat → Nat} {p : Option Addr} {n c : Nat} (hF : Lim w₀ C) (hn : 400 < n) : Calls Tryz.prog 5 #[.slice p n c] w₀ (Ret fun v w' => v = .bool true ∧ Stp [] w₀ C w' C) := by
 have hF0 := hF
 have hT := Stp.refl [2, 3, 4, 5, 6, 7, 8, 9] w₀ (col1 C)
 replace hF := hF.col1
 refine calls_start (c := F5B.c0) (N := 180) [.slice p n c] Tryz.func5 (by kernel_rfl) (by kernel_rfl) (by kernel_rfl) ?_
 show Run _ _ _ _ [(0, .slice p n c)] _ _
 refine run_sq ?_
 refine run_pl [yy 0] ?_
 refine yAc 2 (.bool false) ?_
 refine Sch.nil ?_
 refine run_sq ?_
 refine run_sq ?_
 refine run_pl [nn 0, yy 1, yy 2, yy 3, nn 4, yy 5, yy 6] ?_
 refine cS (kq 26 (.call { callee := .value (.func 8), args := #[], argTypes := #[] })) rfl rfl (ent Tryz.call8 rfl) (awake_ok hF) ?_
 rintro vw1 w1 ⟨rfl, hs⟩
 refine ⟨trivial, ?_⟩
 replace hF := hF.st hs
 replace hT := hT.t hs
 refine yV (kq 27 (.unOp .not 4 (.tmp 26))) (fun _ => val_not rfl) ?_
 refine yM 28 27 ?_
 refine yMg 29 0 2 false ?_
 refine cS (kg 30 (.call { callee := .value (.func 9), args := #[(.tmp 29)], argTypes := #[22] }) 2 false) rfl rfl (ent Tryz.call9 rfl) (few_ok _ _ _ _) ?_
 rintro vw2 w2 ⟨rfl, rfl⟩
 refine ⟨trivial, ?_⟩
 rw [decide_eq_false (show ¬ (n : Int) ≤ 400 by omega)]
 refine yV (kg 31 (.unOp .not 4 (.tmp 30)) 2 false) (fun _ => val_not rfl) ?_
 refine yOf 32 28 31 ?_
 refine Sch.nil ?_
 refine run_cT 32 ?_
 refine run_sq ?_
 refine run_pl [nn 0, yy 1] ?_
 refine cS (kq 33 (.call { callee := .value (.func 8), args := #[], argTypes := #[] })) rfl rfl (ent Tryz.call8 rfl) (awake_ok hF) ?_
 rintro vw3 w3 ⟨rfl, hs⟩
 refine ⟨trivial, ?_⟩
 replace hF := hF.st hs
 replace hT := hT.t hs
 refine yA 2 33 ?_
 refine Sch.nil ?_
 refine run_ret1 (by kernel_rfl) Tryz.func5 Tryz.results5 rfl ?_
 exact ⟨rfl, hT.out1 (by decide)⟩
end Go.Proofs.YtionghonhnedgaaGreat
