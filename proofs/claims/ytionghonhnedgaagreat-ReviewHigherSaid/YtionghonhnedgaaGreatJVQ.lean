/- Steps through functions of the program. -/
import Derived.Test.YtionghonhnedgaaGreatJVP
import Derived.Test.YtionghonhnedgaaGreatL2
set_option linter.unusedVariables false
set_option linter.unusedSimpArgs false
set_option maxRecDepth 100000
set_option maxHeartbeats 4000000
namespace Go.Proofs.YtionghonhnedgaaGreat
open Go.K Go.K.Rep

namespace F7
noncomputable def c0 := bodyOf Tryz.f7
noncomputable def c7 := (cl (cl (cr (cl (cr c0)))))
noncomputable def c15 := (cl (cr (cr (cr (cr c0)))))
noncomputable def c16 := (cr (cr (cr (cr (cr c0)))))
noncomputable def c24 := (cl (cl (cr (cr (cr c16)))))
noncomputable def c25 := (cr (cl (cr (cr (cr c16)))))
noncomputable def c31 := (cl (cr (cr (cr (cr c16)))))
noncomputable def c38 := (cl (cr (cl (cl (cr c31)))))
noncomputable def c41 := (cr (cr (cl (cl (cr c31)))))
noncomputable def c48 := (cl (cr (cr (cl (cl c41)))))
noncomputable def c54 := (cl (cl (cl (cl (cr c48)))))
noncomputable def c55 := (cr (cl (cl (cl (cr c48)))))
noncomputable def c59 := (cl (cr (cl (cl (cr c48)))))
noncomputable def c61 := (cr (cr (cl (cl (cr c48)))))
noncomputable def c62 := (cr (cr (cr (cl (cl c41)))))
noncomputable def c70 := (cr (cr (cr (cr (cr c16)))))
end F7
/-- A higher threshold never needs fewer fields. -/
theorem reviewHigher_ok {w₀ : World} {C : Nat → Nat} {l : List Int} {vl : Value} {mm : Nat} (hm8 : mm < 256) (hF : Lim w₀ C) (hl : RV w₀ (Mc C) l vl) : Calls Tryz.prog 7 #[vl, .int .u8 (mm : Int)] w₀ (Ret fun v w' => v = .bool true ∧ Stp [] w₀ C w' C) := by
 have hF0 := hF
 have hT := Stp.refl [2, 3, 4, 5, 6, 7, 8, 9] w₀ (col1 C)
 replace hF := hF.col1
 replace hl : RV w₀ (Mc (col1 C)) l vl := by rw [Mc_col1]; exact hl
 refine calls_start (c := F7.c0) (N := 90) [vl, .int .u8 (mm : Int)] Tryz.func7 (by kernel_rfl) (by kernel_rfl) (by kernel_rfl) ?_
 show Run _ _ _ _ [(0, vl), (1, .int .u8 (mm : Int))] _ _
 refine run_sq ?_
 refine run_pl [yy 0] ?_
 refine yAc 4 (.bool false) ?_
 refine Sch.nil ?_
 refine run_sq ?_
 refine run_sq ?_
 refine run_pl [nn 0, yy 1, yy 2, yy 3, nn 4, yy 5, yy 6] ?_
 refine cS (kq 19 (.call { callee := .value (.func 8), args := #[], argTypes := #[] })) rfl rfl (ent Tryz.call8 rfl) (awake_ok hF) ?_
 rintro vw1 w1 ⟨rfl, hs⟩
 refine ⟨trivial, ?_⟩
 replace hF := hF.st hs
 replace hT := hT.t hs; replace hl := hl.t hs
 refine yV (kq 20 (.unOp .not 4 (.tmp 19))) (fun _ => val_not rfl) ?_
 refine yM 21 20 ?_
 refine yMg 22 0 2 false ?_
 refine cS (kg 23 (.call { callee := .value (.func 9), args := #[(.tmp 22)], argTypes := #[22] }) 2 false) rfl rfl (ent Tryz.call9 rfl) (few_any hl) ?_
 rintro vw2 w2 ⟨rfl, rfl⟩
 refine ⟨trivial, ?_⟩
 refine yV (kg 24 (.unOp .not 4 (.tmp 23)) 2 false) (fun _ => val_notd rfl) ?_
 refine yOf 25 21 24 ?_
 refine Sch.nil ?_
 refine run_i 25 rfl (fun h25 => ?_) (fun h25 => ?_)
 ·
  refine run_sq ?_
  refine run_pl [nn 0, yy 1] ?_
  refine cS (kq 26 (.call { callee := .value (.func 8), args := #[], argTypes := #[] })) rfl rfl (ent Tryz.call8 rfl) (awake_ok hF) ?_
  rintro vw3 w3 ⟨rfl, hs⟩
  refine ⟨trivial, ?_⟩
  replace hF := hF.st hs
  replace hT := hT.t hs; replace hl := hl.t hs
  refine yA 4 26 ?_
  refine Sch.nil ?_
  refine run_ret1 (by kernel_rfl) Tryz.func7 Tryz.results7 rfl ?_
  exact ⟨rfl, hT.out1 (by decide)⟩
 ·
  refine run_sk ?_
  refine run_sq ?_
  refine run_pl [yy 0, nn 1, yy 2] ?_
  refine yM 27 0 ?_
  refine cS (kq 28 (.call { callee := .value (.func 10), args := #[(.tmp 27)], argTypes := #[22] })) rfl rfl (ent Tryz.call10 rfl) (new_any hF hl) ?_
  rintro vw4 w4 ⟨Cd, bd, rfl, hs, hF, hd⟩
  refine ⟨trivial, ?_⟩
  replace hT := hT.t hs; replace hl := hl.t hs
  refine yA 5 28 ?_
  refine Sch.nil ?_
  refine run_sq ?_
  refine run_pl [yy 0, nn 1, yy 2, yy 3] ?_
  refine yM 29 5 ?_
  refine cS (kq 30 (.call { callee := .value (.func 11), args := #[(.tmp 29), (.const (.int .i64 4))], argTypes := #[40, 3] })) rfl rfl (ent Tryz.call11 rfl) (next_any (n := 4) hF (by decide) hd (by omega) (by omega)) ?_
  rintro vw5 w5 ⟨kn, rfl, hkn, hs, hd⟩
  refine ⟨trivial, ?_⟩
  replace hF := hF.st hs
  replace hT := hT.t hs; replace hl := hl.t hs
  obtain ⟨n, hn⟩ : ∃ n, n = kn + 1 := ⟨_, rfl⟩
  refine yV (kq 31 (.binOp .add 3 (.const (.int .i64 1)) (.tmp 30) 3)) (fun _ => val_is (val_addi rfl rfl (by omega) (by omega)) (show _ = Value.int .i64 ((n : Nat) : Int) from congrArg (Value.int .i64) (by omega))) ?_
  refine yA 6 31 ?_
  refine Sch.nil ?_
  refine run_sq ?_
  refine run_pl [yy 0, yy 1, nn 2, yy 3, yy 4, yy 5, yy 6, nn 7, nn 8, nn 9, nn 10, yy 11] ?_
  refine yM 33 5 ?_
  refine yM 34 6 ?_
  refine cS (kq 35 (.call { callee := .value (.func 12), args := #[(.tmp 33), (.tmp 34)], argTypes := #[40, 3] })) rfl rfl (ent Tryz.call12 rfl) (grey_any (n := n) hF (by decide) hd (by omega) (by omega)) ?_
  rintro vw6 w6 ⟨pr, ag, df, va, vd, lo, hh, p, rfl, hDW, prl, prh, hK, hh9, hpp, hs, ha, hq, hd⟩
  refine ⟨trivial, ?_⟩
  replace hF := hF.st hs
  replace hT := hT.t hs; replace hl := hl.t hs
  have hW := hDW.ok (by omega) (by omega) prl prh
  have hla := hDW.la
  have hld := hDW.ld
  have hp3 := pow3 hW.l5
  obtain ⟨hk1, hk2, hk3, hk4⟩ := id hK
  refine yM 32 35 ?_
  refine yV (kq 36 (.extract (.tmp 32) 0)) (fun _ => val_extract rfl rfl) ?_
  refine yV (kq 37 (.extract (.tmp 32) 1)) (fun _ => val_extract rfl rfl) ?_
  refine yV (kq 38 (.extract (.tmp 32) 2)) (fun _ => val_extract rfl rfl) ?_
  refine aS (kq 7 (.alloc 28)) rfl rfl (a_alloc (cs := [.int .i64 0, .slice none 0 0, .slice none 0 0]) hF 4 (by kernel_rfl)) ?_
  rintro _ w7 ⟨Cw7, bw7, rfl, hs, bw, hF⟩
  refine ⟨trivial, ?_⟩
  replace hT := hT.t hs; replace hl := hl.t hs
  replace hd := hd.st hs (by first | decide | (simp <;> omega)) (by first | decide | (simp <;> omega))
  replace ha := ha.t hs; replace hq := hq.t hs
  refine aS (kq 8 (.alloc 30)) rfl rfl (a_alloc (cs := [.int .i64 0, .int .i64 0]) hF 5 (by kernel_rfl)) ?_
  rintro _ w8 ⟨Cw8, bw8, rfl, hs, bt, hF⟩
  refine ⟨trivial, ?_⟩
  replace hT := hT.t hs; replace hl := hl.t hs
  replace hd := hd.st hs (by first | decide | (simp <;> omega)) (by first | decide | (simp <;> omega))
  replace ha := ha.t hs; replace hq := hq.t hs; replace bw := bw.t hs
  refine aN (k0 (.store 28 (.tmp 7) (.tmp 36))) rfl (a_storeAll (vs := [.int .i64 pr, va, vd]) (n := 3) rfl rfl (by kernel_rfl) rfl rfl (by intro u hu; simp only [List.mem_cons, List.not_mem_nil, or_false] at hu; rcases hu with rfl | rfl | rfl <;> first | rfl | exact (ha.one rfl).2 | exact (hq.one rfl).2) bw rfl) ?_
  rintro _ w9 ⟨rfl, hs, bw⟩
  refine ⟨trivial, ?_⟩
  replace hF := hF.st hs
  replace hT := hT.t hs; replace hl := hl.t hs
  replace hd := hd.st hs (by first | decide | (simp <;> omega)) (by first | decide | (simp <;> omega))
  replace ha := ha.t hs; replace hq := hq.t hs; replace bt := bt.t hs
  refine aN (k0 (.store 30 (.tmp 8) (.tmp 37))) rfl (a_storeAll (vs := [.int .i64 lo, .int .i64 hh]) (n := 2) rfl rfl (by kernel_rfl) rfl rfl (by intro u hu; simp only [List.mem_cons, List.not_mem_nil, or_false] at hu; rcases hu with rfl | rfl <;> first | rfl) bt rfl) ?_
  rintro _ w10 ⟨rfl, hs, bt⟩
  refine ⟨trivial, ?_⟩
  replace hF := hF.st hs
  replace hT := hT.t hs; replace hl := hl.t hs
  replace hd := hd.st hs (by first | decide | (simp <;> omega)) (by first | decide | (simp <;> omega))
  replace ha := ha.t hs; replace hq := hq.t hs; replace bw := bw.t hs
  refine yA 9 38 ?_
  refine Sch.nil ?_
  refine run_sq ?_
  refine run_pl [nn 0, nn 1, yy 2, nn 3, yy 4, yy 5, yy 6, yy 7, yy 8] ?_
  refine nS (kq 40 (.load 28 (.tmp 7))) rfl rfl trivial (val_loadOwnAgg (n := 3) (vs := [.int .i64 pr, va, vd]) bw.at_ (by kernel_rfl) (by kernel_rfl) rfl rfl rfl) ?_
  refine nS (kq 41 (.load 30 (.tmp 8))) rfl rfl trivial (val_loadOwnAgg (n := 2) (vs := [.int .i64 lo, .int .i64 hh]) bt.at_ (by kernel_rfl) (by kernel_rfl) rfl rfl rfl) ?_
  refine yM 42 9 ?_
  refine cS (kq 43 (.call { callee := .value (.func 23), args := #[(.tmp 40), (.tmp 41), (.tmp 42)], argTypes := #[28, 30, 3] })) rfl rfl (ent Tryz.call23 rfl) (fields_ok hF hW ha hq hK hpp) ?_
  rintro vw11 w11 ⟨u1, fl, ok, rfl, hs, hf, hFl⟩
  refine ⟨trivial, ?_⟩
  replace hF := hF.st hs
  replace hT := hT.t hs; replace hl := hl.t hs
  replace hd := hd.st hs (by first | decide | (simp <;> omega)) (by first | decide | (simp <;> omega))
  replace ha := ha.t hs; replace hq := hq.t hs; replace bw := bw.t hs; replace bt := bt.t hs
  refine yM 39 43 ?_
  refine yV (kq 44 (.extract (.tmp 39) 0)) (fun _ => val_extract rfl rfl) ?_
  refine yV (kq 45 (.extract (.tmp 39) 1)) (fun _ => val_extract rfl rfl) ?_
  refine yA 10 44 ?_
  refine yA 11 45 ?_
  refine Sch.nil ?_
  refine run_sq ?_
  refine run_pl [yy 0, nn 1, yy 2, nn 3, yy 4, yy 5, yy 6, yy 7, nn 8, nn 9] ?_
  refine yF 46 30 8 0 0 ?_
  refine nS (kq 47 (.load 3 (.tmp 46))) rfl rfl trivial (val_loadOwn bt.at_ (by kernel_rfl) rfl rfl) ?_
  refine yF 48 30 8 1 1 ?_
  refine nS (kq 49 (.load 3 (.tmp 48))) rfl rfl trivial (val_loadOwn bt.at_ (by kernel_rfl) rfl rfl) ?_
  refine yM 50 1 ?_
  refine yV (kq 51 (.convert 5 3 (.tmp 50))) (fun _ => val_convE (r := (mm : Int)) rfl ⟨_, Tryz.underlying5⟩ Tryz.underlying3 (wrap_i64 (by omega) (by omega))) ?_
  refine yV (kq 52 (.binOp .add 3 (.tmp 49) (.tmp 51) 3)) (fun _ => val_addi rfl rfl (by omega) (by omega)) ?_
  refine yV (kq 53 (.build 30 #[(0, (.tmp 47)), (1, (.tmp 52))])) (fun _ => val_build (zs := [.int .i64 0, .int .i64 0]) (ps := [(0, 1), (1, 1)]) (qs := [(0, [.int .i64 lo]), (1, [.int .i64 (hh + (mm : Int))])]) (cs := [.int .i64 lo, .int .i64 (hh + (mm : Int))]) (by kernel_rfl) (by kernel_rfl) (by exact ⟨rfl, ⟨_, rfl, rfl⟩, rfl, ⟨_, rfl, rfl⟩, trivial⟩) rfl) ?_
  refine aS (kq 12 (.alloc 30)) rfl rfl (a_alloc (cs := [.int .i64 0, .int .i64 0]) hF 6 (by kernel_rfl)) ?_
  rintro _ w12 ⟨Cw12, bw12, rfl, hs, b3, hF⟩
  refine ⟨trivial, ?_⟩
  replace hT := hT.t hs; replace hl := hl.t hs
  replace hd := hd.st hs (by first | decide | (simp <;> omega)) (by first | decide | (simp <;> omega))
  replace ha := ha.t hs; replace hq := hq.t hs; replace bw := bw.t hs; replace bt := bt.t hs; replace hf := hf.t hs
  refine aN (k0 (.store 30 (.tmp 12) (.tmp 53))) rfl (a_storeAll (vs := [.int .i64 lo, .int .i64 (hh + (mm : Int))]) (n := 2) rfl rfl (by kernel_rfl) rfl rfl (by intro u hu; simp only [List.mem_cons, List.not_mem_nil, or_false] at hu; rcases hu with rfl | rfl <;> first | rfl) b3 rfl) ?_
  rintro _ w13 ⟨rfl, hs, b3⟩
  refine ⟨trivial, ?_⟩
  replace hF := hF.st hs
  replace hT := hT.t hs; replace hl := hl.t hs
  replace hd := hd.st hs (by first | decide | (simp <;> omega)) (by first | decide | (simp <;> omega))
  replace ha := ha.t hs; replace hq := hq.t hs; replace bw := bw.t hs; replace bt := bt.t hs; replace hf := hf.t hs
  refine Sch.nil ?_
  refine run_sq ?_
  refine run_pl [nn 0, nn 1, yy 2, nn 3, yy 4, yy 5, yy 6, yy 7, yy 8] ?_
  have hK2 : TOK lo (hh + (mm : Int)) := ⟨by omega, by omega, by omega, by omega⟩
  refine nS (kq 55 (.load 28 (.tmp 7))) rfl rfl trivial (val_loadOwnAgg (n := 3) (vs := [.int .i64 pr, va, vd]) bw.at_ (by kernel_rfl) (by kernel_rfl) rfl rfl rfl) ?_
  refine nS (kq 56 (.load 30 (.tmp 12))) rfl rfl trivial (val_loadOwnAgg (n := 2) (vs := [.int .i64 lo, .int .i64 (hh + (mm : Int))]) b3.at_ (by kernel_rfl) (by kernel_rfl) rfl rfl rfl) ?_
  refine yM 57 9 ?_
  refine cS (kq 58 (.call { callee := .value (.func 23), args := #[(.tmp 55), (.tmp 56), (.tmp 57)], argTypes := #[28, 30, 3] })) rfl rfl (ent Tryz.call23 rfl) (fields_ok hF hW ha hq hK2 hpp) ?_
  rintro vw14 w14 ⟨u2, gl, ok2, rfl, hs, hg, hGl⟩
  refine ⟨trivial, ?_⟩
  replace hF := hF.st hs
  replace hT := hT.t hs; replace hl := hl.t hs
  replace hd := hd.st hs (by first | decide | (simp <;> omega)) (by first | decide | (simp <;> omega))
  replace ha := ha.t hs; replace hq := hq.t hs; replace bw := bw.t hs; replace bt := bt.t hs; replace hf := hf.t hs; replace b3 := b3.t hs
  refine yM 54 58 ?_
  refine yV (kq 59 (.extract (.tmp 54) 0)) (fun _ => val_extract rfl rfl) ?_
  refine yV (kq 60 (.extract (.tmp 54) 1)) (fun _ => val_extract rfl rfl) ?_
  refine yA 13 59 ?_
  refine yA 14 60 ?_
  refine Sch.nil ?_
  refine run_sq ?_
  refine run_sq ?_
  refine run_pl [yy 0, yy 1] ?_
  refine yM 61 11 ?_
  refine yV (kq 62 (.unOp .not 4 (.tmp 61))) (fun _ => val_not rfl) ?_
  refine Sch.nil ?_
  refine run_c 62 rfl (fun h62 => ?_) (fun h62 => ?_)
  ·
   refine run_sq ?_
   refine run_pl [yy 0] ?_
   refine yAc 4 (.bool true) ?_
   refine Sch.nil ?_
   refine run_ret1 (by kernel_rfl) Tryz.func7 Tryz.results7 rfl ?_
   exact ⟨rfl, hT.out1 (by decide)⟩
  ·
   obtain rfl : ok = true := by simpa using h62
   refine run_sk ?_
   refine run_sq ?_
   refine run_sq ?_
   refine run_pl [yy 0, yy 1, yy 2] ?_
   refine yM 63 10 ?_
   refine yS (kq 64 (.call { callee := .builtin .len, args := #[(.tmp 63)], argTypes := #[22] })) rfl rfl (fun w' hS => hf.lenV rfl Tryz.underlying22 w' ) ?_
   refine yV (kq 65 (.move (.const (.int .i64 0)))) (fun _ => val_move rfl) ?_
   refine Sch.nil ?_
   refine run_bk 0 ?_
   
   refine run_lp (ι := Nat × (Nat → Nat)) (I := fun x w => x.1 ≤ fl.length ∧ Lim w x.2 ∧ Stp [2, 3, 4, 5, 6, 7, 8, 9] w₀ (col1 C) w x.2 ∧ RV w (Mc x.2) fl u1 ∧ RV w (Mc x.2) gl u2) (e := fun x => [(9, .int .i64 p), (10, u1), (13, u2), (14, .bool ok2), (63, u1), (64, .int .i64 fl.length), (65, .int .i64 x.1)]) (m := fun x => fl.length - x.1) (x₀ := (0, Cw12)) (sr 9 (sr 10 (sr 13 (sr 14 (sr 63 (sr 64 (sr 65 (sub_nil _)))))))) ?_ ?_
   · exact ⟨Nat.zero_le _, hF, hT, hf, hg⟩
   intro ⟨i, C1⟩ w15 hI next
   obtain ⟨hi, hF, hT, hf, hg⟩ := hI
   try simp only at hi hF hT hf hg
   have next1 := next
   clear next
   show Run _ _ _ _ [(9, .int .i64 p), (10, u1), (13, u2), (14, .bool ok2), (63, u1), (64, .int .i64 fl.length), (65, .int .i64 i)] _ _
   have hle := hf.le
   refine run_sq ?_
   refine run_pl [yy 0] ?_
   refine yV (kq 66 (.binOp .lss 3 (.tmp 65) (.tmp 64) 3)) (fun _ => val_lss rfl rfl) ?_
   refine Sch.nil ?_
   refine run_sq ?_
   refine run_i 66 rfl (fun h66 => ?_) (fun h66 => ?_)
   ·
    have hil : i < fl.length := by omega
    have hqm := List.getElem_mem hil
    obtain ⟨q, hql, hqe⟩ := hFl.fin rfl _ hqm
    rw [hqe] at hqm
    refine run_sk ?_
    refine run_sq ?_
    refine run_bk 1 ?_
    refine run_sq ?_
    refine run_pl [yy 0, nn 1, yy 2] ?_
    refine iS (e := 3) (kq 67 (.indexAddr 22 (.tmp 63) (.tmp 65))) rfl rfl hf rfl (by kernel_rfl) rfl (by omega) (by omega) ?_
    intro b67 o67 h67
    try simp only [Int.toNat_natCast] at h67
    refine lN (kq 68 (.load 3 (.tmp 67))) rfl rfl trivial h67 (by kernel_rfl) rfl rfl ?_
    intro v68 g68
    first | (obtain rfl := rv_nat.1 g68) | (obtain rfl := rv_int.1 g68)
    rw [hqe]
    refine yA 16 68 ?_
    refine Sch.nil ?_
    refine run_sq ?_
    refine run_pl [yy 0, yy 1] ?_
    refine yM 69 9 ?_
    refine yA 17 69 ?_
    refine Sch.nil ?_
    refine run_sq ?_
    refine run_sq ?_
    refine run_pl [yy 0] ?_
    refine yAc 18 (.int .i64 0) ?_
    refine Sch.nil ?_
    refine run_bk 2 ?_
    
    refine run_lp (ι := Nat × (Nat → Nat)) (I := fun x w => x.1 ≤ q ∧ Lim w x.2 ∧ Stp [2, 3, 4, 5, 6, 7, 8, 9] w₀ (col1 C) w x.2 ∧ RV w (Mc x.2) fl u1 ∧ RV w (Mc x.2) gl u2) (e := fun x => [(9, .int .i64 p), (10, u1), (13, u2), (14, .bool ok2), (16, .int .i64 q), (17, .int .i64 ((p / 3 ^ x.1 : Nat) : Int)), (18, .int .i64 x.1), (63, u1), (64, .int .i64 fl.length), (65, .int .i64 i)]) (m := fun x => q - x.1) (x₀ := (0, C1)) (sr 9 (sr 10 (sr 13 (sr 14 (sr 16 (sub_cons 17 rfl (eq_int (by simp)) (sr 18 (sr 63 (sr 64 (sr 65 (sub_nil _))))))))))) ?_ ?_
    · exact ⟨Nat.zero_le _, hF, hT, hf, hg⟩
    intro ⟨k, C2⟩ w16 hI next
    obtain ⟨hkq, hF, hT, hf, hg⟩ := hI
    try simp only at hkq hF hT hf hg
    have next2 := next
    clear next
    show Run _ _ _ _ [(9, .int .i64 p), (10, u1), (13, u2), (14, .bool ok2), (16, .int .i64 q), (17, .int .i64 ((p / 3 ^ k : Nat) : Int)), (18, .int .i64 k), (63, u1), (64, .int .i64 fl.length), (65, .int .i64 i)] _ _
    have hle := hf.le
    have hpk : p / 3 ^ k ≤ p := Nat.div_le_self _ _
    refine run_sq ?_
    refine run_sq ?_
    refine run_pl [yy 0, yy 1, yy 2] ?_
    refine yM 70 18 ?_
    refine yM 71 16 ?_
    refine yV (kq 72 (.binOp .lss 3 (.tmp 70) (.tmp 71) 3)) (fun _ => val_lss rfl rfl) ?_
    refine Sch.nil ?_
    refine run_i 72 rfl (fun h72 => ?_) (fun h72 => ?_)
    ·
     refine run_sk ?_
     refine run_sq ?_
     refine run_bk 3 ?_
     refine run_pl [yy 0, yy 1, yy 2] ?_
     refine yM 75 17 ?_
     refine yV (kq 76 (.binOp .quo 3 (.tmp 75) (.const (.int .i64 3)) 3)) (fun _ => val_is (val_divi rfl rfl (Int.natCast_nonneg _) (by decide) (Int.le_trans (Int.ofNat_le.2 hpk) (by omega))) (show _ = Value.int .i64 ((p / 3 ^ (k + 1) : Nat) : Int) from by rw [Nat.pow_succ, ← Nat.div_div_eq_div_mul, Int.natCast_ediv]; rfl)) ?_
     refine yA 17 76 ?_
     refine Sch.nil ?_
     refine run_inBlock ?_
     refine run_pl [yy 0, yy 1, yy 2] ?_
     refine yM 73 18 ?_
     refine yV (kq 74 (.binOp .add 3 (.tmp 73) (.const (.int .i64 1)) 3)) (fun _ => val_addi rfl rfl (by omega) (by omega)) ?_
     refine yA 18 74 ?_
     refine Sch.nil ?_
     refine kp (sub_cons 9 rfl rfl (sub_cons 10 rfl rfl (sub_cons 13 rfl rfl (sub_cons 14 rfl rfl (sub_cons 16 rfl rfl (sub_cons 17 rfl rfl (sub_cons 18 rfl (eq_int (by simp)) (sub_cons 63 rfl rfl (sub_cons 64 rfl rfl (sub_cons 65 rfl rfl (sub_nil _))))))))))) (next2 (k + 1, C2) _ ⟨(by first | omega | (simp only; omega)), hF, hT, hf, hg⟩ (by first | omega | (simp only; omega)))
    ·
     obtain rfl : k = q := by omega
     refine run_ex 2 ?_
     refine run_sq ?_
     refine run_pl [yy 0, yy 1, yy 2] ?_
     refine yM 77 17 ?_
     refine yV (kq 78 (.binOp .rem 3 (.tmp 77) (.const (.int .i64 3)) 3)) (fun _ => val_is (val_modi rfl rfl (Int.natCast_nonneg _) (by decide)) (show _ = Value.int .i64 ((dg p k : Nat) : Int) from by unfold dg; rw [Int.natCast_emod]; rfl)) ?_
     refine yV (kq 79 (.binOp .eql 3 (.tmp 78) (.const (.int .i64 2)) 3)) (fun _ => val_is (val_eql rfl rfl) (show _ = Value.bool false from congrArg Value.bool (decide_eq_false (by have := hFl.dg hqm; omega)))) ?_
     refine Sch.nil ?_
     refine run_cF 79 ?_
     refine run_sk ?_
     refine run_inBlock ?_
     refine run_pl [yy 0, yy 1] ?_
     refine yV (kq 80 (.binOp .add 3 (.tmp 65) (.const (.int .i64 1)) 3)) (fun _ => val_addi rfl rfl (by omega) (by omega)) ?_
     refine yM 65 80 ?_
     refine Sch.nil ?_
     refine kp (sub_cons 9 rfl rfl (sub_cons 10 rfl rfl (sub_cons 13 rfl rfl (sub_cons 14 rfl rfl (sub_cons 63 rfl rfl (sub_cons 64 rfl rfl (sub_cons 65 rfl (eq_int (by simp)) (sub_nil _)))))))) (next1 (i + 1, C2) _ ⟨(by first | omega | (simp only; omega)), hF, hT, hf, hg⟩ (by first | omega | (simp only; omega)))
   ·
    have hil : i = fl.length := by omega
    refine run_ex 0 ?_
    refine run_sq ?_
    rcases Bool.eq_false_or_eq_true (ok2) with hk5 | hk5
    ·
     rw [hk5]
     refine run_pl [yy 0, yy 1, yy 2, yy 3, yy 4, yy 5, yy 6, yy 7, yy 8, yy 9] ?_
     refine yM 81 14 ?_
     refine yV (kq 82 (.unOp .not 4 (.tmp 81))) (fun _ => val_not rfl) ?_
     refine yM 83 82 ?_
     refine yMg 84 13 2 false ?_
     refine yS (kg 85 (.call { callee := .builtin .len, args := #[(.tmp 84)], argTypes := #[22] }) 2 false) rfl rfl (fun w' hS => hg.lenV rfl Tryz.underlying22 w' ) ?_
     refine yMg 86 10 2 false ?_
     refine yS (kg 87 (.call { callee := .builtin .len, args := #[(.tmp 86)], argTypes := #[22] }) 2 false) rfl rfl (fun w' hS => hf.lenV rfl Tryz.underlying22 w' ) ?_
     refine yV (kg 88 (.binOp .geq 3 (.tmp 85) (.tmp 87) 3) 2 false) (fun _ => val_is (val_geq rfl rfl) (show _ = Value.bool true from congrArg Value.bool (decide_eq_true (by have := FldS.higher hFl (by rw [hk5] at hGl; exact hGl) (by omega); omega)))) ?_
     refine yOf 89 83 88 ?_
     refine yA 4 89 ?_
     refine Sch.nil ?_
     refine run_ret1 (by kernel_rfl) Tryz.func7 Tryz.results7 rfl ?_
     exact ⟨rfl, hT.out1 (by decide)⟩
    ·
     rw [hk5]
     refine run_pl [yy 0, yy 1, yy 2, yy 3, yy 4, yy 5, yy 6, yy 7, yy 8, yy 9] ?_
     refine yM 81 14 ?_
     refine yV (kq 82 (.unOp .not 4 (.tmp 81))) (fun _ => val_not rfl) ?_
     refine yM 83 82 ?_
     refine pX 84 2 false ?_
     refine pX 85 2 false ?_
     refine pX 86 2 false ?_
     refine pX 87 2 false ?_
     refine pX 88 2 false ?_
     refine yOt 89 83 88 ?_
     refine yA 4 89 ?_
     refine Sch.nil ?_
     refine run_ret1 (by kernel_rfl) Tryz.func7 Tryz.results7 rfl ?_
     exact ⟨rfl, hT.out1 (by decide)⟩
end Go.Proofs.YtionghonhnedgaaGreat
