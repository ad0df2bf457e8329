/- Steps through functions of the program. -/
import Derived.Test.YtionghonhnedgaaGreatJV4
set_option linter.unusedVariables false
set_option linter.unusedSimpArgs false
set_option maxRecDepth 100000
set_option maxHeartbeats 4000000
namespace Go.Proofs.YtionghonhnedgaaGreat
open Go.K Go.K.Rep

namespace F12
noncomputable def c0 := bodyOf Tryz.f12
noncomputable def c8 := (cl (cl (cr (cr (cr c0)))))
noncomputable def c9 := (cr (cl (cr (cr (cr c0)))))
noncomputable def c19 := (cl (cl (cr (cl (cl c9)))))
noncomputable def c22 := (cl (cr (cr (cr (cr c0)))))
noncomputable def c23 := (cr (cr (cr (cr (cr c0)))))
noncomputable def c31 := (cl (cr (cl (cr (cr c23)))))
noncomputable def o12 := rops (cl (cr (cr (cr c23))))
end F12
/-- Weights, thresholds and a pattern are dealt. -/
theorem grey_any {w₀ : World} {C : Nat → Nat} {i b n : Nat} (hF : Lim w₀ C) (hi : i ≠ 0) (hd : DeckIs w₀ C i b) (h1 : 1 ≤ n) (h5 : n ≤ 5) : Calls Tryz.prog 12 #[.pointer (some ⟨b, 0, none⟩), .int .i64 n] w₀ (Ret fun v w' => ∃ (pr : Int) (ag df : List Int) (va vd : Value) (lo hh : Int) (p : Nat), v = .tuple #[.agg #[.int .i64 pr, va, vd], .agg #[.int .i64 lo, .int .i64 hh], .int .i64 p] ∧ DW n ag df ∧ -40 ≤ pr ∧ pr ≤ 10 ∧ TOK lo hh ∧ hh ≤ 32900 ∧ p < 3 ^ ag.length ∧ Stp [i] w₀ C w' C ∧ RV w' (Mc C) ag va ∧ RV w' (Mc C) df vd ∧ DeckIs w' C i b) := by
 have hF0 := hF
 have hbc := hd.colour
 replace hd := hd.col2 hi
 have hT := Stp.refl [2, 3, 4, 5, 6, 7, 8, 9] w₀ (col2 C i)
 replace hF := hF.col2 i
 refine calls_start (c := F12.c0) (N := 60) [.pointer (some ⟨b, 0, none⟩), .int .i64 n] Tryz.func12 (by kernel_rfl) (by kernel_rfl) (by kernel_rfl) ?_
 show Run _ _ _ _ [(0, .pointer (some ⟨b, 0, none⟩)), (1, .int .i64 n)] _ _
 refine run_sq ?_
 refine run_pl [nn 0, nn 1, yy 2] ?_
 refine aS (kq 4 (.alloc 28)) rfl rfl (a_alloc (cs := [.int .i64 0, .slice none 0 0, .slice none 0 0]) hF 4 (by kernel_rfl)) ?_
 rintro _ w1 ⟨Cw1, bw1, rfl, hs, hy, hF⟩
 refine ⟨trivial, ?_⟩
 replace hT := hT.t hs
 replace hd := hd.st hs (by first | decide | (simp <;> omega)) (by first | decide | (simp <;> omega))
 refine aS (kq 5 (.alloc 30)) rfl rfl (a_alloc (cs := [.int .i64 0, .int .i64 0]) hF 5 (by kernel_rfl)) ?_
 rintro _ w2 ⟨Cw2, bw2, rfl, hs, hz, hF⟩
 refine ⟨trivial, ?_⟩
 replace hT := hT.t hs
 replace hd := hd.st hs (by first | decide | (simp <;> omega)) (by first | decide | (simp <;> omega))
 replace hy := hy.t hs
 refine yAc 6 (.int .i64 0) ?_
 refine Sch.nil ?_
 refine run_sq ?_
 refine run_pl [yy 0, yy 1, nn 2, nn 3, nn 4] ?_
 refine yM 14 0 ?_
 refine yM 15 1 ?_
 refine cS (kq 16 (.call { callee := .value (.func 35), args := #[(.tmp 14), (.tmp 15)], argTypes := #[40, 3] })) rfl rfl (ent Tryz.call35 rfl) (weights_any (n := n) hF (by decide) hd h5) ?_
 rintro vw3 w3 ⟨pr, ag, df, va, vd, rfl, hDW, prl, prh, hs, ha, hq, hd⟩
 refine ⟨trivial, ?_⟩
 replace hF := hF.st hs
 replace hT := hT.t hs; replace hy := hy.t hs; replace hz := hz.t hs
 refine aS (kq 7 (.alloc 28)) rfl rfl (a_alloc (cs := [.int .i64 0, .slice none 0 0, .slice none 0 0]) hF 6 (by kernel_rfl)) ?_
 rintro _ w4 ⟨Cw4, bw4, rfl, hs, hw, hF⟩
 refine ⟨trivial, ?_⟩
 replace hT := hT.t hs
 replace hd := hd.st hs (by first | decide | (simp <;> omega)) (by first | decide | (simp <;> omega))
 replace hy := hy.t hs; replace hz := hz.t hs; replace ha := ha.t hs; replace hq := hq.t hs
 refine aN (k0 (.store 28 (.tmp 7) (.tmp 16))) rfl (a_storeAll (vs := [.int .i64 pr, va, vd]) (n := 3) rfl rfl (by kernel_rfl) rfl rfl (by intro u hu; simp only [List.mem_cons, List.not_mem_nil, or_false] at hu; rcases hu with rfl | rfl | rfl <;> first | rfl | exact (ha.one rfl).2 | exact (hq.one rfl).2) hw rfl) ?_
 rintro _ w5 ⟨rfl, hs, hw⟩
 refine ⟨trivial, ?_⟩
 replace hF := hF.st hs
 replace hT := hT.t hs
 replace hd := hd.st hs (by first | decide | (simp <;> omega)) (by first | decide | (simp <;> omega))
 replace hy := hy.t hs; replace hz := hz.t hs; replace ha := ha.t hs; replace hq := hq.t hs
 refine Sch.nil ?_
 refine run_sq ?_
 refine run_pl [yy 0] ?_
 refine yAc 8 (.int .i64 1) ?_
 refine Sch.nil ?_
 refine run_sq ?_
 refine run_sq ?_
 refine run_pl [yy 0] ?_
 refine yAc 9 (.int .i64 0) ?_
 refine Sch.nil ?_
 refine run_bk 0 ?_
 
 refine run_lp (ι := Nat × (Nat → Nat)) (I := fun x w => x.1 ≤ n ∧ Lim w x.2 ∧ Stp [2, 3, 4, 5, 6, 7, 8, 9] w₀ (col2 C i) w x.2 ∧ DeckIs w x.2 2 b ∧ OwnB w x.2 4 bw1 (.cells [.int .i64 0, .slice none 0 0, .slice none 0 0].toArray 28) ∧ OwnB w x.2 5 bw2 (.cells [.int .i64 0, .int .i64 0].toArray 30) ∧ OwnB w x.2 6 bw4 (.cells [.int .i64 pr, va, vd].toArray 28) ∧ RV w (Mc x.2) ag va ∧ RV w (Mc x.2) df vd) (e := fun x => [(0, .pointer (some ⟨b, 0, none⟩)), (1, .int .i64 n), (4, .pointer (some ⟨bw1, 0, none⟩)), (5, .pointer (some ⟨bw2, 0, none⟩)), (7, .pointer (some ⟨bw4, 0, none⟩)), (8, .int .i64 ((3 ^ x.1 : Nat) : Int)), (9, .int .i64 x.1)]) (m := fun x => n - x.1) (x₀ := (0, Cw4)) (sr 0 (sr 1 (sr 4 (sr 5 (sr 7 (sr 8 (sr 9 (sub_nil _)))))))) ?_ ?_
 · exact ⟨Nat.zero_le _, hF, hT, hd, hy, hz, hw, ha, hq⟩
 intro ⟨k, C1⟩ w6 hI next
 obtain ⟨hk, hF, hT, hd, hy, hz, hw, ha, hq⟩ := hI
 try simp only at hk hF hT hd hy hz hw ha hq
 have next1 := next
 clear next
 show Run _ _ _ _ [(0, .pointer (some ⟨b, 0, none⟩)), (1, .int .i64 n), (4, .pointer (some ⟨bw1, 0, none⟩)), (5, .pointer (some ⟨bw2, 0, none⟩)), (7, .pointer (some ⟨bw4, 0, none⟩)), (8, .int .i64 ((3 ^ k : Nat) : Int)), (9, .int .i64 k)] _ _
 have hp3 := pow3 (show k ≤ 5 by omega)
 have hp1 : 0 < 3 ^ k := Nat.pow_pos (by decide)
 obtain ⟨q, hq3⟩ : ∃ q, q = 3 ^ k := ⟨_, rfl⟩
 rw [← hq3] at hp3 hp1 ⊢
 refine run_sq ?_
 refine run_sq ?_
 refine run_pl [yy 0, yy 1, yy 2] ?_
 refine yM 17 9 ?_
 refine yM 18 1 ?_
 refine yV (kq 19 (.binOp .lss 3 (.tmp 17) (.tmp 18) 3)) (fun _ => val_lss rfl rfl) ?_
 refine Sch.nil ?_
 refine run_i 19 rfl (fun h19 => ?_) (fun h19 => ?_)
 ·
  have hkn : k < n := by omega
  refine run_sk ?_
  refine run_sq ?_
  refine run_bk 1 ?_
  refine run_pl [yy 0, yy 1, yy 2] ?_
  refine yM 22 8 ?_
  refine yV (kq 23 (.binOp .mul 3 (.tmp 22) (.const (.int .i64 3)) 3)) (fun _ => val_muli rfl rfl (by omega) (by omega)) ?_
  refine yA 8 23 ?_
  refine Sch.nil ?_
  refine run_inBlock ?_
  refine run_pl [yy 0, yy 1, yy 2] ?_
  refine yM 20 9 ?_
  refine yV (kq 21 (.binOp .add 3 (.tmp 20) (.const (.int .i64 1)) 3)) (fun _ => val_addi rfl rfl (by omega) (by omega)) ?_
  refine yA 9 21 ?_
  refine Sch.nil ?_
  refine kp (sub_cons 0 rfl rfl (sub_cons 1 rfl rfl (sub_cons 4 rfl rfl (sub_cons 5 rfl rfl (sub_cons 7 rfl rfl (sub_cons 8 rfl (eq_int (by simp only [Nat.pow_succ, ← hq3]; omega)) (sub_cons 9 rfl (eq_int (by simp)) (sub_nil _)))))))) (next1 (k + 1, C1) _ ⟨(by first | omega | (simp only; omega)), hF, hT, hd, hy, hz, hw, ha, hq⟩ (by first | omega | (simp only; omega)))
 ·
  have hkn : k = n := by omega
  refine run_ex 0 ?_
  refine run_sq ?_
  refine run_pl [yy 0, yy 1, nn 2, yy 3] ?_
  refine yM 24 0 ?_
  refine yM 25 8 ?_
  refine cS (kq 26 (.call { callee := .value (.func 11), args := #[(.tmp 24), (.tmp 25)], argTypes := #[40, 3] })) rfl rfl (ent Tryz.call11 rfl) (next_any (n := (q : Int)) hF (by decide) hd (by omega) (by omega)) ?_
  rintro vw7 w7 ⟨p, rfl, hp, hs, hd⟩
  refine ⟨trivial, ?_⟩
  replace hF := hF.st hs
  replace hT := hT.t hs; replace hy := hy.t hs; replace hz := hz.t hs; replace hw := hw.t hs; replace ha := ha.t hs; replace hq := hq.t hs
  have hpp : p < 3 ^ ag.length := by rw [hDW.la, ← hkn, ← hq3]; omega
  have hW := hDW.ok h1 h5 prl prh
  have hsb := hW.sc p (Nat.le_refl _)
  refine yA 10 26 ?_
  refine Sch.nil ?_
  refine run_sq ?_
  refine run_pl [nn 0, yy 1, nn 2, yy 3, yy 4, yy 5, yy 6, yy 7] ?_
  refine nS (kq 28 (.load 28 (.tmp 7))) rfl rfl trivial (val_loadOwnAgg (n := 3) (vs := [.int .i64 pr, va, vd]) hw.at_ (by kernel_rfl) (by kernel_rfl) rfl rfl rfl) ?_
  refine yM 29 10 ?_
  refine cS (kq 30 (.call { callee := .value (.func 36), args := #[(.tmp 28), (.tmp 29)], argTypes := #[28, 3] })) rfl rfl (ent Tryz.call36 rfl) (score25_ok hF hW ha hq hpp) ?_
  rintro vw8 w8 ⟨rfl, hs⟩
  refine ⟨trivial, ?_⟩
  replace hF := hF.st hs
  replace hT := hT.t hs
  replace hd := hd.st hs (by first | decide | (simp <;> omega)) (by first | decide | (simp <;> omega))
  replace hy := hy.t hs; replace hz := hz.t hs; replace hw := hw.t hs; replace ha := ha.t hs; replace hq := hq.t hs
  obtain ⟨s, hsc⟩ : ∃ s, s = scN pr ag df p ag.length := ⟨_, rfl⟩
  rw [← hsc] at hsb ⊢
  refine yM 27 30 ?_
  refine yV (kq 31 (.extract (.tmp 27) 0)) (fun _ => val_extract rfl rfl) ?_
  refine yV (kq 32 (.extract (.tmp 27) 1)) (fun _ => val_extract rfl rfl) ?_
  refine yA 11 31 ?_
  refine yA 12 32 ?_
  refine Sch.nil ?_
  refine run_sq ?_
  refine run_pl [yy 0, nn 1, nn 2, nn 3] ?_
  refine yM 33 0 ?_
  refine cS (kq 34 (.call { callee := .value (.func 37), args := #[(.tmp 33)], argTypes := #[40] })) rfl rfl (ent Tryz.call37 rfl) (thresholds_any hF (by decide) hd) ?_
  rintro vw9 w9 ⟨lo, hh, rfl, t1, t2, t3, t4, hs, hd⟩
  refine ⟨trivial, ?_⟩
  replace hF := hF.st hs
  replace hT := hT.t hs; replace hy := hy.t hs; replace hz := hz.t hs; replace hw := hw.t hs; replace ha := ha.t hs; replace hq := hq.t hs
  refine aS (kq 13 (.alloc 30)) rfl rfl (a_alloc (cs := [.int .i64 0, .int .i64 0]) hF 7 (by kernel_rfl)) ?_
  rintro _ w10 ⟨Cw10, bw10, rfl, hs, ht, hF⟩
  refine ⟨trivial, ?_⟩
  replace hT := hT.t hs
  replace hd := hd.st hs (by first | decide | (simp <;> omega)) (by first | decide | (simp <;> omega))
  replace hy := hy.t hs; replace hz := hz.t hs; replace hw := hw.t hs; replace ha := ha.t hs; replace hq := hq.t hs
  refine aN (k0 (.store 30 (.tmp 13) (.tmp 34))) rfl (a_storeAll (vs := [.int .i64 lo, .int .i64 hh]) (n := 2) rfl rfl (by kernel_rfl) rfl rfl (by intro u hu; simp only [List.mem_cons, List.not_mem_nil, or_false] at hu; rcases hu with rfl | rfl <;> rfl) ht rfl) ?_
  rintro _ w11 ⟨rfl, hs, ht⟩
  refine ⟨trivial, ?_⟩
  replace hF := hF.st hs
  replace hT := hT.t hs
  replace hd := hd.st hs (by first | decide | (simp <;> omega)) (by first | decide | (simp <;> omega))
  replace hy := hy.t hs; replace hz := hz.t hs; replace hw := hw.t hs; replace ha := ha.t hs; replace hq := hq.t hs
  refine Sch.nil ?_
  refine run_sq ?_
  refine run_sq ?_
  by_cases hA : s < 32768
  ·
   by_cases hB : -32768 < s
   ·
    refine run_pl [yy 0, yy 1, yy 2, yy 3, yy 4, yy 5, yy 6, yy 7, nn 8, yy 9, yy 10] ?_
    refine yM 35 11 ?_
    refine yV (kq 36 (.binOp .lss 3 (.tmp 35) (.const (.int .i64 32768)) 3)) (fun _ => val_T (val_lss rfl rfl) hA) ?_
    refine yM 37 36 ?_
    refine yMg 38 11 2 true ?_
    refine yV (kg 39 (.binOp .gtr 3 (.tmp 38) (.const (.int .i64 (-32768))) 3) 2 true) (fun _ => val_T (val_gtr rfl rfl) hB) ?_
    refine yAt 40 37 39 ?_
    refine yM 41 40 ?_
    refine yMg 42 0 6 true ?_
    refine cS (kg 43 (.call { callee := .value (.func 14), args := #[(.tmp 42), (.const (.int .i64 5))], argTypes := #[40, 3] }) 6 true) rfl rfl (ent Tryz.call14 rfl) (one_any hF (by decide) hd (by decide) (by decide)) ?_
    rintro vw12 w12 ⟨t, rfl, hs, hd⟩
    refine ⟨trivial, ?_⟩
    replace hF := hF.st hs
    replace hT := hT.t hs; replace hy := hy.t hs; replace hz := hz.t hs; replace hw := hw.t hs; replace ha := ha.t hs; replace hq := hq.t hs; replace ht := ht.t hs
    refine yV (kg 44 (.unOp .not 4 (.tmp 43)) 6 true) (fun _ => val_not rfl) ?_
    refine yAt 45 41 44 ?_
    refine Sch.nil ?_
    refine run_c 45 rfl (fun h45 => ?_) (fun h45 => ?_)
    ·
     refine run_pl [yy 0, yy 1, nn 2, yy 3, yy 4, yy 5, yy 6, nn 7, yy 8, yy 9, yy 10, nn 11] ?_
     refine yM 46 11 ?_
     refine yM 47 0 ?_
     refine cS (kq 48 (.call { callee := .value (.func 11), args := #[(.tmp 47), (.const (.int .i64 3))], argTypes := #[40, 3] })) rfl rfl (ent Tryz.call11 rfl) (next_any (n := 3) hF (by decide) hd (by omega) (by omega)) ?_
     rintro vw13 w13 ⟨z3, rfl, hz3, hs, hd⟩
     refine ⟨trivial, ?_⟩
     replace hF := hF.st hs
     replace hT := hT.t hs; replace hy := hy.t hs; replace hz := hz.t hs; replace hw := hw.t hs; replace ha := ha.t hs; replace hq := hq.t hs; replace ht := ht.t hs
     refine yV (kq 49 (.binOp .sub 3 (.tmp 46) (.tmp 48) 3)) (fun _ => val_subi rfl rfl (by omega) (by omega)) ?_
     refine yM 50 11 ?_
     refine yV (kq 51 (.binOp .add 3 (.tmp 50) (.const (.int .i64 1)) 3)) (fun _ => val_addi rfl rfl (by omega) (by omega)) ?_
     refine yM 52 0 ?_
     refine cS (kq 53 (.call { callee := .value (.func 11), args := #[(.tmp 52), (.const (.int .i64 60))], argTypes := #[40, 3] })) rfl rfl (ent Tryz.call11 rfl) (next_any (n := 60) hF (by decide) hd (by omega) (by omega)) ?_
     rintro vw14 w14 ⟨y3, rfl, hy3, hs, hd⟩
     refine ⟨trivial, ?_⟩
     replace hF := hF.st hs
     replace hT := hT.t hs; replace hy := hy.t hs; replace hz := hz.t hs; replace hw := hw.t hs; replace ha := ha.t hs; replace hq := hq.t hs; replace ht := ht.t hs
     refine yV (kq 54 (.binOp .add 3 (.tmp 51) (.tmp 53) 3)) (fun _ => val_addi rfl rfl (by omega) (by omega)) ?_
     refine yV (kq 55 (.call { callee := .builtin .max, args := #[(.const (.int .i64 1)), (.tmp 54)], argTypes := #[3, 3] })) (fun _ => val_max rfl rfl Tryz.underlying3) ?_
     refine yV (kq 56 (.build 30 #[(0, (.tmp 49)), (1, (.tmp 55))])) (fun _ => val_build (zs := [.int .i64 0, .int .i64 0]) (ps := [(0, 1), (1, 1)]) (qs := [(0, [.int .i64 (s - z3)]), (1, [.int .i64 (max 1 (s + 1 + y3))])]) (cs := [.int .i64 (s - z3), .int .i64 (max 1 (s + 1 + y3))]) (by kernel_rfl) (by kernel_rfl) (by exact ⟨rfl, ⟨_, rfl, rfl⟩, rfl, ⟨_, rfl, rfl⟩, trivial⟩) rfl) ?_
     refine aN (k0 (.store 30 (.tmp 13) (.tmp 56))) rfl (a_storeAll (vs := [.int .i64 (s - z3), .int .i64 (max 1 (s + 1 + y3))]) (n := 2) rfl rfl (by kernel_rfl) rfl rfl (by intro u hu; simp only [List.mem_cons, List.not_mem_nil, or_false] at hu; rcases hu with rfl | rfl <;> rfl) ht rfl) ?_
     rintro _ w15 ⟨rfl, hs, ht⟩
     refine ⟨trivial, ?_⟩
     replace hF := hF.st hs
     replace hT := hT.t hs
     replace hd := hd.st hs (by first | decide | (simp <;> omega)) (by first | decide | (simp <;> omega))
     replace hy := hy.t hs; replace hz := hz.t hs; replace hw := hw.t hs; replace ha := ha.t hs; replace hq := hq.t hs
     refine Sch.nil ?_
     refine run_sq ?_
     refine run_draw (id := 12) (ops := F12.o12) [4, 5] (Cw10) [yy 0, yy 1, yy 2, nn 3, nn 4, yy 5] Tryz_mixed (by kernel_rfl) (by kernel_rfl) (by kernel_rfl) ?_
     intro w16 hs
     replace hF := hF.st hs
     replace hT := hT.t hs
     replace hd := hd.st hs (by first | decide | (simp <;> omega)) (by first | decide | (simp <;> omega))
     replace hy := hy.t hs; replace hz := hz.t hs; replace hw := hw.t hs; replace ha := ha.t hs; replace hq := hq.t hs; replace ht := ht.t hs
     have hR := Stp.refl [4, 5] w16 (Cw10)
     refine yS (kq 57 (.load 28 (.tmp 7))) rfl rfl (fun w' hS => val_loadOwnAgg (n := 3) (vs := [.int .i64 pr, va, vd]) (hw.stay hS (by decide)) (by kernel_rfl) (by kernel_rfl) rfl rfl rfl) ?_
     refine yS (kq 58 (.load 30 (.tmp 13))) rfl rfl (fun w' hS => val_loadOwnAgg (n := 2) (vs := [.int .i64 (s - z3), .int .i64 (max 1 (s + 1 + y3))]) (ht.stay hS (by decide)) (by kernel_rfl) (by kernel_rfl) rfl rfl rfl) ?_
     refine yM 59 10 ?_
     refine aN (k0 (.store 28 (.tmp 4) (.tmp 57))) rfl (a_storeAll (vs := [.int .i64 pr, va, vd]) (n := 3) rfl rfl (by kernel_rfl) rfl rfl (by intro u hu; simp only [List.mem_cons, List.not_mem_nil, or_false] at hu; rcases hu with rfl | rfl | rfl <;> first | rfl | exact (ha.one rfl).2 | exact (hq.one rfl).2) hy rfl) ?_
     rintro _ w17 ⟨rfl, hs, hy⟩
     refine ⟨(hR.trans hs (by simp)).ext, ?_⟩
     replace hF := hF.st hs
     replace hT := hT.t hs
     replace hd := hd.st hs (by first | decide | (simp <;> omega)) (by first | decide | (simp <;> omega))
     replace hz := hz.t hs; replace hw := hw.t hs; replace ha := ha.t hs; replace hq := hq.t hs; replace ht := ht.t hs; replace hR := hR.t hs
     refine aN (k0 (.store 30 (.tmp 5) (.tmp 58))) rfl (a_storeAll (vs := [.int .i64 (s - z3), .int .i64 (max 1 (s + 1 + y3))]) (n := 2) rfl rfl (by kernel_rfl) rfl rfl (by intro u hu; simp only [List.mem_cons, List.not_mem_nil, or_false] at hu; rcases hu with rfl | rfl <;> rfl) hz rfl) ?_
     rintro _ w18 ⟨rfl, hs, hz⟩
     refine ⟨(hR.trans hs (by simp)).ext, ?_⟩
     replace hF := hF.st hs
     replace hT := hT.t hs
     replace hd := hd.st hs (by first | decide | (simp <;> omega)) (by first | decide | (simp <;> omega))
     replace hy := hy.t hs; replace hw := hw.t hs; replace ha := ha.t hs; replace hq := hq.t hs; replace ht := ht.t hs; replace hR := hR.t hs
     refine yA 6 59 ?_
     refine Sch.nil ?_
     refine run_retCCT (by kernel_rfl) Tryz.func12 Tryz.results12 rfl rfl rfl hy.at_ (by kernel_rfl) (by kernel_rfl) rfl hz.at_ (by kernel_rfl) (by kernel_rfl) rfl ?_
     exact ⟨pr, ag, df, va, vd, _, _, p, rfl, hDW, prl, prh, ⟨by omega, by omega, by omega, by omega⟩, by omega, hpp, hT.out2 (by decide), ha.out hT hF0 (Mc_col2 C i), hq.out hT hF0 (Mc_col2 C i), hd.out hT hF0 hbc⟩
    ·
     refine run_sk ?_
     refine run_sq ?_
     refine run_draw (id := 12) (ops := F12.o12) [4, 5] (Cw10) [yy 0, yy 1, yy 2, nn 3, nn 4, yy 5] Tryz_mixed (by kernel_rfl) (by kernel_rfl) (by kernel_rfl) ?_
     intro w19 hs
     replace hF := hF.st hs
     replace hT := hT.t hs
     replace hd := hd.st hs (by first | decide | (simp <;> omega)) (by first | decide | (simp <;> omega))
     replace hy := hy.t hs; replace hz := hz.t hs; replace hw := hw.t hs; replace ha := ha.t hs; replace hq := hq.t hs; replace ht := ht.t hs
     have hR := Stp.refl [4, 5] w19 (Cw10)
     refine yS (kq 57 (.load 28 (.tmp 7))) rfl rfl (fun w' hS => val_loadOwnAgg (n := 3) (vs := [.int .i64 pr, va, vd]) (hw.stay hS (by decide)) (by kernel_rfl) (by kernel_rfl) rfl rfl rfl) ?_
     refine yS (kq 58 (.load 30 (.tmp 13))) rfl rfl (fun w' hS => val_loadOwnAgg (n := 2) (vs := [.int .i64 lo, .int .i64 hh]) (ht.stay hS (by decide)) (by kernel_rfl) (by kernel_rfl) rfl rfl rfl) ?_
     refine yM 59 10 ?_
     refine aN (k0 (.store 28 (.tmp 4) (.tmp 57))) rfl (a_storeAll (vs := [.int .i64 pr, va, vd]) (n := 3) rfl rfl (by kernel_rfl) rfl rfl (by intro u hu; simp only [List.mem_cons, List.not_mem_nil, or_false] at hu; rcases hu with rfl | rfl | rfl <;> first | rfl | exact (ha.one rfl).2 | exact (hq.one rfl).2) hy rfl) ?_
     rintro _ w20 ⟨rfl, hs, hy⟩
     refine ⟨(hR.trans hs (by simp)).ext, ?_⟩
     replace hF := hF.st hs
     replace hT := hT.t hs
     replace hd := hd.st hs (by first | decide | (simp <;> omega)) (by first | decide | (simp <;> omega))
     replace hz := hz.t hs; replace hw := hw.t hs; replace ha := ha.t hs; replace hq := hq.t hs; replace ht := ht.t hs; replace hR := hR.t hs
     refine aN (k0 (.store 30 (.tmp 5) (.tmp 58))) rfl (a_storeAll (vs := [.int .i64 lo, .int .i64 hh]) (n := 2) rfl rfl (by kernel_rfl) rfl rfl (by intro u hu; simp only [List.mem_cons, List.not_mem_nil, or_false] at hu; rcases hu with rfl | rfl <;> rfl) hz rfl) ?_
     rintro _ w21 ⟨rfl, hs, hz⟩
     refine ⟨(hR.trans hs (by simp)).ext, ?_⟩
     replace hF := hF.st hs
     replace hT := hT.t hs
     replace hd := hd.st hs (by first | decide | (simp <;> omega)) (by first | decide | (simp <;> omega))
     replace hy := hy.t hs; replace hw := hw.t hs; replace ha := ha.t hs; replace hq := hq.t hs; replace ht := ht.t hs; replace hR := hR.t hs
     refine yA 6 59 ?_
     refine Sch.nil ?_
     refine run_retCCT (by kernel_rfl) Tryz.func12 Tryz.results12 rfl rfl rfl hy.at_ (by kernel_rfl) (by kernel_rfl) rfl hz.at_ (by kernel_rfl) (by kernel_rfl) rfl ?_
     exact ⟨pr, ag, df, va, vd, _, _, p, rfl, hDW, prl, prh, ⟨by omega, by omega, by omega, by omega⟩, by omega, hpp, hT.out2 (by decide), ha.out hT hF0 (Mc_col2 C i), hq.out hT hF0 (Mc_col2 C i), hd.out hT hF0 hbc⟩
   ·
    refine run_pl [yy 0, yy 1, yy 2, yy 3, yy 4, yy 5, yy 6, yy 7, nn 8, yy 9, yy 10] ?_
    refine yM 35 11 ?_
    refine yV (kq 36 (.binOp .lss 3 (.tmp 35) (.const (.int .i64 32768)) 3)) (fun _ => val_T (val_lss rfl rfl) hA) ?_
    refine yM 37 36 ?_
    refine yMg 38 11 2 true ?_
    refine yV (kg 39 (.binOp .gtr 3 (.tmp 38) (.const (.int .i64 (-32768))) 3) 2 true) (fun _ => val_F (val_gtr rfl rfl) hB) ?_
    refine yAt 40 37 39 ?_
    refine yM 41 40 ?_
    refine pX 42 6 true ?_
    refine pW (kg 43 (.call { callee := .value (.func 14), args := #[(.tmp 42), (.const (.int .i64 5))], argTypes := #[40, 3] }) 6 true) rfl rfl trivial ?_
    refine pX 44 6 true ?_
    refine yAf 45 41 44 ?_
    refine Sch.nil ?_
    refine run_cF 45 ?_
    refine run_sk ?_
    refine run_sq ?_
    refine run_draw (id := 12) (ops := F12.o12) [4, 5] (Cw10) [yy 0, yy 1, yy 2, nn 3, nn 4, yy 5] Tryz_mixed (by kernel_rfl) (by kernel_rfl) (by kernel_rfl) ?_
    intro w22 hs
    replace hF := hF.st hs
    replace hT := hT.t hs
    replace hd := hd.st hs (by first | decide | (simp <;> omega)) (by first | decide | (simp <;> omega))
    replace hy := hy.t hs; replace hz := hz.t hs; replace hw := hw.t hs; replace ha := ha.t hs; replace hq := hq.t hs; replace ht := ht.t hs
    have hR := Stp.refl [4, 5] w22 (Cw10)
    refine yS (kq 57 (.load 28 (.tmp 7))) rfl rfl (fun w' hS => val_loadOwnAgg (n := 3) (vs := [.int .i64 pr, va, vd]) (hw.stay hS (by decide)) (by kernel_rfl) (by kernel_rfl) rfl rfl rfl) ?_
    refine yS (kq 58 (.load 30 (.tmp 13))) rfl rfl (fun w' hS => val_loadOwnAgg (n := 2) (vs := [.int .i64 lo, .int .i64 hh]) (ht.stay hS (by decide)) (by kernel_rfl) (by kernel_rfl) rfl rfl rfl) ?_
    refine yM 59 10 ?_
    refine aN (k0 (.store 28 (.tmp 4) (.tmp 57))) rfl (a_storeAll (vs := [.int .i64 pr, va, vd]) (n := 3) rfl rfl (by kernel_rfl) rfl rfl (by intro u hu; simp only [List.mem_cons, List.not_mem_nil, or_false] at hu; rcases hu with rfl | rfl | rfl <;> first | rfl | exact (ha.one rfl).2 | exact (hq.one rfl).2) hy rfl) ?_
    rintro _ w23 ⟨rfl, hs, hy⟩
    refine ⟨(hR.trans hs (by simp)).ext, ?_⟩
    replace hF := hF.st hs
    replace hT := hT.t hs
    replace hd := hd.st hs (by first | decide | (simp <;> omega)) (by first | decide | (simp <;> omega))
    replace hz := hz.t hs; replace hw := hw.t hs; replace ha := ha.t hs; replace hq := hq.t hs; replace ht := ht.t hs; replace hR := hR.t hs
    refine aN (k0 (.store 30 (.tmp 5) (.tmp 58))) rfl (a_storeAll (vs := [.int .i64 lo, .int .i64 hh]) (n := 2) rfl rfl (by kernel_rfl) rfl rfl (by intro u hu; simp only [List.mem_cons, List.not_mem_nil, or_false] at hu; rcases hu with rfl | rfl <;> rfl) hz rfl) ?_
    rintro _ w24 ⟨rfl, hs, hz⟩
    refine ⟨(hR.trans hs (by simp)).ext, ?_⟩
    replace hF := hF.st hs
    replace hT := hT.t hs
    replace hd := hd.st hs (by first | decide | (simp <;> omega)) (by first | decide | (simp <;> omega))
    replace hy := hy.t hs; replace hw := hw.t hs; replace ha := ha.t hs; replace hq := hq.t hs; replace ht := ht.t hs; replace hR := hR.t hs
    refine yA 6 59 ?_
    refine Sch.nil ?_
    refine run_retCCT (by kernel_rfl) Tryz.func12 Tryz.results12 rfl rfl rfl hy.at_ (by kernel_rfl) (by kernel_rfl) rfl hz.at_ (by kernel_rfl) (by kernel_rfl) rfl ?_
    exact ⟨pr, ag, df, va, vd, _, _, p, rfl, hDW, prl, prh, ⟨by omega, by omega, by omega, by omega⟩, by omega, hpp, hT.out2 (by decide), ha.out hT hF0 (Mc_col2 C i), hq.out hT hF0 (Mc_col2 C i), hd.out hT hF0 hbc⟩
  ·
   refine run_pl [yy 0, yy 1, yy 2, yy 3, yy 4, yy 5, yy 6, yy 7, nn 8, yy 9, yy 10] ?_
   refine yM 35 11 ?_
   refine yV (kq 36 (.binOp .lss 3 (.tmp 35) (.const (.int .i64 32768)) 3)) (fun _ => val_F (val_lss rfl rfl) hA) ?_
   refine yM 37 36 ?_
   refine pX 38 2 true ?_
   refine pX 39 2 true ?_
   refine yAf 40 37 39 ?_
   refine yM 41 40 ?_
   refine pX 42 6 true ?_
   refine pW (kg 43 (.call { callee := .value (.func 14), args := #[(.tmp 42), (.const (.int .i64 5))], argTypes := #[40, 3] }) 6 true) rfl rfl trivial ?_
   refine pX 44 6 true ?_
   refine yAf 45 41 44 ?_
   refine Sch.nil ?_
   refine run_cF 45 ?_
   refine run_sk ?_
   refine run_sq ?_
   refine run_draw (id := 12) (ops := F12.o12) [4, 5] (Cw10) [yy 0, yy 1, yy 2, nn 3, nn 4, yy 5] Tryz_mixed (by kernel_rfl) (by kernel_rfl) (by kernel_rfl) ?_
   intro w25 hs
   replace hF := hF.st hs
   replace hT := hT.t hs
   replace hd := hd.st hs (by first | decide | (simp <;> omega)) (by first | decide | (simp <;> omega))
   replace hy := hy.t hs; replace hz := hz.t hs; replace hw := hw.t hs; replace ha := ha.t hs; replace hq := hq.t hs; replace ht := ht.t hs
   have hR := Stp.refl [4, 5] w25 (Cw10)
   refine yS (kq 57 (.load 28 (.tmp 7))) rfl rfl (fun w' hS => val_loadOwnAgg (n := 3) (vs := [.int .i64 pr, va, vd]) (hw.stay hS (by decide)) (by kernel_rfl) (by kernel_rfl) rfl rfl rfl) ?_
   refine yS (kq 58 (.load 30 (.tmp 13))) rfl rfl (fun w' hS => val_loadOwnAgg (n := 2) (vs := [.int .i64 lo, .int .i64 hh]) (ht.stay hS (by decide)) (by kernel_rfl) (by kernel_rfl) rfl rfl rfl) ?_
   refine yM 59 10 ?_
   refine aN (k0 (.store 28 (.tmp 4) (.tmp 57))) rfl (a_storeAll (vs := [.int .i64 pr, va, vd]) (n := 3) rfl rfl (by kernel_rfl) rfl rfl (by intro u hu; simp only [List.mem_cons, List.not_mem_nil, or_false] at hu; rcases hu with rfl | rfl | rfl <;> first | rfl | exact (ha.one rfl).2 | exact (hq.one rfl).2) hy rfl) ?_
   rintro _ w26 ⟨rfl, hs, hy⟩
   refine ⟨(hR.trans hs (by simp)).ext, ?_⟩
   replace hF := hF.st hs
   replace hT := hT.t hs
   replace hd := hd.st hs (by first | decide | (simp <;> omega)) (by first | decide | (simp <;> omega))
   replace hz := hz.t hs; replace hw := hw.t hs; replace ha := ha.t hs; replace hq := hq.t hs; replace ht := ht.t hs; replace hR := hR.t hs
   refine aN (k0 (.store 30 (.tmp 5) (.tmp 58))) rfl (a_storeAll (vs := [.int .i64 lo, .int .i64 hh]) (n := 2) rfl rfl (by kernel_rfl) rfl rfl (by intro u hu; simp only [List.mem_cons, List.not_mem_nil, or_false] at hu; rcases hu with rfl | rfl <;> rfl) hz rfl) ?_
   rintro _ w27 ⟨rfl, hs, hz⟩
   refine ⟨(hR.trans hs (by simp)).ext, ?_⟩
   replace hF := hF.st hs
   replace hT := hT.t hs
   replace hd := hd.st hs (by first | decide | (simp <;> omega)) (by first | decide | (simp <;> omega))
   replace hy := hy.t hs; replace hw := hw.t hs; replace ha := ha.t hs; replace hq := hq.t hs; replace ht := ht.t hs; replace hR := hR.t hs
   refine yA 6 59 ?_
   refine Sch.nil ?_
   refine run_retCCT (by kernel_rfl) Tryz.func12 Tryz.results12 rfl rfl rfl hy.at_ (by kernel_rfl) (by kernel_rfl) rfl hz.at_ (by kernel_rfl) (by kernel_rfl) rfl ?_
   exact ⟨pr, ag, df, va, vd, _, _, p, rfl, hDW, prl, prh, ⟨by omega, by omega, by omega, by omega⟩, by omega, hpp, hT.out2 (by decide), ha.out hT hF0 (Mc_col2 C i), hq.out hT hF0 (Mc_col2 C i), hd.out hT hF0 hbc⟩
end Go.Proofs.YtionghonhnedgaaGreat
