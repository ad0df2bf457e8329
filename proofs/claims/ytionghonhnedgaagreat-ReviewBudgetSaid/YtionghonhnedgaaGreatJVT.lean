/- Steps through functions of the program. -/
import Derived.Test.YtionghonhnedgaaGreatJVP
import Derived.Test.YtionghonhnedgaaGreatL2
import Derived.Test.YtionghonhnedgaaGreatJVW
set_option linter.unusedVariables false
set_option linter.unusedSimpArgs false
set_option maxRecDepth 100000
set_option maxHeartbeats 4000000
namespace Go.Proofs.YtionghonhnedgaaGreat
open Go.K Go.K.Rep

namespace F4
noncomputable def c0 := bodyOf Tryz.f4
noncomputable def c7 := (cl (cl (cr (cl (cr c0)))))
noncomputable def c15 := (cl (cr (cr (cr (cr c0)))))
noncomputable def c22 := (cr (cr (cr (cr (cr c0)))))
noncomputable def c28 := (cl (cl (cl (cr (cl c22)))))
noncomputable def c33 := (cr (cl (cl (cr (cl c22)))))
noncomputable def c40 := (cl (cr (cr (cl (cl c33)))))
noncomputable def c41 := (cr (cr (cr (cl (cl c33)))))
noncomputable def o13 := rops (cl c41)
noncomputable def c54 := (cl (cr (cr (cr (cr c41)))))
noncomputable def c61 := (cr (cr (cr (cr (cr c41)))))
noncomputable def c69 := (cl (cr (cl (cr (cr c61)))))
noncomputable def c78 := (cl (cl (cr (cr (cl c69)))))
noncomputable def c85 := (cl (cr (cr (cr (cr c61)))))
end F4
/-- Budget and shown characters together stay the same, nothing is shown twice, and asking again costs nothing. -/
theorem reviewBudget_ok {w₀ : World} {C : Nat → Nat} {l : List Int} {vl : Value} (hF : Lim w₀ C) (hl : RV w₀ (Mc C) l vl) : Calls Tryz.prog 4 #[vl] w₀ (Ret fun v w' => v = .bool true ∧ Stp [] w₀ C w' C) := by
 have hF0 := hF
 have hT := Stp.refl [2, 3, 4, 5, 6, 7, 8, 9] w₀ (col1 C)
 replace hF := hF.col1
 replace hl : RV w₀ (Mc (col1 C)) l vl := by rw [Mc_col1]; exact hl
 refine calls_start (c := F4.c0) (N := 146) [vl] Tryz.func4 (by kernel_rfl) (by kernel_rfl) (by kernel_rfl) ?_
 show Run _ _ _ _ [(0, vl)] _ _
 refine run_sq ?_
 refine run_pl [yy 0] ?_
 refine yAc 2 (.bool false) ?_
 refine Sch.nil ?_
 refine run_sq ?_
 refine run_sq ?_
 refine run_pl [nn 0, yy 1, yy 2, yy 3, nn 4, yy 5, yy 6] ?_
 refine cS (kq 23 (.call { callee := .value (.func 8), args := #[], argTypes := #[] })) rfl rfl (ent Tryz.call8 rfl) (awake_ok hF) ?_
 rintro vw1 w1 ⟨rfl, hs⟩
 refine ⟨trivial, ?_⟩
 replace hF := hF.st hs
 replace hT := hT.t hs; replace hl := hl.t hs
 refine yV (kq 24 (.unOp .not 4 (.tmp 23))) (fun _ => val_not rfl) ?_
 refine yM 25 24 ?_
 refine yMg 26 0 2 false ?_
 refine cS (kg 27 (.call { callee := .value (.func 9), args := #[(.tmp 26)], argTypes := #[22] }) 2 false) rfl rfl (ent Tryz.call9 rfl) (few_any hl) ?_
 rintro vw2 w2 ⟨rfl, rfl⟩
 refine ⟨trivial, ?_⟩
 refine yV (kg 28 (.unOp .not 4 (.tmp 27)) 2 false) (fun _ => val_notd rfl) ?_
 refine yOf 29 25 28 ?_
 refine Sch.nil ?_
 refine run_i 29 rfl (fun h29 => ?_) (fun h29 => ?_)
 ·
  refine run_sq ?_
  refine run_pl [nn 0, yy 1] ?_
  refine cS (kq 30 (.call { callee := .value (.func 8), args := #[], argTypes := #[] })) rfl rfl (ent Tryz.call8 rfl) (awake_ok hF) ?_
  rintro vw3 w3 ⟨rfl, hs⟩
  refine ⟨trivial, ?_⟩
  replace hF := hF.st hs
  replace hT := hT.t hs; replace hl := hl.t hs
  refine yA 2 30 ?_
  refine Sch.nil ?_
  refine run_ret1 (by kernel_rfl) Tryz.func4 Tryz.results4 rfl ?_
  exact ⟨rfl, hT.out1 (by decide)⟩
 ·
  refine run_sk ?_
  refine run_sq ?_
  refine run_pl [yy 0, nn 1, yy 2] ?_
  refine yM 31 0 ?_
  refine cS (kq 32 (.call { callee := .value (.func 10), args := #[(.tmp 31)], argTypes := #[22] })) rfl rfl (ent Tryz.call10 rfl) (new_any hF hl) ?_
  rintro vw4 w4 ⟨Cd, bd, rfl, hs, hF, hd⟩
  refine ⟨trivial, ?_⟩
  replace hT := hT.t hs; replace hl := hl.t hs
  refine yA 3 32 ?_
  refine Sch.nil ?_
  refine run_sq ?_
  refine run_pl [nn 0, yy 1, yy 2, yy 3, nn 4, nn 5, yy 6] ?_
  refine cS (kq 34 (.call { callee := .value (.func 18), args := #[(.const (.int .i64 400))], argTypes := #[3] })) rfl rfl (ent Tryz.call18 rfl) (start_ok (bud := 400) hF (by decide) (by decide)) ?_
  rintro vw5 w5 ⟨rfl, hs⟩
  refine ⟨trivial, ?_⟩
  replace hF := hF.st hs
  replace hT := hT.t hs; replace hl := hl.t hs
  replace hd := hd.st hs (by first | decide | (simp <;> omega)) (by first | decide | (simp <;> omega))
  refine yM 33 34 ?_
  refine yV (kq 35 (.extract (.tmp 33) 0)) (fun _ => val_extract rfl rfl) ?_
  refine yV (kq 36 (.extract (.tmp 33) 1)) (fun _ => val_extract rfl rfl) ?_
  refine aS (kq 4 (.alloc 26)) rfl rfl (a_alloc (cs := [.int .i64 0, .slice none 0 0, .slice none 0 0]) hF 8 (by kernel_rfl)) ?_
  rintro _ w6 ⟨Cw6, bw6, rfl, hs, bx, hF⟩
  refine ⟨trivial, ?_⟩
  replace hT := hT.t hs; replace hl := hl.t hs
  replace hd := hd.st hs (by first | decide | (simp <;> omega)) (by first | decide | (simp <;> omega))
  refine aN (k0 (.store 26 (.tmp 4) (.tmp 35))) rfl (a_storeAll (vs := [.int .i64 400, .slice none 0 0, .slice none 0 0]) (n := 3) rfl rfl (by kernel_rfl) rfl rfl (by intro u hu; simp only [List.mem_cons, List.not_mem_nil, or_false] at hu; rcases hu with rfl | rfl | rfl <;> first | rfl) bx rfl) ?_
  rintro _ w7 ⟨rfl, hs, bx⟩
  refine ⟨trivial, ?_⟩
  replace hF := hF.st hs
  replace hT := hT.t hs; replace hl := hl.t hs
  replace hd := hd.st hs (by first | decide | (simp <;> omega)) (by first | decide | (simp <;> omega))
  refine yA 5 36 ?_
  refine Sch.nil ?_
  refine run_sq ?_
  refine run_sq ?_
  refine run_pl [yy 0, yy 1] ?_
  refine yM 37 5 ?_
  refine yV (kq 38 (.binOp .neq 52 (.tmp 37) (.const (.int .i64 0)) 52)) (fun _ => val_is (val_neq rfl rfl) (show _ = Value.bool false from congrArg Value.bool (decide_eq_false (by decide)))) ?_
  refine Sch.nil ?_
  refine run_cF 38 ?_
  refine run_sk ?_
  refine run_sq ?_
  refine run_sq ?_
  refine run_pl [yy 0] ?_
  refine yAc 6 (.int .i64 0) ?_
  refine Sch.nil ?_
  refine run_bk 0 ?_
  
  refine run_lp (ι := Nat × Int × (List Shw) × Value × Value × (Nat → Nat)) (I := fun x w => x.1 ≤ 6 ∧ ROK x.2.1 x.2.2.1 [] ∧ x.2.1 + sumCh x.2.2.1 = 400 ∧ x.2.2.1.length ≤ 6 * x.1 ∧ Lim w x.2.2.2.2.2 ∧ Stp [2, 3, 4, 5, 6, 7, 8, 9] w₀ (col1 C) w x.2.2.2.2.2 ∧ DeckIs w x.2.2.2.2.2 3 bd ∧ OwnB w x.2.2.2.2.2 8 bw6 (.cells [.int .i64 x.2.1, x.2.2.2.1, x.2.2.2.2.1].toArray 26) ∧ RV w (Mc x.2.2.2.2.2) x.2.2.1 x.2.2.2.1 ∧ RV w (Mc x.2.2.2.2.2) ([] : List Dcs) x.2.2.2.2.1) (e := fun x => [(3, .pointer (some ⟨bd, 0, none⟩)), (4, .pointer (some ⟨bw6, 0, none⟩)), (6, .int .i64 x.1)]) (m := fun x => 6 - x.1) (x₀ := (0, 400, [], .slice none 0 0, .slice none 0 0, Cw6)) (sr 3 (sr 4 (sr 6 (sub_nil _)))) ?_ ?_
  · exact ⟨Nat.zero_le _, start_R (b := 400) (by decide) (by decide), rfl, Nat.zero_le _, hF, hT, hd, bx, rv_nil, rv_nil⟩
  intro ⟨k, bud, sh, vs, vz, C1⟩ w8 hI next
  obtain ⟨hk, hR, hsum, hln, hF, hT, hd, bx, hsh, hds⟩ := hI
  try simp only at hk hR hsum hln hF hT hd bx hsh hds
  have next1 := next
  clear next
  show Run _ _ _ _ [(3, .pointer (some ⟨bd, 0, none⟩)), (4, .pointer (some ⟨bw6, 0, none⟩)), (6, .int .i64 k)] _ _
  refine run_sq ?_
  refine run_sq ?_
  refine run_pl [yy 0, yy 1] ?_
  refine yM 39 6 ?_
  refine yV (kq 40 (.binOp .lss 3 (.tmp 39) (.const (.int .i64 6)) 3)) (fun _ => val_lss rfl rfl) ?_
  refine Sch.nil ?_
  refine run_i 40 rfl (fun h40 => ?_) (fun h40 => ?_)
  ·
   have hk6 : k < 6 := by omega
   refine run_sk ?_
   refine run_sq ?_
   refine run_bk 1 ?_
   refine run_sq ?_
   refine run_pl [yy 0, nn 1, yy 2, yy 3] ?_
   refine yM 43 3 ?_
   refine cS (kq 44 (.call { callee := .value (.func 11), args := #[(.tmp 43), (.const (.int .i64 3))], argTypes := #[40, 3] })) rfl rfl (ent Tryz.call11 rfl) (next_any (n := 3) hF (by decide) hd (by omega) (by omega)) ?_
   rintro vw9 w9 ⟨kn, rfl, hkn, hs, hd⟩
   refine ⟨trivial, ?_⟩
   replace hF := hF.st hs
   replace hT := hT.t hs; replace bx := bx.t hs; replace hsh := hsh.t hs; replace hds := hds.t hs
   obtain ⟨n, hn⟩ : ∃ n, n = kn + 1 := ⟨_, rfl⟩
   refine yV (kq 45 (.binOp .add 3 (.const (.int .i64 1)) (.tmp 44) 3)) (fun _ => val_is (val_addi rfl rfl (by omega) (by omega)) (show _ = Value.int .i64 ((n : Nat) : Int) from congrArg (Value.int .i64) (by omega))) ?_
   refine yA 7 45 ?_
   refine Sch.nil ?_
   refine run_sq ?_
   refine run_pl [yy 0, yy 1, nn 2, yy 3, yy 4, yy 5, yy 6, nn 7, nn 8, nn 9, nn 10, yy 11] ?_
   refine yM 47 3 ?_
   refine yM 48 7 ?_
   refine cS (kq 49 (.call { callee := .value (.func 12), args := #[(.tmp 47), (.tmp 48)], argTypes := #[40, 3] })) rfl rfl (ent Tryz.call12 rfl) (grey_any (n := n) hF (by decide) hd (by omega) (by omega)) ?_
   rintro vw10 w10 ⟨pr, ag, df, va, vd, lo, hh, p, rfl, hDW, prl, prh, hK, hh9, hpp, hs, ha, hq, hd⟩
   refine ⟨trivial, ?_⟩
   replace hF := hF.st hs
   replace hT := hT.t hs; replace bx := bx.t hs; replace hsh := hsh.t hs; replace hds := hds.t hs
   have hW := hDW.ok (by omega) (by omega) prl prh
   have hla := hDW.la
   have hld := hDW.ld
   have hp3 := pow3 hW.l5
   obtain ⟨hk1, hk2, hk3, hk4⟩ := id hK
   refine yM 46 49 ?_
   refine yV (kq 50 (.extract (.tmp 46) 0)) (fun _ => val_extract rfl rfl) ?_
   refine yV (kq 51 (.extract (.tmp 46) 1)) (fun _ => val_extract rfl rfl) ?_
   refine yV (kq 52 (.extract (.tmp 46) 2)) (fun _ => val_extract rfl rfl) ?_
   refine aS (kq 8 (.alloc 28)) rfl rfl (a_alloc (cs := [.int .i64 0, .slice none 0 0, .slice none 0 0]) hF 4 (by kernel_rfl)) ?_
   rintro _ w11 ⟨Cw11, bw11, rfl, hs, bw, hF⟩
   refine ⟨trivial, ?_⟩
   replace hT := hT.t hs
   replace hd := hd.st hs (by first | decide | (simp <;> omega)) (by first | decide | (simp <;> omega))
   replace bx := bx.t hs; replace hsh := hsh.t hs; replace hds := hds.t hs; replace ha := ha.t hs; replace hq := hq.t hs
   refine aS (kq 9 (.alloc 30)) rfl rfl (a_alloc (cs := [.int .i64 0, .int .i64 0]) hF 5 (by kernel_rfl)) ?_
   rintro _ w12 ⟨Cw12, bw12, rfl, hs, bt, hF⟩
   refine ⟨trivial, ?_⟩
   replace hT := hT.t hs
   replace hd := hd.st hs (by first | decide | (simp <;> omega)) (by first | decide | (simp <;> omega))
   replace bx := bx.t hs; replace hsh := hsh.t hs; replace hds := hds.t hs; replace ha := ha.t hs; replace hq := hq.t hs; replace bw := bw.t hs
   refine aN (k0 (.store 28 (.tmp 8) (.tmp 50))) rfl (a_storeAll (vs := [.int .i64 pr, va, vd]) (n := 3) rfl rfl (by kernel_rfl) rfl rfl (by intro u hu; simp only [List.mem_cons, List.not_mem_nil, or_false] at hu; rcases hu with rfl | rfl | rfl <;> first | rfl | exact (ha.one rfl).2 | exact (hq.one rfl).2) bw rfl) ?_
   rintro _ w13 ⟨rfl, hs, bw⟩
   refine ⟨trivial, ?_⟩
   replace hF := hF.st hs
   replace hT := hT.t hs
   replace hd := hd.st hs (by first | decide | (simp <;> omega)) (by first | decide | (simp <;> omega))
   replace bx := bx.t hs; replace hsh := hsh.t hs; replace hds := hds.t hs; replace ha := ha.t hs; replace hq := hq.t hs; replace bt := bt.t hs
   refine aN (k0 (.store 30 (.tmp 9) (.tmp 51))) rfl (a_storeAll (vs := [.int .i64 lo, .int .i64 hh]) (n := 2) rfl rfl (by kernel_rfl) rfl rfl (by intro u hu; simp only [List.mem_cons, List.not_mem_nil, or_false] at hu; rcases hu with rfl | rfl <;> first | rfl) bt rfl) ?_
   rintro _ w14 ⟨rfl, hs, bt⟩
   refine ⟨trivial, ?_⟩
   replace hF := hF.st hs
   replace hT := hT.t hs
   replace hd := hd.st hs (by first | decide | (simp <;> omega)) (by first | decide | (simp <;> omega))
   replace bx := bx.t hs; replace hsh := hsh.t hs; replace hds := hds.t hs; replace ha := ha.t hs; replace hq := hq.t hs; replace bw := bw.t hs
   refine yA 10 52 ?_
   refine Sch.nil ?_
   refine run_sq ?_
   refine run_pl [yy 0, nn 1, yy 2, yy 3, yy 4, nn 5, yy 6, yy 7, yy 8, yy 9, nn 10, nn 11] ?_
   refine yM 53 3 ?_
   refine cS (kq 54 (.call { callee := .value (.func 11), args := #[(.tmp 53), (.const (.int .i64 2))], argTypes := #[40, 3] })) rfl rfl (ent Tryz.call11 rfl) (next_any (n := 2) hF (by decide) hd (by omega) (by omega)) ?_
   rintro vw15 w15 ⟨ka, rfl, hka, hs, hd⟩
   refine ⟨trivial, ?_⟩
   replace hF := hF.st hs
   replace hT := hT.t hs; replace bx := bx.t hs; replace hsh := hsh.t hs; replace hds := hds.t hs; replace ha := ha.t hs; replace hq := hq.t hs; replace bw := bw.t hs; replace bt := bt.t hs
   refine yV (kq 55 (.binOp .add 3 (.const (.int .i64 1)) (.tmp 54) 3)) (fun _ => val_addi rfl rfl (by omega) (by omega)) ?_
   refine yV (kq 56 (.build 32 #[(1, (.tmp 55))])) (fun _ => val_build (zs := [.int .i64 0, .int .i64 0]) (ps := [(0, 1), (1, 1)]) (qs := [(1, [.int .i64 (1 + (ka : Int))])]) (cs := [.int .i64 0, .int .i64 (1 + (ka : Int))]) (by kernel_rfl) (by kernel_rfl) (by exact ⟨rfl, ⟨_, rfl, rfl⟩, trivial⟩) rfl) ?_
   refine yM 57 3 ?_
   refine cS (kq 58 (.call { callee := .value (.func 11), args := #[(.tmp 57), (.const (.int .i64 2))], argTypes := #[40, 3] })) rfl rfl (ent Tryz.call11 rfl) (next_any (n := 2) hF (by decide) hd (by omega) (by omega)) ?_
   rintro vw16 w16 ⟨kb, rfl, hkb, hs, hd⟩
   refine ⟨trivial, ?_⟩
   replace hF := hF.st hs
   replace hT := hT.t hs; replace bx := bx.t hs; replace hsh := hsh.t hs; replace hds := hds.t hs; replace ha := ha.t hs; replace hq := hq.t hs; replace bw := bw.t hs; replace bt := bt.t hs
   refine yV (kq 59 (.binOp .add 3 (.const (.int .i64 1)) (.tmp 58) 3)) (fun _ => val_addi rfl rfl (by omega) (by omega)) ?_
   refine yV (kq 60 (.build 32 #[(0, (.const (.int .i64 1))), (1, (.tmp 59))])) (fun _ => val_build (zs := [.int .i64 0, .int .i64 0]) (ps := [(0, 1), (1, 1)]) (qs := [(0, [.int .i64 1]), (1, [.int .i64 (1 + (kb : Int))])]) (cs := [.int .i64 1, .int .i64 (1 + (kb : Int))]) (by kernel_rfl) (by kernel_rfl) (by exact ⟨rfl, ⟨_, rfl, rfl⟩, rfl, ⟨_, rfl, rfl⟩, trivial⟩) rfl) ?_
   refine yM 61 10 ?_
   refine yV (kq 62 (.build 34 #[(0, (.tmp 56)), (1, (.tmp 60)), (2, (.tmp 61))])) (fun _ => val_build (zs := [.int .i64 0, .int .i64 0, .int .i64 0, .int .i64 0, .int .i64 0, .int .i64 0]) (ps := [(0, 2), (2, 2), (4, 1), (5, 1)]) (qs := [(0, [.int .i64 0, .int .i64 (1 + (ka : Int))]), (1, [.int .i64 1, .int .i64 (1 + (kb : Int))]), (2, [.int .i64 p])]) (cs := [.int .i64 0, .int .i64 (1 + (ka : Int)), .int .i64 1, .int .i64 (1 + (kb : Int)), .int .i64 p, .int .i64 0]) (by kernel_rfl) (by kernel_rfl) (by exact ⟨rfl, ⟨_, rfl, rfl⟩, rfl, ⟨_, rfl, rfl⟩, rfl, ⟨_, rfl, rfl⟩, trivial⟩) rfl) ?_
   refine aS (kq 11 (.alloc 34)) rfl rfl (a_alloc (cs := [.int .i64 0, .int .i64 0, .int .i64 0, .int .i64 0, .int .i64 0, .int .i64 0]) hF 9 (by kernel_rfl)) ?_
   rintro _ w17 ⟨Cw17, bw17, rfl, hs, bc, hF⟩
   refine ⟨trivial, ?_⟩
   replace hT := hT.t hs
   replace hd := hd.st hs (by first | decide | (simp <;> omega)) (by first | decide | (simp <;> omega))
   replace bx := bx.t hs; replace hsh := hsh.t hs; replace hds := hds.t hs; replace ha := ha.t hs; replace hq := hq.t hs; replace bw := bw.t hs; replace bt := bt.t hs
   refine aN (k0 (.store 34 (.tmp 11) (.tmp 62))) rfl (a_storeAll (vs := [.int .i64 0, .int .i64 (1 + (ka : Int)), .int .i64 1, .int .i64 (1 + (kb : Int)), .int .i64 p, .int .i64 0]) (n := 6) rfl rfl (by kernel_rfl) rfl rfl (by intro u hu; simp only [List.mem_cons, List.not_mem_nil, or_false] at hu; rcases hu with rfl | rfl | rfl | rfl | rfl | rfl <;> first | rfl) bc rfl) ?_
   rintro _ w18 ⟨rfl, hs, bc⟩
   refine ⟨trivial, ?_⟩
   replace hF := hF.st hs
   replace hT := hT.t hs
   replace hd := hd.st hs (by first | decide | (simp <;> omega)) (by first | decide | (simp <;> omega))
   replace bx := bx.t hs; replace hsh := hsh.t hs; replace hds := hds.t hs; replace ha := ha.t hs; replace hq := hq.t hs; replace bw := bw.t hs; replace bt := bt.t hs
   refine Sch.nil ?_
   refine run_sq ?_
   refine run_join (ι := Int × (List ByteArray) × Value × Int × (List ByteArray) × Value × Nat × Nat × (Nat → Nat)) (k := [.code (K.cr F4.c41), .inBlock 1, .code (K.cr F4.c33), .inLoop (K.cl (K.cl (K.cr (K.cl F4.c22)))), .inBlock 0, .code (K.cr F4.c22)]) (I := fun x w => 1 ≤ x.1 ∧ x.1 ≤ 2 ∧ x.2.1.length = n ∧ (∀ s ∈ x.2.1, s.size ≤ 9) ∧ 1 ≤ x.2.2.2.1 ∧ x.2.2.2.1 ≤ 2 ∧ x.2.2.2.2.1.length = n ∧ (∀ s ∈ x.2.2.2.2.1, s.size ≤ 9) ∧ Lim w x.2.2.2.2.2.2.2.2 ∧ Stp [2, 3, 4, 5, 6, 7, 8, 9] w₀ (col1 C) w x.2.2.2.2.2.2.2.2 ∧ DeckIs w x.2.2.2.2.2.2.2.2 3 bd ∧ OwnB w x.2.2.2.2.2.2.2.2 8 bw6 (.cells [.int .i64 bud, vs, vz].toArray 26) ∧ RV w (Mc x.2.2.2.2.2.2.2.2) sh vs ∧ RV w (Mc x.2.2.2.2.2.2.2.2) ([] : List Dcs) vz ∧ RV w (Mc x.2.2.2.2.2.2.2.2) ag va ∧ RV w (Mc x.2.2.2.2.2.2.2.2) df vd ∧ OwnB w x.2.2.2.2.2.2.2.2 4 bw11 (.cells [.int .i64 pr, va, vd].toArray 28) ∧ OwnB w x.2.2.2.2.2.2.2.2 5 bw12 (.cells [.int .i64 lo, .int .i64 hh].toArray 30) ∧ OwnB w x.2.2.2.2.2.2.2.2 9 bw17 (.cells [.int .i64 0, .int .i64 (1 + (ka : Int)), .int .i64 1, .int .i64 (1 + (kb : Int)), .int .i64 p, .int .i64 0].toArray 34) ∧ OwnB w x.2.2.2.2.2.2.2.2 6 x.2.2.2.2.2.2.1 (.cells [.int .i64 (1 + (ka : Int)), .int .i64 x.1, x.2.2.1].toArray 37) ∧ OwnB w x.2.2.2.2.2.2.2.2 2 x.2.2.2.2.2.2.2.1 (.cells [.int .i64 (1 + (kb : Int)), .int .i64 x.2.2.2.1, x.2.2.2.2.2.1].toArray 37) ∧ RV w (Mc x.2.2.2.2.2.2.2.2) x.2.1 x.2.2.1 ∧ RV w (Mc x.2.2.2.2.2.2.2.2) x.2.2.2.2.1 x.2.2.2.2.2.1) (e := fun x => [(3, .pointer (some ⟨bd, 0, none⟩)), (4, .pointer (some ⟨bw6, 0, none⟩)), (6, .int .i64 k), (8, .pointer (some ⟨bw11, 0, none⟩)), (9, .pointer (some ⟨bw12, 0, none⟩)), (11, .pointer (some ⟨bw17, 0, none⟩)), (12, .pointer (some ⟨x.2.2.2.2.2.2.1, 0, none⟩)), (13, .pointer (some ⟨x.2.2.2.2.2.2.2.1, 0, none⟩))]) ?_ ?_
   ·
    intro ⟨ver1, vals1, vv1, ver2, vals2, vv2, q1, q2, CJ⟩ w19 hI
    obtain ⟨va1, vb1, vl1, vs91, va2, vb2, vl2, vs92, hF, hT, hd, bx, hsh, hds, ha, hq, bw, bt, bc, b1, b2, hv1, hv2⟩ := hI
    try simp only at *
    show Run _ _ _ _ [(3, .pointer (some ⟨bd, 0, none⟩)), (4, .pointer (some ⟨bw6, 0, none⟩)), (6, .int .i64 k), (8, .pointer (some ⟨bw11, 0, none⟩)), (9, .pointer (some ⟨bw12, 0, none⟩)), (11, .pointer (some ⟨bw17, 0, none⟩)), (12, .pointer (some ⟨q1, 0, none⟩)), (13, .pointer (some ⟨q2, 0, none⟩))] _ _
    refine run_sq ?_
    refine run_pl [nn 0, nn 1, nn 2, nn 3, nn 4, nn 5, nn 6, yy 7, yy 8, yy 9, yy 10, nn 11, nn 12, yy 13, yy 14] ?_
    have hQ1 : QOK ag vals1 ver1 := qok9 (by omega) va1 (by omega) vs91
    have hQ2 : QOK ag vals2 ver2 := qok9 (by omega) va2 (by omega) vs92
    have hAB := cpl01 (a := ka) (b := kb) (by omega) (by omega)
    refine nS (kq 76 (.load 26 (.tmp 4))) rfl rfl trivial (val_loadOwnAgg (n := 3) (vs := [.int .i64 bud, vs, vz]) bx.at_ (by kernel_rfl) (by kernel_rfl) rfl rfl rfl) ?_
    refine nS (kq 77 (.load 28 (.tmp 8))) rfl rfl trivial (val_loadOwnAgg (n := 3) (vs := [.int .i64 pr, va, vd]) bw.at_ (by kernel_rfl) (by kernel_rfl) rfl rfl rfl) ?_
    refine nS (kq 78 (.load 30 (.tmp 9))) rfl rfl trivial (val_loadOwnAgg (n := 2) (vs := [.int .i64 lo, .int .i64 hh]) bt.at_ (by kernel_rfl) (by kernel_rfl) rfl rfl rfl) ?_
    refine nS (kq 79 (.load 34 (.tmp 11))) rfl rfl trivial (val_loadOwnAgg (n := 6) (vs := [.int .i64 0, .int .i64 (1 + (ka : Int)), .int .i64 1, .int .i64 (1 + (kb : Int)), .int .i64 p, .int .i64 0]) bc.at_ (by kernel_rfl) (by kernel_rfl) rfl rfl rfl) ?_
    refine nS (kq 80 (.load 37 (.tmp 12))) rfl rfl trivial (val_loadOwnAgg (n := 3) (vs := [.int .i64 (1 + (ka : Int)), .int .i64 ver1, vv1]) b1.at_ (by kernel_rfl) (by kernel_rfl) rfl rfl rfl) ?_
    refine nS (kq 81 (.load 37 (.tmp 13))) rfl rfl trivial (val_loadOwnAgg (n := 3) (vs := [.int .i64 (1 + (kb : Int)), .int .i64 ver2, vv2]) b2.at_ (by kernel_rfl) (by kernel_rfl) rfl rfl rfl) ?_
    refine cS (kq 82 (.call { callee := .value (.func 29), args := #[(.tmp 76), (.tmp 77), (.tmp 78), (.tmp 79), (.tmp 80), (.tmp 81)], argTypes := #[26, 28, 30, 34, 37, 37] })) rfl rfl (ent Tryz.call29 rfl) (ask_ok (A := ⟨0, 1 + (ka : Int)⟩) (B := ⟨1, 1 + (kb : Int)⟩) (id1 := 1 + (ka : Int)) (id2 := 1 + (kb : Int)) (sh := sh) (ds := []) hF hR hsh hds hW ha hq hK hpp hAB rfl rfl hQ1 hv1 hQ2 hv2 (by omega)) ?_
    rintro vw20 w20 ⟨bd2, vs2, vz2, vn2, sh2, ds2, now2, e2, rfl, hs, hsh2, hds2, hnow2, hA2, hde2⟩
    refine ⟨trivial, ?_⟩
    replace hF := hF.st hs
    replace hT := hT.t hs
    replace hd := hd.st hs (by first | decide | (simp <;> omega)) (by first | decide | (simp <;> omega))
    replace bx := bx.t hs; replace hsh := hsh.t hs; replace hds := hds.t hs; replace ha := ha.t hs; replace hq := hq.t hs; replace bw := bw.t hs; replace bt := bt.t hs; replace bc := bc.t hs; replace b1 := b1.t hs; replace b2 := b2.t hs; replace hv1 := hv1.t hs; replace hv2 := hv2.t hs
    refine yM 75 82 ?_
    refine yV (kq 83 (.extract (.tmp 75) 0)) (fun _ => val_extract rfl rfl) ?_
    refine yV (kq 84 (.extract (.tmp 75) 1)) (fun _ => val_extract rfl rfl) ?_
    refine yV (kq 85 (.extract (.tmp 75) 2)) (fun _ => val_extract rfl rfl) ?_
    refine aS (kq 14 (.alloc 26)) rfl rfl (a_alloc (cs := [.int .i64 0, .slice none 0 0, .slice none 0 0]) hF 7 (by kernel_rfl)) ?_
    rintro _ w21 ⟨Cw21, bw21, rfl, hs, by_, hF⟩
    refine ⟨trivial, ?_⟩
    replace hT := hT.t hs
    replace hd := hd.st hs (by first | decide | (simp <;> omega)) (by first | decide | (simp <;> omega))
    replace bx := bx.t hs; replace hsh := hsh.t hs; replace hds := hds.t hs; replace ha := ha.t hs; replace hq := hq.t hs; replace bw := bw.t hs; replace bt := bt.t hs; replace bc := bc.t hs; replace b1 := b1.t hs; replace b2 := b2.t hs; replace hv1 := hv1.t hs; replace hv2 := hv2.t hs; replace hsh2 := hsh2.t hs; replace hds2 := hds2.t hs; replace hnow2 := hnow2.t hs
    refine aN (k0 (.store 26 (.tmp 14) (.tmp 83))) rfl (a_storeAll (vs := [.int .i64 bd2, vs2, vz2]) (n := 3) rfl rfl (by kernel_rfl) rfl rfl (by intro u hu; simp only [List.mem_cons, List.not_mem_nil, or_false] at hu; rcases hu with rfl | rfl | rfl <;> first | rfl | exact (hsh2.one rfl).2 | exact (hds2.one rfl).2) by_ rfl) ?_
    rintro _ w22 ⟨rfl, hs, by_⟩
    refine ⟨trivial, ?_⟩
    replace hF := hF.st hs
    replace hT := hT.t hs
    replace hd := hd.st hs (by first | decide | (simp <;> omega)) (by first | decide | (simp <;> omega))
    replace bx := bx.t hs; replace hsh := hsh.t hs; replace hds := hds.t hs; replace ha := ha.t hs; replace hq := hq.t hs; replace bw := bw.t hs; replace bt := bt.t hs; replace bc := bc.t hs; replace b1 := b1.t hs; replace b2 := b2.t hs; replace hv1 := hv1.t hs; replace hv2 := hv2.t hs; replace hsh2 := hsh2.t hs; replace hds2 := hds2.t hs; replace hnow2 := hnow2.t hs
    refine yA 15 84 ?_
    refine yA 16 85 ?_
    refine Sch.nil ?_
    refine run_sq ?_
    refine run_sq ?_
    refine run_pl [yy 0, yy 1] ?_
    refine yM 86 16 ?_
    refine yV (kq 87 (.binOp .neq 52 (.tmp 86) (.const (.int .i64 0)) 52)) (fun _ => val_neq rfl rfl) ?_
    refine Sch.nil ?_
    refine run_i 87 rfl (fun h87 => ?_) (fun h87 => ?_)
    ·
     refine run_ex 1 ?_
     refine run_pl [yy 0, yy 1, yy 2] ?_
     refine yM 41 6 ?_
     refine yV (kq 42 (.binOp .add 3 (.tmp 41) (.const (.int .i64 1)) 3)) (fun _ => val_addi rfl rfl (by omega) (by omega)) ?_
     refine yA 6 42 ?_
     refine Sch.nil ?_
     refine kp (sub_cons 3 rfl rfl (sub_cons 4 rfl rfl (sub_cons 6 rfl (eq_int (by simp)) (sub_nil _)))) (next1 (k + 1, bud, sh, vs, vz, Cw21) _ ⟨(by first | omega | (simp only; omega)), (by first | omega | (simp only; omega)), (by first | omega | (simp only; omega)), (by simp only; omega), hF, hT, hd, bx, hsh, hds⟩ (by first | omega | (simp only; omega)))
    ·
     obtain rfl : e2 = 0 := Classical.not_not.1 h87
     obtain rfl := hde2 rfl
     obtain ⟨hR2, hln2, hnl2, hsm2, ⟨flx, hFx, hAll2⟩, _, _⟩ := hA2.law hR hAB hW hQ1 hQ2 (by omega)
     have hw5 := hW.l5
     refine run_sk ?_
     refine run_sq ?_
     refine run_pl [nn 0, nn 1, nn 2, nn 3, nn 4, nn 5, nn 6, yy 7, yy 8, yy 9, yy 10, nn 11, nn 12, yy 13, yy 14] ?_
     refine nS (kq 89 (.load 26 (.tmp 14))) rfl rfl trivial (val_loadOwnAgg (n := 3) (vs := [.int .i64 bd2, vs2, vz2]) by_.at_ (by kernel_rfl) (by kernel_rfl) rfl rfl rfl) ?_
     refine nS (kq 90 (.load 28 (.tmp 8))) rfl rfl trivial (val_loadOwnAgg (n := 3) (vs := [.int .i64 pr, va, vd]) bw.at_ (by kernel_rfl) (by kernel_rfl) rfl rfl rfl) ?_
     refine nS (kq 91 (.load 30 (.tmp 9))) rfl rfl trivial (val_loadOwnAgg (n := 2) (vs := [.int .i64 lo, .int .i64 hh]) bt.at_ (by kernel_rfl) (by kernel_rfl) rfl rfl rfl) ?_
     refine nS (kq 92 (.load 34 (.tmp 11))) rfl rfl trivial (val_loadOwnAgg (n := 6) (vs := [.int .i64 0, .int .i64 (1 + (ka : Int)), .int .i64 1, .int .i64 (1 + (kb : Int)), .int .i64 p, .int .i64 0]) bc.at_ (by kernel_rfl) (by kernel_rfl) rfl rfl rfl) ?_
     refine nS (kq 93 (.load 37 (.tmp 12))) rfl rfl trivial (val_loadOwnAgg (n := 3) (vs := [.int .i64 (1 + (ka : Int)), .int .i64 ver1, vv1]) b1.at_ (by kernel_rfl) (by kernel_rfl) rfl rfl rfl) ?_
     refine nS (kq 94 (.load 37 (.tmp 13))) rfl rfl trivial (val_loadOwnAgg (n := 3) (vs := [.int .i64 (1 + (kb : Int)), .int .i64 ver2, vv2]) b2.at_ (by kernel_rfl) (by kernel_rfl) rfl rfl rfl) ?_
     refine cS (kq 95 (.call { callee := .value (.func 29), args := #[(.tmp 89), (.tmp 90), (.tmp 91), (.tmp 92), (.tmp 93), (.tmp 94)], argTypes := #[26, 28, 30, 34, 37, 37] })) rfl rfl (ent Tryz.call29 rfl) (ask_ok (A := ⟨0, 1 + (ka : Int)⟩) (B := ⟨1, 1 + (kb : Int)⟩) (id1 := 1 + (ka : Int)) (id2 := 1 + (kb : Int)) (sh := sh2) (ds := []) hF hR2 hsh2 hds2 hW ha hq hK hpp hAB rfl rfl hQ1 hv1 hQ2 hv2 (by omega)) ?_
     rintro vw23 w23 ⟨bd3, vs3, vz3, vn3, sh3, ds3, now3, e3, rfl, hs, hsh3, hds3, hnow3, hA3, hde3⟩
     refine ⟨trivial, ?_⟩
     replace hF := hF.st hs
     replace hT := hT.t hs
     replace hd := hd.st hs (by first | decide | (simp <;> omega)) (by first | decide | (simp <;> omega))
     replace bx := bx.t hs; replace hsh := hsh.t hs; replace hds := hds.t hs; replace ha := ha.t hs; replace hq := hq.t hs; replace bw := bw.t hs; replace bt := bt.t hs; replace bc := bc.t hs; replace b1 := b1.t hs; replace b2 := b2.t hs; replace hv1 := hv1.t hs; replace hv2 := hv2.t hs; replace hsh2 := hsh2.t hs; replace hds2 := hds2.t hs; replace hnow2 := hnow2.t hs; replace by_ := by_.t hs
     obtain ⟨rfl, hbb3, hss3, rfl⟩ := hA3.again hFx hAll2 hR2.sa hR2.b0
     obtain rfl := hbb3.symm
     obtain rfl := hss3.symm
     obtain rfl := hde3 rfl
     refine yM 88 95 ?_
     refine yV (kq 96 (.extract (.tmp 88) 0)) (fun _ => val_extract rfl rfl) ?_
     refine yV (kq 97 (.extract (.tmp 88) 1)) (fun _ => val_extract rfl rfl) ?_
     refine yV (kq 98 (.extract (.tmp 88) 2)) (fun _ => val_extract rfl rfl) ?_
     refine aS (kq 17 (.alloc 26)) rfl rfl (a_alloc (cs := [.int .i64 0, .slice none 0 0, .slice none 0 0]) hF 6 (by kernel_rfl)) ?_
     rintro _ w24 ⟨Cw24, bw24, rfl, hs, bz, hF⟩
     refine ⟨trivial, ?_⟩
     replace hT := hT.t hs
     replace hd := hd.st hs (by first | decide | (simp <;> omega)) (by first | decide | (simp <;> omega))
     replace bx := bx.t hs; replace hsh := hsh.t hs; replace hds := hds.t hs; replace ha := ha.t hs; replace hq := hq.t hs; replace hv1 := hv1.t hs; replace hv2 := hv2.t hs; replace hsh2 := hsh2.t hs; replace hds2 := hds2.t hs; replace hnow2 := hnow2.t hs; replace by_ := by_.t hs; replace hsh3 := hsh3.t hs; replace hds3 := hds3.t hs; replace hnow3 := hnow3.t hs
     refine aN (k0 (.store 26 (.tmp 17) (.tmp 96))) rfl (a_storeAll (vs := [.int .i64 bd2, vs3, vz3]) (n := 3) rfl rfl (by kernel_rfl) rfl rfl (by intro u hu; simp only [List.mem_cons, List.not_mem_nil, or_false] at hu; rcases hu with rfl | rfl | rfl <;> first | rfl | exact (hsh3.one rfl).2 | exact (hds3.one rfl).2) bz rfl) ?_
     rintro _ w25 ⟨rfl, hs, bz⟩
     refine ⟨trivial, ?_⟩
     replace hF := hF.st hs
     replace hT := hT.t hs
     replace hd := hd.st hs (by first | decide | (simp <;> omega)) (by first | decide | (simp <;> omega))
     replace bx := bx.t hs; replace hsh := hsh.t hs; replace hds := hds.t hs; replace ha := ha.t hs; replace hq := hq.t hs; replace hv1 := hv1.t hs; replace hv2 := hv2.t hs; replace hsh2 := hsh2.t hs; replace hds2 := hds2.t hs; replace hnow2 := hnow2.t hs; replace by_ := by_.t hs; replace hsh3 := hsh3.t hs; replace hds3 := hds3.t hs; replace hnow3 := hnow3.t hs
     refine yA 18 97 ?_
     refine yA 19 98 ?_
     refine Sch.nil ?_
     refine run_sq ?_
     refine run_sq ?_
     refine run_pl [yy 0, yy 1, yy 2, yy 3, yy 4, yy 5, yy 6, yy 7, nn 8, nn 9, nn 10, yy 11, yy 12, yy 13, yy 14, nn 15, yy 16, yy 17, nn 18, yy 19, yy 20, yy 21, yy 22, yy 23, yy 24, yy 25, nn 26, nn 27, yy 28, yy 29] ?_
     refine yM 99 19 ?_
     refine yV (kq 100 (.binOp .neq 52 (.tmp 99) (.const (.int .i64 0)) 52)) (fun _ => val_is (val_neq rfl rfl) (show _ = Value.bool false from congrArg Value.bool (decide_eq_false (fun e => e rfl)))) ?_
     refine yM 101 100 ?_
     refine yMg 102 18 2 false ?_
     refine yS (kg 103 (.call { callee := .builtin .len, args := #[(.tmp 102)], argTypes := #[23] }) 2 false) rfl rfl (fun w' hS => hnow3.lenV rfl Tryz.underlying23 w' ) ?_
     refine yV (kg 104 (.binOp .neq 3 (.tmp 103) (.const (.int .i64 0)) 3) 2 false) (fun _ => val_is (val_neq rfl rfl) (show _ = Value.bool false from congrArg Value.bool (decide_eq_false (by simp)))) ?_
     refine yOf 105 101 104 ?_
     refine yM 106 105 ?_
     refine nS (kg 107 (.load 26 (.tmp 14)) 7 false) rfl rfl trivial (val_loadOwnAgg (n := 3) (vs := [.int .i64 bd2, vs2, vz2]) by_.at_ (by kernel_rfl) (by kernel_rfl) rfl rfl rfl) ?_
     refine nS (kg 108 (.load 26 (.tmp 17)) 7 false) rfl rfl trivial (val_loadOwnAgg (n := 3) (vs := [.int .i64 bd2, vs3, vz3]) bz.at_ (by kernel_rfl) (by kernel_rfl) rfl rfl rfl) ?_
     refine cS (kg 109 (.call { callee := .value (.func 20), args := #[(.tmp 107), (.tmp 108)], argTypes := #[26, 26] }) 7 false) rfl rfl (ent Tryz.call20 rfl) (sameR_ok hF hsh2 hsh3 hds2 hds3) ?_
     rintro vw26 w26 ⟨rfl, hs⟩
     refine ⟨trivial, ?_⟩
     replace hF := hF.st hs
     replace hT := hT.t hs
     replace hd := hd.st hs (by first | decide | (simp <;> omega)) (by first | decide | (simp <;> omega))
     replace bx := bx.t hs; replace hsh := hsh.t hs; replace hds := hds.t hs; replace ha := ha.t hs; replace hq := hq.t hs; replace hv1 := hv1.t hs; replace hv2 := hv2.t hs; replace hsh2 := hsh2.t hs; replace hds2 := hds2.t hs; replace hnow2 := hnow2.t hs; replace by_ := by_.t hs; replace hsh3 := hsh3.t hs; replace hds3 := hds3.t hs; replace hnow3 := hnow3.t hs; replace bz := bz.t hs
     refine yV (kg 110 (.unOp .not 4 (.tmp 109)) 7 false) (fun _ => val_not rfl) ?_
     refine yOf 111 106 110 ?_
     refine yM 112 111 ?_
     refine yFg 113 26 14 1 1 13 false ?_
     refine nS (kg 114 (.load 23 (.tmp 113)) 13 false) rfl rfl trivial (val_loadOwn by_.at_ (by kernel_rfl) rfl rfl) ?_
     refine yS (kg 115 (.call { callee := .builtin .len, args := #[(.tmp 114)], argTypes := #[23] }) 13 false) rfl rfl (fun w' hS => hsh2.lenV rfl Tryz.underlying23 w' ) ?_
     refine yFg 116 26 4 1 1 13 false ?_
     refine nS (kg 117 (.load 23 (.tmp 116)) 13 false) rfl rfl trivial (val_loadOwn bx.at_ (by kernel_rfl) rfl rfl) ?_
     refine yS (kg 118 (.call { callee := .builtin .len, args := #[(.tmp 117)], argTypes := #[23] }) 13 false) rfl rfl (fun w' hS => hsh.lenV rfl Tryz.underlying23 w' ) ?_
     refine yMg 119 15 13 false ?_
     refine yS (kg 120 (.call { callee := .builtin .len, args := #[(.tmp 119)], argTypes := #[23] }) 13 false) rfl rfl (fun w' hS => hnow2.lenV rfl Tryz.underlying23 w' ) ?_
     refine yV (kg 121 (.binOp .add 3 (.tmp 118) (.tmp 120) 3) 13 false) (fun _ => val_addi rfl rfl (by omega) (by omega)) ?_
     refine yV (kg 122 (.binOp .neq 3 (.tmp 115) (.tmp 121) 3) 13 false) (fun _ => val_is (val_neq rfl rfl) (show _ = Value.bool false from congrArg Value.bool (decide_eq_false (by omega)))) ?_
     refine yOf 123 112 122 ?_
     refine yM 124 123 ?_
     refine nS (kg 125 (.load 26 (.tmp 14)) 25 false) rfl rfl trivial (val_loadOwnAgg (n := 3) (vs := [.int .i64 bd2, vs2, vz2]) by_.at_ (by kernel_rfl) (by kernel_rfl) rfl rfl rfl) ?_
     refine cS (kg 126 (.call { callee := .value (.func 21), args := #[(.tmp 125)], argTypes := #[26] }) 25 false) rfl rfl (ent Tryz.call21 rfl) (rcheck_ok hF hR2 hsh2 hds2) ?_
     rintro vw27 w27 ⟨rfl, hs⟩
     refine ⟨trivial, ?_⟩
     replace hF := hF.st hs
     replace hT := hT.t hs
     replace hd := hd.st hs (by first | decide | (simp <;> omega)) (by first | decide | (simp <;> omega))
     replace bx := bx.t hs; replace hsh := hsh.t hs; replace hds := hds.t hs; replace ha := ha.t hs; replace hq := hq.t hs; replace hv1 := hv1.t hs; replace hv2 := hv2.t hs; replace hsh2 := hsh2.t hs; replace hds2 := hds2.t hs; replace hnow2 := hnow2.t hs; replace by_ := by_.t hs; replace hsh3 := hsh3.t hs; replace hds3 := hds3.t hs; replace hnow3 := hnow3.t hs; replace bz := bz.t hs
     refine yV (kg 127 (.binOp .neq 52 (.tmp 126) (.const (.int .i64 0)) 52) 25 false) (fun _ => val_is (val_neq rfl rfl) (show _ = Value.bool false from congrArg Value.bool (decide_eq_false (fun e => e rfl)))) ?_
     refine yOf 128 124 127 ?_
     refine Sch.nil ?_
     refine run_cF 128 ?_
     refine run_sk ?_
     refine run_sq ?_
     refine run_pl [nn 0, nn 1] ?_
     refine nS (kq 129 (.load 26 (.tmp 14))) rfl rfl trivial (val_loadOwnAgg (n := 3) (vs := [.int .i64 bd2, vs2, vz2]) by_.at_ (by kernel_rfl) (by kernel_rfl) rfl rfl rfl) ?_
     refine aN (k0 (.store 26 (.tmp 4) (.tmp 129))) rfl (a_storeAll (vs := [.int .i64 bd2, vs2, vz2]) (n := 3) rfl rfl (by kernel_rfl) rfl rfl (by intro u hu; simp only [List.mem_cons, List.not_mem_nil, or_false] at hu; rcases hu with rfl | rfl | rfl <;> first | rfl | exact (hsh2.one rfl).2 | exact (hds2.one rfl).2) bx rfl) ?_
     rintro _ w28 ⟨rfl, hs, bx⟩
     refine ⟨trivial, ?_⟩
     replace hF := hF.st hs
     replace hT := hT.t hs
     replace hd := hd.st hs (by first | decide | (simp <;> omega)) (by first | decide | (simp <;> omega))
     replace hsh := hsh.t hs; replace hds := hds.t hs; replace ha := ha.t hs; replace hq := hq.t hs; replace hv1 := hv1.t hs; replace hv2 := hv2.t hs; replace hsh2 := hsh2.t hs; replace hds2 := hds2.t hs; replace hnow2 := hnow2.t hs; replace by_ := by_.t hs; replace hsh3 := hsh3.t hs; replace hds3 := hds3.t hs; replace hnow3 := hnow3.t hs; replace bz := bz.t hs
     refine Sch.nil ?_
     refine run_sq ?_
     refine run_pl [yy 0, nn 1, yy 2] ?_
     refine yF 130 26 4 0 0 ?_
     refine nS (kq 131 (.load 3 (.tmp 130))) rfl rfl trivial (val_loadOwn bx.at_ (by kernel_rfl) rfl rfl) ?_
     refine yA 20 131 ?_
     refine Sch.nil ?_
     refine run_sq ?_
     refine run_sq ?_
     refine run_pl [yy 0, nn 1, yy 2, yy 3] ?_
     refine yF 132 26 4 1 1 ?_
     refine nS (kq 133 (.load 23 (.tmp 132))) rfl rfl trivial (val_loadOwn bx.at_ (by kernel_rfl) rfl rfl) ?_
     refine yS (kq 134 (.call { callee := .builtin .len, args := #[(.tmp 133)], argTypes := #[23] })) rfl rfl (fun w' hS => hsh2.lenV rfl Tryz.underlying23 w' ) ?_
     refine yV (kq 135 (.move (.const (.int .i64 0)))) (fun _ => val_move rfl) ?_
     refine Sch.nil ?_
     refine run_bk 2 ?_
     
     refine run_lp (ι := Nat × (Nat → Nat)) (I := fun x w => x.1 ≤ sh2.length ∧ Lim w x.2 ∧ Stp [2, 3, 4, 5, 6, 7, 8, 9] w₀ (col1 C) w x.2 ∧ DeckIs w x.2 3 bd ∧ OwnB w x.2 8 bw6 (.cells [.int .i64 bd2, vs2, vz2].toArray 26) ∧ RV w (Mc x.2) sh2 vs2 ∧ RV w (Mc x.2) ([] : List Dcs) vz2) (e := fun x => [(3, .pointer (some ⟨bd, 0, none⟩)), (4, .pointer (some ⟨bw6, 0, none⟩)), (6, .int .i64 k), (20, .int .i64 (bd2 + sumCh (sh2.take x.1))), (133, vs2), (134, .int .i64 sh2.length), (135, .int .i64 x.1)]) (m := fun x => sh2.length - x.1) (x₀ := (0, Cw24)) (sr 3 (sr 4 (sr 6 (sub_cons 20 rfl (eq_int (by simp [sumCh])) (sr 133 (sr 134 (sr 135 (sub_nil _)))))))) ?_ ?_
     · exact ⟨Nat.zero_le _, hF, hT, hd, bx, hsh2, hds2⟩
     intro ⟨j, C2⟩ w29 hI next
     obtain ⟨hj, hF, hT, hd, bx, hsh2, hds2⟩ := hI
     try simp only at hj hF hT hd bx hsh2 hds2
     have next2 := next
     clear next
     show Run _ _ _ _ [(3, .pointer (some ⟨bd, 0, none⟩)), (4, .pointer (some ⟨bw6, 0, none⟩)), (6, .int .i64 k), (20, .int .i64 (bd2 + sumCh (sh2.take j))), (133, vs2), (134, .int .i64 sh2.length), (135, .int .i64 j)] _ _
     have hle := hsh2.le
     obtain ⟨hsb1, hsb2⟩ := sumCh_b hR2.so j hj
     have hb0 := hR2.b0
     have hb1 := hR2.b1
     refine run_sq ?_
     refine run_pl [yy 0] ?_
     refine yV (kq 136 (.binOp .lss 3 (.tmp 135) (.tmp 134) 3)) (fun _ => val_lss rfl rfl) ?_
     refine Sch.nil ?_
     refine run_sq ?_
     refine run_i 136 rfl (fun h136 => ?_) (fun h136 => ?_)
     ·
      have hjl : j < sh2.length := by omega
      have hst := sumCh_take hjl
      obtain ⟨_, _, _, _, hc0, hc1⟩ := hR2.so j hjl
      refine run_sk ?_
      refine run_sq ?_
      refine run_bk 3 ?_
      refine run_sq ?_
      refine run_pl [yy 0, nn 1, nn 2, nn 3] ?_
      refine iS (e := 50) (kq 137 (.indexAddr 23 (.tmp 133) (.tmp 135))) rfl rfl hsh2 rfl (by kernel_rfl) rfl (by omega) (by omega) ?_
      intro b137 o137 h137
      try simp only [Int.toNat_natCast] at h137
      refine lNA (kq 138 (.load 50 (.tmp 137))) rfl rfl trivial h137 (by kernel_rfl) (by kernel_rfl) rfl rfl ?_
      intro v138 g138
      obtain rfl := rv_shw.1 g138
      refine aS (kq 22 (.alloc 50)) rfl rfl (a_alloc (cs := [.int .i64 0, .int .i64 0, .int .i64 0, .int .i64 0, .int .i64 0]) hF 6 (by kernel_rfl)) ?_
      rintro _ w30 ⟨Cw30, bw30, rfl, hs, bs, hF⟩
      refine ⟨trivial, ?_⟩
      replace hT := hT.t hs
      replace hd := hd.st hs (by first | decide | (simp <;> omega)) (by first | decide | (simp <;> omega))
      replace bx := bx.t hs; replace hsh2 := hsh2.t hs; replace hds2 := hds2.t hs; replace h137 := h137.t hs
      refine aN (k0 (.store 50 (.tmp 22) (.tmp 138))) rfl (a_storeAll (vs := encS (sh2[j]'hjl)) (n := 5) rfl rfl (by kernel_rfl) rfl rfl (by intro u hu; simp only [encS, List.mem_cons, List.not_mem_nil, or_false] at hu; rcases hu with rfl | rfl | rfl | rfl | rfl <;> rfl) bs rfl) ?_
      rintro _ w31 ⟨rfl, hs, bs⟩
      refine ⟨trivial, ?_⟩
      replace hF := hF.st hs
      replace hT := hT.t hs
      replace hd := hd.st hs (by first | decide | (simp <;> omega)) (by first | decide | (simp <;> omega))
      replace bx := bx.t hs; replace hsh2 := hsh2.t hs; replace hds2 := hds2.t hs; replace h137 := h137.t hs
      refine Sch.nil ?_
      refine run_pl [yy 0, yy 1, nn 2, yy 3, yy 4] ?_
      refine yM 139 20 ?_
      refine yF 140 50 22 3 4 ?_
      refine nS (kq 141 (.load 3 (.tmp 140))) rfl rfl trivial (val_loadOwn bs.at_ (by kernel_rfl) rfl rfl) ?_
      refine yV (kq 142 (.binOp .add 3 (.tmp 139) (.tmp 141) 3)) (fun _ => val_addi rfl rfl (by omega) (by omega)) ?_
      refine yA 20 142 ?_
      refine Sch.nil ?_
      refine run_inBlock ?_
      refine run_pl [yy 0, yy 1] ?_
      refine yV (kq 143 (.binOp .add 3 (.tmp 135) (.const (.int .i64 1)) 3)) (fun _ => val_addi rfl rfl (by omega) (by omega)) ?_
      refine yM 135 143 ?_
      refine Sch.nil ?_
      refine kp (sub_cons 3 rfl rfl (sub_cons 4 rfl rfl (sub_cons 6 rfl rfl (sub_cons 20 rfl (eq_int (by simp only; omega)) (sub_cons 133 rfl rfl (sub_cons 134 rfl rfl (sub_cons 135 rfl (eq_int (by simp)) (sub_nil _)))))))) (next2 (j + 1, Cw30) _ ⟨(by first | omega | (simp only; omega)), hF, hT, hd, bx, hsh2, hds2⟩ (by first | omega | (simp only; omega)))
     ·
      have hjl : j = sh2.length := by omega
      have hst : sumCh (sh2.take j) = sumCh sh2 := by rw [hjl, List.take_length]
      refine run_ex 2 ?_
      refine run_sq ?_
      refine run_pl [yy 0, yy 1] ?_
      refine yM 144 20 ?_
      refine yV (kq 145 (.binOp .neq 3 (.tmp 144) (.const (.int .i64 400)) 3)) (fun _ => val_is (val_neq rfl rfl) (show _ = Value.bool false from congrArg Value.bool (decide_eq_false (by omega)))) ?_
      refine Sch.nil ?_
      refine run_cF 145 ?_
      refine run_sk ?_
      refine run_inBlock ?_
      refine run_pl [yy 0, yy 1, yy 2] ?_
      refine yM 41 6 ?_
      refine yV (kq 42 (.binOp .add 3 (.tmp 41) (.const (.int .i64 1)) 3)) (fun _ => val_addi rfl rfl (by omega) (by omega)) ?_
      refine yA 6 42 ?_
      refine Sch.nil ?_
      refine kp (sub_cons 3 rfl rfl (sub_cons 4 rfl rfl (sub_cons 6 rfl (eq_int (by simp)) (sub_nil _)))) (next1 (k + 1, bd2, sh2, vs2, vz2, C2) _ ⟨(by first | omega | (simp only; omega)), hR2, (by simp only; omega), (by simp only; omega), hF, hT, hd, bx, hsh2, hds2⟩ (by first | omega | (simp only; omega)))
   intro join5013
   refine run_tree (id := 13) (ops := F4.o13) [3, 6] (Cw17) 15 (.fork3 [0, 1, 2, 3, 4, 6, 7, 8, 9, 10] 5 (.fork3 [] 11 (.fork [] 12 (.run [nn 13, nn 14, nn 15]) 13 (.run [nn 12, nn 14, nn 15])) 12 (.fork [] 11 (.run [nn 13, nn 14, nn 15]) 13 (.run [nn 11, nn 14, nn 15])) 13 (.fork [] 11 (.run [nn 12, nn 14, nn 15]) 12 (.run [nn 11, nn 14, nn 15]))) 12 (.fork [] 5 (.fork [] 11 (.run [nn 13, nn 14, nn 15]) 13 (.run [nn 11, nn 14, nn 15])) 13 (.run [nn 5, nn 11, nn 14, nn 15])) 13 (.fork [] 5 (.fork [] 11 (.run [nn 12, nn 14, nn 15]) 12 (.run [nn 11, nn 14, nn 15])) 12 (.run [nn 5, nn 11, nn 14, nn 15]))) Tryz_mixed (by kernel_rfl) (by kernel_rfl) (by kernel_rfl) ?_
   intro w32 hs
   replace hF := hF.st hs
   replace hT := hT.t hs
   replace hd := hd.st hs (by first | decide | (simp <;> omega)) (by first | decide | (simp <;> omega))
   replace bx := bx.t hs; replace hsh := hsh.t hs; replace hds := hds.t hs; replace ha := ha.t hs; replace hq := hq.t hs; replace bw := bw.t hs; replace bt := bt.t hs; replace bc := bc.t hs
   have hR := Stp.refl [3, 6] w32 (Cw17)
   refine tr_fork3 ?_
   show SchQ _ _ _ _ _ [yy 0, yy 1, yy 2, yy 3, yy 4, yy 6, yy 7, yy 8, yy 9, yy 10] _ _
   refine yM 63 3 ?_
   refine yF 64 34 11 0 0 ?_
   refine yF 65 32 64 1 1 ?_
   refine yS (kq 66 (.load 3 (.tmp 65))) rfl rfl (fun w' hS => val_loadOwn (bc.sy hS) (by kernel_rfl) rfl rfl) ?_
   refine yM 67 7 ?_
   refine yM 69 3 ?_
   refine yF 70 34 11 1 2 ?_
   refine yF 71 32 70 1 1 ?_
   refine yS (kq 72 (.load 3 (.tmp 71))) rfl rfl (fun w' hS => val_loadOwn (bc.sy hS) (by kernel_rfl) rfl rfl) ?_
   refine yM 73 7 ?_
   refine tr_do3 ?_ ?_ ?_
   ·
    show SchQ _ _ _ _ _ [nn 5] _ _
    refine cS (kq 68 (.call { callee := .value (.func 13), args := #[(.tmp 63), (.tmp 66), (.tmp 67)], argTypes := #[40, 3, 3] })) rfl rfl (ent Tryz.call13 rfl) (plain_any (id := (1 + (ka : Int))) (n := n) hF (by decide) hd (by omega)) ?_
    rintro vw33 w33 ⟨ver1, vals1, vv1, rfl, va1, vb1, vl1, vs91, hs, hv1, hd⟩
    refine ⟨(hR.trans hs (by simp)).ext, ?_⟩
    replace hF := hF.st hs
    replace hT := hT.t hs; replace bx := bx.t hs; replace hsh := hsh.t hs; replace hds := hds.t hs; replace ha := ha.t hs; replace hq := hq.t hs; replace bw := bw.t hs; replace bt := bt.t hs; replace bc := bc.t hs; replace hR := hR.t hs
    refine tr_next hR.ext ?_
    refine tr_fork3 ?_
    show SchQ _ _ _ _ _ [] _ _
    refine tr_do3 ?_ ?_ ?_
    ·
     show SchQ _ _ _ _ _ [nn 11] _ _
     refine cS (kq 74 (.call { callee := .value (.func 13), args := #[(.tmp 69), (.tmp 72), (.tmp 73)], argTypes := #[40, 3, 3] })) rfl rfl (ent Tryz.call13 rfl) (plain_any (id := (1 + (kb : Int))) (n := n) hF (by decide) hd (by omega)) ?_
     rintro vw34 w34 ⟨ver2, vals2, vv2, rfl, va2, vb2, vl2, vs92, hs, hv2, hd⟩
     refine ⟨(hR.trans hs (by simp)).ext, ?_⟩
     replace hF := hF.st hs
     replace hT := hT.t hs; replace bx := bx.t hs; replace hsh := hsh.t hs; replace hds := hds.t hs; replace ha := ha.t hs; replace hq := hq.t hs; replace bw := bw.t hs; replace bt := bt.t hs; replace bc := bc.t hs; replace hR := hR.t hs; replace hv1 := hv1.t hs
     refine tr_next hR.ext ?_
     refine tr_fork ?_
     show SchQ _ _ _ _ _ [] _ _
     refine tr_do2 ?_ ?_
     ·
      show SchQ _ _ _ _ _ [nn 12] _ _
      refine aS (kq 12 (.alloc 37)) rfl rfl (a_alloc (cs := [.int .i64 0, .int .i64 0, .slice none 0 0]) hF 6 (by kernel_rfl)) ?_
      rintro _ w35 ⟨Cw35, bw35, rfl, hs, b1, hF⟩
      refine ⟨(hR.trans hs (by simp)).ext, ?_⟩
      replace hT := hT.t hs
      replace hd := hd.st hs (by first | decide | (simp <;> omega)) (by first | decide | (simp <;> omega))
      replace bx := bx.t hs; replace hsh := hsh.t hs; replace hds := hds.t hs; replace ha := ha.t hs; replace hq := hq.t hs; replace bw := bw.t hs; replace bt := bt.t hs; replace bc := bc.t hs; replace hR := hR.t hs; replace hv1 := hv1.t hs; replace hv2 := hv2.t hs
      obtain ⟨q1, q1e⟩ : ∃ x, x = bw35 := ⟨_, rfl⟩
      rw [← q1e] at b1
      rw [← q1e]
      clear q1e
      refine tr_next hR.ext ?_
      refine tr_run ?_
      show SchQ _ _ _ _ _ [nn 13, nn 14, nn 15] _ _
      refine aS (kq 13 (.alloc 37)) rfl rfl (a_alloc (cs := [.int .i64 0, .int .i64 0, .slice none 0 0]) hF 2 (by kernel_rfl)) ?_
      rintro _ w36 ⟨Cw36, bw36, rfl, hs, b2, hF⟩
      refine ⟨(hR.trans hs (by simp)).ext, ?_⟩
      replace hT := hT.t hs
      replace hd := hd.st hs (by first | decide | (simp <;> omega)) (by first | decide | (simp <;> omega))
      replace bx := bx.t hs; replace hsh := hsh.t hs; replace hds := hds.t hs; replace ha := ha.t hs; replace hq := hq.t hs; replace bw := bw.t hs; replace bt := bt.t hs; replace bc := bc.t hs; replace hR := hR.t hs; replace hv1 := hv1.t hs; replace hv2 := hv2.t hs; replace b1 := b1.t hs
      obtain ⟨q2, q2e⟩ : ∃ x, x = bw36 := ⟨_, rfl⟩
      rw [← q2e] at b2
      rw [← q2e]
      clear q2e
      refine aN (k0 (.store 37 (.tmp 12) (.tmp 68))) rfl (a_storeAll (vs := [.int .i64 (1 + (ka : Int)), .int .i64 ver1, vv1]) (n := 3) rfl rfl (by kernel_rfl) rfl rfl (by intro u hu; simp only [List.mem_cons, List.not_mem_nil, or_false] at hu; rcases hu with rfl | rfl | rfl <;> first | rfl | exact (hv1.one rfl).2) b1 rfl) ?_
      rintro _ w37 ⟨rfl, hs, b1⟩
      refine ⟨(hR.trans hs (by simp)).ext, ?_⟩
      replace hF := hF.st hs
      replace hT := hT.t hs
      replace hd := hd.st hs (by first | decide | (simp <;> omega)) (by first | decide | (simp <;> omega))
      replace bx := bx.t hs; replace hsh := hsh.t hs; replace hds := hds.t hs; replace ha := ha.t hs; replace hq := hq.t hs; replace bw := bw.t hs; replace bt := bt.t hs; replace bc := bc.t hs; replace hR := hR.t hs; replace hv1 := hv1.t hs; replace hv2 := hv2.t hs; replace b2 := b2.t hs
      refine Sch.free rfl ?_
      refine aN (k0 (.store 37 (.tmp 13) (.tmp 74))) rfl (a_storeAll (vs := [.int .i64 (1 + (kb : Int)), .int .i64 ver2, vv2]) (n := 3) rfl rfl (by kernel_rfl) rfl rfl (by intro u hu; simp only [List.mem_cons, List.not_mem_nil, or_false] at hu; rcases hu with rfl | rfl | rfl <;> first | rfl | exact (hv2.one rfl).2) b2 rfl) ?_
      rintro _ w38 ⟨rfl, hs, b2⟩
      refine ⟨trivial, ?_⟩
      replace hF := hF.st hs
      replace hT := hT.t hs
      replace hd := hd.st hs (by first | decide | (simp <;> omega)) (by first | decide | (simp <;> omega))
      replace bx := bx.t hs; replace hsh := hsh.t hs; replace hds := hds.t hs; replace ha := ha.t hs; replace hq := hq.t hs; replace bw := bw.t hs; replace bt := bt.t hs; replace bc := bc.t hs; replace hv1 := hv1.t hs; replace hv2 := hv2.t hs; replace b1 := b1.t hs
      refine Sch.nil ?_
      refine kp (sub_cons 3 rfl rfl (sub_cons 4 rfl rfl (sub_cons 6 rfl rfl (sub_cons 8 rfl rfl (sub_cons 9 rfl rfl (sub_cons 11 rfl rfl (sub_cons 12 rfl rfl (sub_cons 13 rfl rfl (sub_nil _))))))))) (join5013 (ver1, vals1, vv1, ver2, vals2, vv2, q1, q2, Cw36) _ ⟨va1, vb1, vl1, vs91, va2, vb2, vl2, vs92, hF, hT, hd, bx, hsh, hds, ha, hq, bw, bt, bc, b1, b2, hv1, hv2⟩)
     ·
      show SchQ _ _ _ _ _ [nn 13] _ _
      refine aS (kq 13 (.alloc 37)) rfl rfl (a_alloc (cs := [.int .i64 0, .int .i64 0, .slice none 0 0]) hF 2 (by kernel_rfl)) ?_
      rintro _ w39 ⟨Cw39, bw39, rfl, hs, b2, hF⟩
      refine ⟨(hR.trans hs (by simp)).ext, ?_⟩
      replace hT := hT.t hs
      replace hd := hd.st hs (by first | decide | (simp <;> omega)) (by first | decide | (simp <;> omega))
      replace bx := bx.t hs; replace hsh := hsh.t hs; replace hds := hds.t hs; replace ha := ha.t hs; replace hq := hq.t hs; replace bw := bw.t hs; replace bt := bt.t hs; replace bc := bc.t hs; replace hR := hR.t hs; replace hv1 := hv1.t hs; replace hv2 := hv2.t hs
      obtain ⟨q2, q2e⟩ : ∃ x, x = bw39 := ⟨_, rfl⟩
      rw [← q2e] at b2
      rw [← q2e]
      clear q2e
      refine tr_next hR.ext ?_
      refine tr_run ?_
      show SchQ _ _ _ _ _ [nn 12, nn 14, nn 15] _ _
      refine aS (kq 12 (.alloc 37)) rfl rfl (a_alloc (cs := [.int .i64 0, .int .i64 0, .slice none 0 0]) hF 6 (by kernel_rfl)) ?_
      rintro _ w40 ⟨Cw40, bw40, rfl, hs, b1, hF⟩
      refine ⟨(hR.trans hs (by simp)).ext, ?_⟩
      replace hT := hT.t hs
      replace hd := hd.st hs (by first | decide | (simp <;> omega)) (by first | decide | (simp <;> omega))
      replace bx := bx.t hs; replace hsh := hsh.t hs; replace hds := hds.t hs; replace ha := ha.t hs; replace hq := hq.t hs; replace bw := bw.t hs; replace bt := bt.t hs; replace bc := bc.t hs; replace hR := hR.t hs; replace hv1 := hv1.t hs; replace hv2 := hv2.t hs; replace b2 := b2.t hs
      obtain ⟨q1, q1e⟩ : ∃ x, x = bw40 := ⟨_, rfl⟩
      rw [← q1e] at b1
      rw [← q1e]
      clear q1e
      refine aN (k0 (.store 37 (.tmp 12) (.tmp 68))) rfl (a_storeAll (vs := [.int .i64 (1 + (ka : Int)), .int .i64 ver1, vv1]) (n := 3) rfl rfl (by kernel_rfl) rfl rfl (by intro u hu; simp only [List.mem_cons, List.not_mem_nil, or_false] at hu; rcases hu with rfl | rfl | rfl <;> first | rfl | exact (hv1.one rfl).2) b1 rfl) ?_
      rintro _ w41 ⟨rfl, hs, b1⟩
      refine ⟨(hR.trans hs (by simp)).ext, ?_⟩
      replace hF := hF.st hs
      replace hT := hT.t hs
      replace hd := hd.st hs (by first | decide | (simp <;> omega)) (by first | decide | (simp <;> omega))
      replace bx := bx.t hs; replace hsh := hsh.t hs; replace hds := hds.t hs; replace ha := ha.t hs; replace hq := hq.t hs; replace bw := bw.t hs; replace bt := bt.t hs; replace bc := bc.t hs; replace hR := hR.t hs; replace hv1 := hv1.t hs; replace hv2 := hv2.t hs; replace b2 := b2.t hs
      refine Sch.free rfl ?_
      refine aN (k0 (.store 37 (.tmp 13) (.tmp 74))) rfl (a_storeAll (vs := [.int .i64 (1 + (kb : Int)), .int .i64 ver2, vv2]) (n := 3) rfl rfl (by kernel_rfl) rfl rfl (by intro u hu; simp only [List.mem_cons, List.not_mem_nil, or_false] at hu; rcases hu with rfl | rfl | rfl <;> first | rfl | exact (hv2.one rfl).2) b2 rfl) ?_
      rintro _ w42 ⟨rfl, hs, b2⟩
      refine ⟨trivial, ?_⟩
      replace hF := hF.st hs
      replace hT := hT.t hs
      replace hd := hd.st hs (by first | decide | (simp <;> omega)) (by first | decide | (simp <;> omega))
      replace bx := bx.t hs; replace hsh := hsh.t hs; replace hds := hds.t hs; replace ha := ha.t hs; replace hq := hq.t hs; replace bw := bw.t hs; replace bt := bt.t hs; replace bc := bc.t hs; replace hv1 := hv1.t hs; replace hv2 := hv2.t hs; replace b1 := b1.t hs
      refine Sch.nil ?_
      refine kp (sub_cons 3 rfl rfl (sub_cons 4 rfl rfl (sub_cons 6 rfl rfl (sub_cons 8 rfl rfl (sub_cons 9 rfl rfl (sub_cons 11 rfl rfl (sub_cons 12 rfl rfl (sub_cons 13 rfl rfl (sub_nil _))))))))) (join5013 (ver1, vals1, vv1, ver2, vals2, vv2, q1, q2, Cw40) _ ⟨va1, vb1, vl1, vs91, va2, vb2, vl2, vs92, hF, hT, hd, bx, hsh, hds, ha, hq, bw, bt, bc, b1, b2, hv1, hv2⟩)
    ·
     show SchQ _ _ _ _ _ [nn 12] _ _
     refine aS (kq 12 (.alloc 37)) rfl rfl (a_alloc (cs := [.int .i64 0, .int .i64 0, .slice none 0 0]) hF 6 (by kernel_rfl)) ?_
     rintro _ w43 ⟨Cw43, bw43, rfl, hs, b1, hF⟩
     refine ⟨(hR.trans hs (by simp)).ext, ?_⟩
     replace hT := hT.t hs
     replace hd := hd.st hs (by first | decide | (simp <;> omega)) (by first | decide | (simp <;> omega))
     replace bx := bx.t hs; replace hsh := hsh.t hs; replace hds := hds.t hs; replace ha := ha.t hs; replace hq := hq.t hs; replace bw := bw.t hs; replace bt := bt.t hs; replace bc := bc.t hs; replace hR := hR.t hs; replace hv1 := hv1.t hs
     obtain ⟨q1, q1e⟩ : ∃ x, x = bw43 := ⟨_, rfl⟩
     rw [← q1e] at b1
     rw [← q1e]
     clear q1e
     refine tr_next hR.ext ?_
     refine tr_fork ?_
     show SchQ _ _ _ _ _ [] _ _
     refine tr_do2 ?_ ?_
     ·
      show SchQ _ _ _ _ _ [nn 11] _ _
      refine cS (kq 74 (.call { callee := .value (.func 13), args := #[(.tmp 69), (.tmp 72), (.tmp 73)], argTypes := #[40, 3, 3] })) rfl rfl (ent Tryz.call13 rfl) (plain_any (id := (1 + (kb : Int))) (n := n) hF (by decide) hd (by omega)) ?_
      rintro vw44 w44 ⟨ver2, vals2, vv2, rfl, va2, vb2, vl2, vs92, hs, hv2, hd⟩
      refine ⟨(hR.trans hs (by simp)).ext, ?_⟩
      replace hF := hF.st hs
      replace hT := hT.t hs; replace bx := bx.t hs; replace hsh := hsh.t hs; replace hds := hds.t hs; replace ha := ha.t hs; replace hq := hq.t hs; replace bw := bw.t hs; replace bt := bt.t hs; replace bc := bc.t hs; replace hR := hR.t hs; replace hv1 := hv1.t hs; replace b1 := b1.t hs
      refine tr_next hR.ext ?_
      refine tr_run ?_
      show SchQ _ _ _ _ _ [nn 13, nn 14, nn 15] _ _
      refine aS (kq 13 (.alloc 37)) rfl rfl (a_alloc (cs := [.int .i64 0, .int .i64 0, .slice none 0 0]) hF 2 (by kernel_rfl)) ?_
      rintro _ w45 ⟨Cw45, bw45, rfl, hs, b2, hF⟩
      refine ⟨(hR.trans hs (by simp)).ext, ?_⟩
      replace hT := hT.t hs
      replace hd := hd.st hs (by first | decide | (simp <;> omega)) (by first | decide | (simp <;> omega))
      replace bx := bx.t hs; replace hsh := hsh.t hs; replace hds := hds.t hs; replace ha := ha.t hs; replace hq := hq.t hs; replace bw := bw.t hs; replace bt := bt.t hs; replace bc := bc.t hs; replace hR := hR.t hs; replace hv1 := hv1.t hs; replace b1 := b1.t hs; replace hv2 := hv2.t hs
      obtain ⟨q2, q2e⟩ : ∃ x, x = bw45 := ⟨_, rfl⟩
      rw [← q2e] at b2
      rw [← q2e]
      clear q2e
      refine aN (k0 (.store 37 (.tmp 12) (.tmp 68))) rfl (a_storeAll (vs := [.int .i64 (1 + (ka : Int)), .int .i64 ver1, vv1]) (n := 3) rfl rfl (by kernel_rfl) rfl rfl (by intro u hu; simp only [List.mem_cons, List.not_mem_nil, or_false] at hu; rcases hu with rfl | rfl | rfl <;> first | rfl | exact (hv1.one rfl).2) b1 rfl) ?_
      rintro _ w46 ⟨rfl, hs, b1⟩
      refine ⟨(hR.trans hs (by simp)).ext, ?_⟩
      replace hF := hF.st hs
      replace hT := hT.t hs
      replace hd := hd.st hs (by first | decide | (simp <;> omega)) (by first | decide | (simp <;> omega))
      replace bx := bx.t hs; replace hsh := hsh.t hs; replace hds := hds.t hs; replace ha := ha.t hs; replace hq := hq.t hs; replace bw := bw.t hs; replace bt := bt.t hs; replace bc := bc.t hs; replace hR := hR.t hs; replace hv1 := hv1.t hs; replace hv2 := hv2.t hs; replace b2 := b2.t hs
      refine Sch.free rfl ?_
      refine aN (k0 (.store 37 (.tmp 13) (.tmp 74))) rfl (a_storeAll (vs := [.int .i64 (1 + (kb : Int)), .int .i64 ver2, vv2]) (n := 3) rfl rfl (by kernel_rfl) rfl rfl (by intro u hu; simp only [List.mem_cons, List.not_mem_nil, or_false] at hu; rcases hu with rfl | rfl | rfl <;> first | rfl | exact (hv2.one rfl).2) b2 rfl) ?_
      rintro _ w47 ⟨rfl, hs, b2⟩
      refine ⟨trivial, ?_⟩
      replace hF := hF.st hs
      replace hT := hT.t hs
      replace hd := hd.st hs (by first | decide | (simp <;> omega)) (by first | decide | (simp <;> omega))
      replace bx := bx.t hs; replace hsh := hsh.t hs; replace hds := hds.t hs; replace ha := ha.t hs; replace hq := hq.t hs; replace bw := bw.t hs; replace bt := bt.t hs; replace bc := bc.t hs; replace hv1 := hv1.t hs; replace b1 := b1.t hs; replace hv2 := hv2.t hs
      refine Sch.nil ?_
      refine kp (sub_cons 3 rfl rfl (sub_cons 4 rfl rfl (sub_cons 6 rfl rfl (sub_cons 8 rfl rfl (sub_cons 9 rfl rfl (sub_cons 11 rfl rfl (sub_cons 12 rfl rfl (sub_cons 13 rfl rfl (sub_nil _))))))))) (join5013 (ver1, vals1, vv1, ver2, vals2, vv2, q1, q2, Cw45) _ ⟨va1, vb1, vl1, vs91, va2, vb2, vl2, vs92, hF, hT, hd, bx, hsh, hds, ha, hq, bw, bt, bc, b1, b2, hv1, hv2⟩)
     ·
      show SchQ _ _ _ _ _ [nn 13] _ _
      refine aS (kq 13 (.alloc 37)) rfl rfl (a_alloc (cs := [.int .i64 0, .int .i64 0, .slice none 0 0]) hF 2 (by kernel_rfl)) ?_
      rintro _ w48 ⟨Cw48, bw48, rfl, hs, b2, hF⟩
      refine ⟨(hR.trans hs (by simp)).ext, ?_⟩
      replace hT := hT.t hs
      replace hd := hd.st hs (by first | decide | (simp <;> omega)) (by first | decide | (simp <;> omega))
      replace bx := bx.t hs; replace hsh := hsh.t hs; replace hds := hds.t hs; replace ha := ha.t hs; replace hq := hq.t hs; replace bw := bw.t hs; replace bt := bt.t hs; replace bc := bc.t hs; replace hR := hR.t hs; replace hv1 := hv1.t hs; replace b1 := b1.t hs
      obtain ⟨q2, q2e⟩ : ∃ x, x = bw48 := ⟨_, rfl⟩
      rw [← q2e] at b2
      rw [← q2e]
      clear q2e
      refine tr_next hR.ext ?_
      refine tr_run ?_
      show SchQ _ _ _ _ _ [nn 11, nn 14, nn 15] _ _
      refine cS (kq 74 (.call { callee := .value (.func 13), args := #[(.tmp 69), (.tmp 72), (.tmp 73)], argTypes := #[40, 3, 3] })) rfl rfl (ent Tryz.call13 rfl) (plain_any (id := (1 + (kb : Int))) (n := n) hF (by decide) hd (by omega)) ?_
      rintro vw49 w49 ⟨ver2, vals2, vv2, rfl, va2, vb2, vl2, vs92, hs, hv2, hd⟩
      refine ⟨(hR.trans hs (by simp)).ext, ?_⟩
      replace hF := hF.st hs
      replace hT := hT.t hs; replace bx := bx.t hs; replace hsh := hsh.t hs; replace hds := hds.t hs; replace ha := ha.t hs; replace hq := hq.t hs; replace bw := bw.t hs; replace bt := bt.t hs; replace bc := bc.t hs; replace hR := hR.t hs; replace hv1 := hv1.t hs; replace b1 := b1.t hs; replace b2 := b2.t hs
      refine aN (k0 (.store 37 (.tmp 12) (.tmp 68))) rfl (a_storeAll (vs := [.int .i64 (1 + (ka : Int)), .int .i64 ver1, vv1]) (n := 3) rfl rfl (by kernel_rfl) rfl rfl (by intro u hu; simp only [List.mem_cons, List.not_mem_nil, or_false] at hu; rcases hu with rfl | rfl | rfl <;> first | rfl | exact (hv1.one rfl).2) b1 rfl) ?_
      rintro _ w50 ⟨rfl, hs, b1⟩
      refine ⟨(hR.trans hs (by simp)).ext, ?_⟩
      replace hF := hF.st hs
      replace hT := hT.t hs
      replace hd := hd.st hs (by first | decide | (simp <;> omega)) (by first | decide | (simp <;> omega))
      replace bx := bx.t hs; replace hsh := hsh.t hs; replace hds := hds.t hs; replace ha := ha.t hs; replace hq := hq.t hs; replace bw := bw.t hs; replace bt := bt.t hs; replace bc := bc.t hs; replace hR := hR.t hs; replace hv1 := hv1.t hs; replace b2 := b2.t hs; replace hv2 := hv2.t hs
      refine Sch.free rfl ?_
      refine aN (k0 (.store 37 (.tmp 13) (.tmp 74))) rfl (a_storeAll (vs := [.int .i64 (1 + (kb : Int)), .int .i64 ver2, vv2]) (n := 3) rfl rfl (by kernel_rfl) rfl rfl (by intro u hu; simp only [List.mem_cons, List.not_mem_nil, or_false] at hu; rcases hu with rfl | rfl | rfl <;> first | rfl | exact (hv2.one rfl).2) b2 rfl) ?_
      rintro _ w51 ⟨rfl, hs, b2⟩
      refine ⟨trivial, ?_⟩
      replace hF := hF.st hs
      replace hT := hT.t hs
      replace hd := hd.st hs (by first | decide | (simp <;> omega)) (by first | decide | (simp <;> omega))
      replace bx := bx.t hs; replace hsh := hsh.t hs; replace hds := hds.t hs; replace ha := ha.t hs; replace hq := hq.t hs; replace bw := bw.t hs; replace bt := bt.t hs; replace bc := bc.t hs; replace hv1 := hv1.t hs; replace b1 := b1.t hs; replace hv2 := hv2.t hs
      refine Sch.nil ?_
      refine kp (sub_cons 3 rfl rfl (sub_cons 4 rfl rfl (sub_cons 6 rfl rfl (sub_cons 8 rfl rfl (sub_cons 9 rfl rfl (sub_cons 11 rfl rfl (sub_cons 12 rfl rfl (sub_cons 13 rfl rfl (sub_nil _))))))))) (join5013 (ver1, vals1, vv1, ver2, vals2, vv2, q1, q2, Cw48) _ ⟨va1, vb1, vl1, vs91, va2, vb2, vl2, vs92, hF, hT, hd, bx, hsh, hds, ha, hq, bw, bt, bc, b1, b2, hv1, hv2⟩)
    ·
     show SchQ _ _ _ _ _ [nn 13] _ _
     refine aS (kq 13 (.alloc 37)) rfl rfl (a_alloc (cs := [.int .i64 0, .int .i64 0, .slice none 0 0]) hF 2 (by kernel_rfl)) ?_
     rintro _ w52 ⟨Cw52, bw52, rfl, hs, b2, hF⟩
     refine ⟨(hR.trans hs (by simp)).ext, ?_⟩
     replace hT := hT.t hs
     replace hd := hd.st hs (by first | decide | (simp <;> omega)) (by first | decide | (simp <;> omega))
     replace bx := bx.t hs; replace hsh := hsh.t hs; replace hds := hds.t hs; replace ha := ha.t hs; replace hq := hq.t hs; replace bw := bw.t hs; replace bt := bt.t hs; replace bc := bc.t hs; replace hR := hR.t hs; replace hv1 := hv1.t hs
     obtain ⟨q2, q2e⟩ : ∃ x, x = bw52 := ⟨_, rfl⟩
     rw [← q2e] at b2
     rw [← q2e]
     clear q2e
     refine tr_next hR.ext ?_
     refine tr_fork ?_
     show SchQ _ _ _ _ _ [] _ _
     refine tr_do2 ?_ ?_
     ·
      show SchQ _ _ _ _ _ [nn 11] _ _
      refine cS (kq 74 (.call { callee := .value (.func 13), args := #[(.tmp 69), (.tmp 72), (.tmp 73)], argTypes := #[40, 3, 3] })) rfl rfl (ent Tryz.call13 rfl) (plain_any (id := (1 + (kb : Int))) (n := n) hF (by decide) hd (by omega)) ?_
      rintro vw53 w53 ⟨ver2, vals2, vv2, rfl, va2, vb2, vl2, vs92, hs, hv2, hd⟩
      refine ⟨(hR.trans hs (by simp)).ext, ?_⟩
      replace hF := hF.st hs
      replace hT := hT.t hs; replace bx := bx.t hs; replace hsh := hsh.t hs; replace hds := hds.t hs; replace ha := ha.t hs; replace hq := hq.t hs; replace bw := bw.t hs; replace bt := bt.t hs; replace bc := bc.t hs; replace hR := hR.t hs; replace hv1 := hv1.t hs; replace b2 := b2.t hs
      refine tr_next hR.ext ?_
      refine tr_run ?_
      show SchQ _ _ _ _ _ [nn 12, nn 14, nn 15] _ _
      refine aS (kq 12 (.alloc 37)) rfl rfl (a_alloc (cs := [.int .i64 0, .int .i64 0, .slice none 0 0]) hF 6 (by kernel_rfl)) ?_
      rintro _ w54 ⟨Cw54, bw54, rfl, hs, b1, hF⟩
      refine ⟨(hR.trans hs (by simp)).ext, ?_⟩
      replace hT := hT.t hs
      replace hd := hd.st hs (by first | decide | (simp <;> omega)) (by first | decide | (simp <;> omega))
      replace bx := bx.t hs; replace hsh := hsh.t hs; replace hds := hds.t hs; replace ha := ha.t hs; replace hq := hq.t hs; replace bw := bw.t hs; replace bt := bt.t hs; replace bc := bc.t hs; replace hR := hR.t hs; replace hv1 := hv1.t hs; replace b2 := b2.t hs; replace hv2 := hv2.t hs
      obtain ⟨q1, q1e⟩ : ∃ x, x = bw54 := ⟨_, rfl⟩
      rw [← q1e] at b1
      rw [← q1e]
      clear q1e
      refine aN (k0 (.store 37 (.tmp 12) (.tmp 68))) rfl (a_storeAll (vs := [.int .i64 (1 + (ka : Int)), .int .i64 ver1, vv1]) (n := 3) rfl rfl (by kernel_rfl) rfl rfl (by intro u hu; simp only [List.mem_cons, List.not_mem_nil, or_false] at hu; rcases hu with rfl | rfl | rfl <;> first | rfl | exact (hv1.one rfl).2) b1 rfl) ?_
      rintro _ w55 ⟨rfl, hs, b1⟩
      refine ⟨(hR.trans hs (by simp)).ext, ?_⟩
      replace hF := hF.st hs
      replace hT := hT.t hs
      replace hd := hd.st hs (by first | decide | (simp <;> omega)) (by first | decide | (simp <;> omega))
      replace bx := bx.t hs; replace hsh := hsh.t hs; replace hds := hds.t hs; replace ha := ha.t hs; replace hq := hq.t hs; replace bw := bw.t hs; replace bt := bt.t hs; replace bc := bc.t hs; replace hR := hR.t hs; replace hv1 := hv1.t hs; replace b2 := b2.t hs; replace hv2 := hv2.t hs
      refine Sch.free rfl ?_
      refine aN (k0 (.store 37 (.tmp 13) (.tmp 74))) rfl (a_storeAll (vs := [.int .i64 (1 + (kb : Int)), .int .i64 ver2, vv2]) (n := 3) rfl rfl (by kernel_rfl) rfl rfl (by intro u hu; simp only [List.mem_cons, List.not_mem_nil, or_false] at hu; rcases hu with rfl | rfl | rfl <;> first | rfl | exact (hv2.one rfl).2) b2 rfl) ?_
      rintro _ w56 ⟨rfl, hs, b2⟩
      refine ⟨trivial, ?_⟩
      replace hF := hF.st hs
      replace hT := hT.t hs
      replace hd := hd.st hs (by first | decide | (simp <;> omega)) (by first | decide | (simp <;> omega))
      replace bx := bx.t hs; replace hsh := hsh.t hs; replace hds := hds.t hs; replace ha := ha.t hs; replace hq := hq.t hs; replace bw := bw.t hs; replace bt := bt.t hs; replace bc := bc.t hs; replace hv1 := hv1.t hs; replace hv2 := hv2.t hs; replace b1 := b1.t hs
      refine Sch.nil ?_
      refine kp (sub_cons 3 rfl rfl (sub_cons 4 rfl rfl (sub_cons 6 rfl rfl (sub_cons 8 rfl rfl (sub_cons 9 rfl rfl (sub_cons 11 rfl rfl (sub_cons 12 rfl rfl (sub_cons 13 rfl rfl (sub_nil _))))))))) (join5013 (ver1, vals1, vv1, ver2, vals2, vv2, q1, q2, Cw54) _ ⟨va1, vb1, vl1, vs91, va2, vb2, vl2, vs92, hF, hT, hd, bx, hsh, hds, ha, hq, bw, bt, bc, b1, b2, hv1, hv2⟩)
     ·
      show SchQ _ _ _ _ _ [nn 12] _ _
      refine aS (kq 12 (.alloc 37)) rfl rfl (a_alloc (cs := [.int .i64 0, .int .i64 0, .slice none 0 0]) hF 6 (by kernel_rfl)) ?_
      rintro _ w57 ⟨Cw57, bw57, rfl, hs, b1, hF⟩
      refine ⟨(hR.trans hs (by simp)).ext, ?_⟩
      replace hT := hT.t hs
      replace hd := hd.st hs (by first | decide | (simp <;> omega)) (by first | decide | (simp <;> omega))
      replace bx := bx.t hs; replace hsh := hsh.t hs; replace hds := hds.t hs; replace ha := ha.t hs; replace hq := hq.t hs; replace bw := bw.t hs; replace bt := bt.t hs; replace bc := bc.t hs; replace hR := hR.t hs; replace hv1 := hv1.t hs; replace b2 := b2.t hs
      obtain ⟨q1, q1e⟩ : ∃ x, x = bw57 := ⟨_, rfl⟩
      rw [← q1e] at b1
      rw [← q1e]
      clear q1e
      refine tr_next hR.ext ?_
      refine tr_run ?_
      show SchQ _ _ _ _ _ [nn 11, nn 14, nn 15] _ _
      refine cS (kq 74 (.call { callee := .value (.func 13), args := #[(.tmp 69), (.tmp 72), (.tmp 73)], argTypes := #[40, 3, 3] })) rfl rfl (ent Tryz.call13 rfl) (plain_any (id := (1 + (kb : Int))) (n := n) hF (by decide) hd (by omega)) ?_
      rintro vw58 w58 ⟨ver2, vals2, vv2, rfl, va2, vb2, vl2, vs92, hs, hv2, hd⟩
      refine ⟨(hR.trans hs (by simp)).ext, ?_⟩
      replace hF := hF.st hs
      replace hT := hT.t hs; replace bx := bx.t hs; replace hsh := hsh.t hs; replace hds := hds.t hs; replace ha := ha.t hs; replace hq := hq.t hs; replace bw := bw.t hs; replace bt := bt.t hs; replace bc := bc.t hs; replace hR := hR.t hs; replace hv1 := hv1.t hs; replace b2 := b2.t hs; replace b1 := b1.t hs
      refine aN (k0 (.store 37 (.tmp 12) (.tmp 68))) rfl (a_storeAll (vs := [.int .i64 (1 + (ka : Int)), .int .i64 ver1, vv1]) (n := 3) rfl rfl (by kernel_rfl) rfl rfl (by intro u hu; simp only [List.mem_cons, List.not_mem_nil, or_false] at hu; rcases hu with rfl | rfl | rfl <;> first | rfl | exact (hv1.one rfl).2) b1 rfl) ?_
      rintro _ w59 ⟨rfl, hs, b1⟩
      refine ⟨(hR.trans hs (by simp)).ext, ?_⟩
      replace hF := hF.st hs
      replace hT := hT.t hs
      replace hd := hd.st hs (by first | decide | (simp <;> omega)) (by first | decide | (simp <;> omega))
      replace bx := bx.t hs; replace hsh := hsh.t hs; replace hds := hds.t hs; replace ha := ha.t hs; replace hq := hq.t hs; replace bw := bw.t hs; replace bt := bt.t hs; replace bc := bc.t hs; replace hR := hR.t hs; replace hv1 := hv1.t hs; replace b2 := b2.t hs; replace hv2 := hv2.t hs
      refine Sch.free rfl ?_
      refine aN (k0 (.store 37 (.tmp 13) (.tmp 74))) rfl (a_storeAll (vs := [.int .i64 (1 + (kb : Int)), .int .i64 ver2, vv2]) (n := 3) rfl rfl (by kernel_rfl) rfl rfl (by intro u hu; simp only [List.mem_cons, List.not_mem_nil, or_false] at hu; rcases hu with rfl | rfl | rfl <;> first | rfl | exact (hv2.one rfl).2) b2 rfl) ?_
      rintro _ w60 ⟨rfl, hs, b2⟩
      refine ⟨trivial, ?_⟩
      replace hF := hF.st hs
      replace hT := hT.t hs
      replace hd := hd.st hs (by first | decide | (simp <;> omega)) (by first | decide | (simp <;> omega))
      replace bx := bx.t hs; replace hsh := hsh.t hs; replace hds := hds.t hs; replace ha := ha.t hs; replace hq := hq.t hs; replace bw := bw.t hs; replace bt := bt.t hs; replace bc := bc.t hs; replace hv1 := hv1.t hs; replace b1 := b1.t hs; replace hv2 := hv2.t hs
      refine Sch.nil ?_
      refine kp (sub_cons 3 rfl rfl (sub_cons 4 rfl rfl (sub_cons 6 rfl rfl (sub_cons 8 rfl rfl (sub_cons 9 rfl rfl (sub_cons 11 rfl rfl (sub_cons 12 rfl rfl (sub_cons 13 rfl rfl (sub_nil _))))))))) (join5013 (ver1, vals1, vv1, ver2, vals2, vv2, q1, q2, Cw57) _ ⟨va1, vb1, vl1, vs91, va2, vb2, vl2, vs92, hF, hT, hd, bx, hsh, hds, ha, hq, bw, bt, bc, b1, b2, hv1, hv2⟩)
   ·
    show SchQ _ _ _ _ _ [nn 12] _ _
    refine aS (kq 12 (.alloc 37)) rfl rfl (a_alloc (cs := [.int .i64 0, .int .i64 0, .slice none 0 0]) hF 6 (by kernel_rfl)) ?_
    rintro _ w61 ⟨Cw61, bw61, rfl, hs, b1, hF⟩
    refine ⟨(hR.trans hs (by simp)).ext, ?_⟩
    replace hT := hT.t hs
    replace hd := hd.st hs (by first | decide | (simp <;> omega)) (by first | decide | (simp <;> omega))
    replace bx := bx.t hs; replace hsh := hsh.t hs; replace hds := hds.t hs; replace ha := ha.t hs; replace hq := hq.t hs; replace bw := bw.t hs; replace bt := bt.t hs; replace bc := bc.t hs; replace hR := hR.t hs
    obtain ⟨q1, q1e⟩ : ∃ x, x = bw61 := ⟨_, rfl⟩
    rw [← q1e] at b1
    rw [← q1e]
    clear q1e
    refine tr_next hR.ext ?_
    refine tr_fork ?_
    show SchQ _ _ _ _ _ [] _ _
    refine tr_do2 ?_ ?_
    ·
     show SchQ _ _ _ _ _ [nn 5] _ _
     refine cS (kq 68 (.call { callee := .value (.func 13), args := #[(.tmp 63), (.tmp 66), (.tmp 67)], argTypes := #[40, 3, 3] })) rfl rfl (ent Tryz.call13 rfl) (plain_any (id := (1 + (ka : Int))) (n := n) hF (by decide) hd (by omega)) ?_
     rintro vw62 w62 ⟨ver1, vals1, vv1, rfl, va1, vb1, vl1, vs91, hs, hv1, hd⟩
     refine ⟨(hR.trans hs (by simp)).ext, ?_⟩
     replace hF := hF.st hs
     replace hT := hT.t hs; replace bx := bx.t hs; replace hsh := hsh.t hs; replace hds := hds.t hs; replace ha := ha.t hs; replace hq := hq.t hs; replace bw := bw.t hs; replace bt := bt.t hs; replace bc := bc.t hs; replace hR := hR.t hs; replace b1 := b1.t hs
     refine tr_next hR.ext ?_
     refine tr_fork ?_
     show SchQ _ _ _ _ _ [] _ _
     refine tr_do2 ?_ ?_
     ·
      show SchQ _ _ _ _ _ [nn 11] _ _
      refine cS (kq 74 (.call { callee := .value (.func 13), args := #[(.tmp 69), (.tmp 72), (.tmp 73)], argTypes := #[40, 3, 3] })) rfl rfl (ent Tryz.call13 rfl) (plain_any (id := (1 + (kb : Int))) (n := n) hF (by decide) hd (by omega)) ?_
      rintro vw63 w63 ⟨ver2, vals2, vv2, rfl, va2, vb2, vl2, vs92, hs, hv2, hd⟩
      refine ⟨(hR.trans hs (by simp)).ext, ?_⟩
      replace hF := hF.st hs
      replace hT := hT.t hs; replace bx := bx.t hs; replace hsh := hsh.t hs; replace hds := hds.t hs; replace ha := ha.t hs; replace hq := hq.t hs; replace bw := bw.t hs; replace bt := bt.t hs; replace bc := bc.t hs; replace hR := hR.t hs; replace b1 := b1.t hs; replace hv1 := hv1.t hs
      refine tr_next hR.ext ?_
      refine tr_run ?_
      show SchQ _ _ _ _ _ [nn 13, nn 14, nn 15] _ _
      refine aS (kq 13 (.alloc 37)) rfl rfl (a_alloc (cs := [.int .i64 0, .int .i64 0, .slice none 0 0]) hF 2 (by kernel_rfl)) ?_
      rintro _ w64 ⟨Cw64, bw64, rfl, hs, b2, hF⟩
      refine ⟨(hR.trans hs (by simp)).ext, ?_⟩
      replace hT := hT.t hs
      replace hd := hd.st hs (by first | decide | (simp <;> omega)) (by first | decide | (simp <;> omega))
      replace bx := bx.t hs; replace hsh := hsh.t hs; replace hds := hds.t hs; replace ha := ha.t hs; replace hq := hq.t hs; replace bw := bw.t hs; replace bt := bt.t hs; replace bc := bc.t hs; replace hR := hR.t hs; replace b1 := b1.t hs; replace hv1 := hv1.t hs; replace hv2 := hv2.t hs
      obtain ⟨q2, q2e⟩ : ∃ x, x = bw64 := ⟨_, rfl⟩
      rw [← q2e] at b2
      rw [← q2e]
      clear q2e
      refine aN (k0 (.store 37 (.tmp 12) (.tmp 68))) rfl (a_storeAll (vs := [.int .i64 (1 + (ka : Int)), .int .i64 ver1, vv1]) (n := 3) rfl rfl (by kernel_rfl) rfl rfl (by intro u hu; simp only [List.mem_cons, List.not_mem_nil, or_false] at hu; rcases hu with rfl | rfl | rfl <;> first | rfl | exact (hv1.one rfl).2) b1 rfl) ?_
      rintro _ w65 ⟨rfl, hs, b1⟩
      refine ⟨(hR.trans hs (by simp)).ext, ?_⟩
      replace hF := hF.st hs
      replace hT := hT.t hs
      replace hd := hd.st hs (by first | decide | (simp <;> omega)) (by first | decide | (simp <;> omega))
      replace bx := bx.t hs; replace hsh := hsh.t hs; replace hds := hds.t hs; replace ha := ha.t hs; replace hq := hq.t hs; replace bw := bw.t hs; replace bt := bt.t hs; replace bc := bc.t hs; replace hR := hR.t hs; replace hv1 := hv1.t hs; replace hv2 := hv2.t hs; replace b2 := b2.t hs
      refine Sch.free rfl ?_
      refine aN (k0 (.store 37 (.tmp 13) (.tmp 74))) rfl (a_storeAll (vs := [.int .i64 (1 + (kb : Int)), .int .i64 ver2, vv2]) (n := 3) rfl rfl (by kernel_rfl) rfl rfl (by intro u hu; simp only [List.mem_cons, List.not_mem_nil, or_false] at hu; rcases hu with rfl | rfl | rfl <;> first | rfl | exact (hv2.one rfl).2) b2 rfl) ?_
      rintro _ w66 ⟨rfl, hs, b2⟩
      refine ⟨trivial, ?_⟩
      replace hF := hF.st hs
      replace hT := hT.t hs
      replace hd := hd.st hs (by first | decide | (simp <;> omega)) (by first | decide | (simp <;> omega))
      replace bx := bx.t hs; replace hsh := hsh.t hs; replace hds := hds.t hs; replace ha := ha.t hs; replace hq := hq.t hs; replace bw := bw.t hs; replace bt := bt.t hs; replace bc := bc.t hs; replace b1 := b1.t hs; replace hv1 := hv1.t hs; replace hv2 := hv2.t hs
      refine Sch.nil ?_
      refine kp (sub_cons 3 rfl rfl (sub_cons 4 rfl rfl (sub_cons 6 rfl rfl (sub_cons 8 rfl rfl (sub_cons 9 rfl rfl (sub_cons 11 rfl rfl (sub_cons 12 rfl rfl (sub_cons 13 rfl rfl (sub_nil _))))))))) (join5013 (ver1, vals1, vv1, ver2, vals2, vv2, q1, q2, Cw64) _ ⟨va1, vb1, vl1, vs91, va2, vb2, vl2, vs92, hF, hT, hd, bx, hsh, hds, ha, hq, bw, bt, bc, b1, b2, hv1, hv2⟩)
     ·
      show SchQ _ _ _ _ _ [nn 13] _ _
      refine aS (kq 13 (.alloc 37)) rfl rfl (a_alloc (cs := [.int .i64 0, .int .i64 0, .slice none 0 0]) hF 2 (by kernel_rfl)) ?_
      rintro _ w67 ⟨Cw67, bw67, rfl, hs, b2, hF⟩
      refine ⟨(hR.trans hs (by simp)).ext, ?_⟩
      replace hT := hT.t hs
      replace hd := hd.st hs (by first | decide | (simp <;> omega)) (by first | decide | (simp <;> omega))
      replace bx := bx.t hs; replace hsh := hsh.t hs; replace hds := hds.t hs; replace ha := ha.t hs; replace hq := hq.t hs; replace bw := bw.t hs; replace bt := bt.t hs; replace bc := bc.t hs; replace hR := hR.t hs; replace b1 := b1.t hs; replace hv1 := hv1.t hs
      obtain ⟨q2, q2e⟩ : ∃ x, x = bw67 := ⟨_, rfl⟩
      rw [← q2e] at b2
      rw [← q2e]
      clear q2e
      refine tr_next hR.ext ?_
      refine tr_run ?_
      show SchQ _ _ _ _ _ [nn 11, nn 14, nn 15] _ _
      refine cS (kq 74 (.call { callee := .value (.func 13), args := #[(.tmp 69), (.tmp 72), (.tmp 73)], argTypes := #[40, 3, 3] })) rfl rfl (ent Tryz.call13 rfl) (plain_any (id := (1 + (kb : Int))) (n := n) hF (by decide) hd (by omega)) ?_
      rintro vw68 w68 ⟨ver2, vals2, vv2, rfl, va2, vb2, vl2, vs92, hs, hv2, hd⟩
      refine ⟨(hR.trans hs (by simp)).ext, ?_⟩
      replace hF := hF.st hs
      replace hT := hT.t hs; replace bx := bx.t hs; replace hsh := hsh.t hs; replace hds := hds.t hs; replace ha := ha.t hs; replace hq := hq.t hs; replace bw := bw.t hs; replace bt := bt.t hs; replace bc := bc.t hs; replace hR := hR.t hs; replace b1 := b1.t hs; replace hv1 := hv1.t hs; replace b2 := b2.t hs
      refine aN (k0 (.store 37 (.tmp 12) (.tmp 68))) rfl (a_storeAll (vs := [.int .i64 (1 + (ka : Int)), .int .i64 ver1, vv1]) (n := 3) rfl rfl (by kernel_rfl) rfl rfl (by intro u hu; simp only [List.mem_cons, List.not_mem_nil, or_false] at hu; rcases hu with rfl | rfl | rfl <;> first | rfl | exact (hv1.one rfl).2) b1 rfl) ?_
      rintro _ w69 ⟨rfl, hs, b1⟩
      refine ⟨(hR.trans hs (by simp)).ext, ?_⟩
      replace hF := hF.st hs
      replace hT := hT.t hs
      replace hd := hd.st hs (by first | decide | (simp <;> omega)) (by first | decide | (simp <;> omega))
      replace bx := bx.t hs; replace hsh := hsh.t hs; replace hds := hds.t hs; replace ha := ha.t hs; replace hq := hq.t hs; replace bw := bw.t hs; replace bt := bt.t hs; replace bc := bc.t hs; replace hR := hR.t hs; replace hv1 := hv1.t hs; replace b2 := b2.t hs; replace hv2 := hv2.t hs
      refine Sch.free rfl ?_
      refine aN (k0 (.store 37 (.tmp 13) (.tmp 74))) rfl (a_storeAll (vs := [.int .i64 (1 + (kb : Int)), .int .i64 ver2, vv2]) (n := 3) rfl rfl (by kernel_rfl) rfl rfl (by intro u hu; simp only [List.mem_cons, List.not_mem_nil, or_false] at hu; rcases hu with rfl | rfl | rfl <;> first | rfl | exact (hv2.one rfl).2) b2 rfl) ?_
      rintro _ w70 ⟨rfl, hs, b2⟩
      refine ⟨trivial, ?_⟩
      replace hF := hF.st hs
      replace hT := hT.t hs
      replace hd := hd.st hs (by first | decide | (simp <;> omega)) (by first | decide | (simp <;> omega))
      replace bx := bx.t hs; replace hsh := hsh.t hs; replace hds := hds.t hs; replace ha := ha.t hs; replace hq := hq.t hs; replace bw := bw.t hs; replace bt := bt.t hs; replace bc := bc.t hs; replace b1 := b1.t hs; replace hv1 := hv1.t hs; replace hv2 := hv2.t hs
      refine Sch.nil ?_
      refine kp (sub_cons 3 rfl rfl (sub_cons 4 rfl rfl (sub_cons 6 rfl rfl (sub_cons 8 rfl rfl (sub_cons 9 rfl rfl (sub_cons 11 rfl rfl (sub_cons 12 rfl rfl (sub_cons 13 rfl rfl (sub_nil _))))))))) (join5013 (ver1, vals1, vv1, ver2, vals2, vv2, q1, q2, Cw67) _ ⟨va1, vb1, vl1, vs91, va2, vb2, vl2, vs92, hF, hT, hd, bx, hsh, hds, ha, hq, bw, bt, bc, b1, b2, hv1, hv2⟩)
    ·
     show SchQ _ _ _ _ _ [nn 13] _ _
     refine aS (kq 13 (.alloc 37)) rfl rfl (a_alloc (cs := [.int .i64 0, .int .i64 0, .slice none 0 0]) hF 2 (by kernel_rfl)) ?_
     rintro _ w71 ⟨Cw71, bw71, rfl, hs, b2, hF⟩
     refine ⟨(hR.trans hs (by simp)).ext, ?_⟩
     replace hT := hT.t hs
     replace hd := hd.st hs (by first | decide | (simp <;> omega)) (by first | decide | (simp <;> omega))
     replace bx := bx.t hs; replace hsh := hsh.t hs; replace hds := hds.t hs; replace ha := ha.t hs; replace hq := hq.t hs; replace bw := bw.t hs; replace bt := bt.t hs; replace bc := bc.t hs; replace hR := hR.t hs; replace b1 := b1.t hs
     obtain ⟨q2, q2e⟩ : ∃ x, x = bw71 := ⟨_, rfl⟩
     rw [← q2e] at b2
     rw [← q2e]
     clear q2e
     refine tr_next hR.ext ?_
     refine tr_run ?_
     show SchQ _ _ _ _ _ [nn 5, nn 11, nn 14, nn 15] _ _
     refine cS (kq 68 (.call { callee := .value (.func 13), args := #[(.tmp 63), (.tmp 66), (.tmp 67)], argTypes := #[40, 3, 3] })) rfl rfl (ent Tryz.call13 rfl) (plain_any (id := (1 + (ka : Int))) (n := n) hF (by decide) hd (by omega)) ?_
     rintro vw72 w72 ⟨ver1, vals1, vv1, rfl, va1, vb1, vl1, vs91, hs, hv1, hd⟩
     refine ⟨(hR.trans hs (by simp)).ext, ?_⟩
     replace hF := hF.st hs
     replace hT := hT.t hs; replace bx := bx.t hs; replace hsh := hsh.t hs; replace hds := hds.t hs; replace ha := ha.t hs; replace hq := hq.t hs; replace bw := bw.t hs; replace bt := bt.t hs; replace bc := bc.t hs; replace hR := hR.t hs; replace b1 := b1.t hs; replace b2 := b2.t hs
     refine cS (kq 74 (.call { callee := .value (.func 13), args := #[(.tmp 69), (.tmp 72), (.tmp 73)], argTypes := #[40, 3, 3] })) rfl rfl (ent Tryz.call13 rfl) (plain_any (id := (1 + (kb : Int))) (n := n) hF (by decide) hd (by omega)) ?_
     rintro vw73 w73 ⟨ver2, vals2, vv2, rfl, va2, vb2, vl2, vs92, hs, hv2, hd⟩
     refine ⟨(hR.trans hs (by simp)).ext, ?_⟩
     replace hF := hF.st hs
     replace hT := hT.t hs; replace bx := bx.t hs; replace hsh := hsh.t hs; replace hds := hds.t hs; replace ha := ha.t hs; replace hq := hq.t hs; replace bw := bw.t hs; replace bt := bt.t hs; replace bc := bc.t hs; replace hR := hR.t hs; replace b1 := b1.t hs; replace b2 := b2.t hs; replace hv1 := hv1.t hs
     refine aN (k0 (.store 37 (.tmp 12) (.tmp 68))) rfl (a_storeAll (vs := [.int .i64 (1 + (ka : Int)), .int .i64 ver1, vv1]) (n := 3) rfl rfl (by kernel_rfl) rfl rfl (by intro u hu; simp only [List.mem_cons, List.not_mem_nil, or_false] at hu; rcases hu with rfl | rfl | rfl <;> first | rfl | exact (hv1.one rfl).2) b1 rfl) ?_
     rintro _ w74 ⟨rfl, hs, b1⟩
     refine ⟨(hR.trans hs (by simp)).ext, ?_⟩
     replace hF := hF.st hs
     replace hT := hT.t hs
     replace hd := hd.st hs (by first | decide | (simp <;> omega)) (by first | decide | (simp <;> omega))
     replace bx := bx.t hs; replace hsh := hsh.t hs; replace hds := hds.t hs; replace ha := ha.t hs; replace hq := hq.t hs; replace bw := bw.t hs; replace bt := bt.t hs; replace bc := bc.t hs; replace hR := hR.t hs; replace b2 := b2.t hs; replace hv1 := hv1.t hs; replace hv2 := hv2.t hs
     refine Sch.free rfl ?_
     refine aN (k0 (.store 37 (.tmp 13) (.tmp 74))) rfl (a_storeAll (vs := [.int .i64 (1 + (kb : Int)), .int .i64 ver2, vv2]) (n := 3) rfl rfl (by kernel_rfl) rfl rfl (by intro u hu; simp only [List.mem_cons, List.not_mem_nil, or_false] at hu; rcases hu with rfl | rfl | rfl <;> first | rfl | exact (hv2.one rfl).2) b2 rfl) ?_
     rintro _ w75 ⟨rfl, hs, b2⟩
     refine ⟨trivial, ?_⟩
     replace hF := hF.st hs
     replace hT := hT.t hs
     replace hd := hd.st hs (by first | decide | (simp <;> omega)) (by first | decide | (simp <;> omega))
     replace bx := bx.t hs; replace hsh := hsh.t hs; replace hds := hds.t hs; replace ha := ha.t hs; replace hq := hq.t hs; replace bw := bw.t hs; replace bt := bt.t hs; replace bc := bc.t hs; replace b1 := b1.t hs; replace hv1 := hv1.t hs; replace hv2 := hv2.t hs
     refine Sch.nil ?_
     refine kp (sub_cons 3 rfl rfl (sub_cons 4 rfl rfl (sub_cons 6 rfl rfl (sub_cons 8 rfl rfl (sub_cons 9 rfl rfl (sub_cons 11 rfl rfl (sub_cons 12 rfl rfl (sub_cons 13 rfl rfl (sub_nil _))))))))) (join5013 (ver1, vals1, vv1, ver2, vals2, vv2, q1, q2, Cw71) _ ⟨va1, vb1, vl1, vs91, va2, vb2, vl2, vs92, hF, hT, hd, bx, hsh, hds, ha, hq, bw, bt, bc, b1, b2, hv1, hv2⟩)
   ·
    show SchQ _ _ _ _ _ [nn 13] _ _
    refine aS (kq 13 (.alloc 37)) rfl rfl (a_alloc (cs := [.int .i64 0, .int .i64 0, .slice none 0 0]) hF 2 (by kernel_rfl)) ?_
    rintro _ w76 ⟨Cw76, bw76, rfl, hs, b2, hF⟩
    refine ⟨(hR.trans hs (by simp)).ext, ?_⟩
    replace hT := hT.t hs
    replace hd := hd.st hs (by first | decide | (simp <;> omega)) (by first | decide | (simp <;> omega))
    replace bx := bx.t hs; replace hsh := hsh.t hs; replace hds := hds.t hs; replace ha := ha.t hs; replace hq := hq.t hs; replace bw := bw.t hs; replace bt := bt.t hs; replace bc := bc.t hs; replace hR := hR.t hs
    obtain ⟨q2, q2e⟩ : ∃ x, x = bw76 := ⟨_, rfl⟩
    rw [← q2e] at b2
    rw [← q2e]
    clear q2e
    refine tr_next hR.ext ?_
    refine tr_fork ?_
    show SchQ _ _ _ _ _ [] _ _
    refine tr_do2 ?_ ?_
    ·
     show SchQ _ _ _ _ _ [nn 5] _ _
     refine cS (kq 68 (.call { callee := .value (.func 13), args := #[(.tmp 63), (.tmp 66), (.tmp 67)], argTypes := #[40, 3, 3] })) rfl rfl (ent Tryz.call13 rfl) (plain_any (id := (1 + (ka : Int))) (n := n) hF (by decide) hd (by omega)) ?_
     rintro vw77 w77 ⟨ver1, vals1, vv1, rfl, va1, vb1, vl1, vs91, hs, hv1, hd⟩
     refine ⟨(hR.trans hs (by simp)).ext, ?_⟩
     replace hF := hF.st hs
     replace hT := hT.t hs; replace bx := bx.t hs; replace hsh := hsh.t hs; replace hds := hds.t hs; replace ha := ha.t hs; replace hq := hq.t hs; replace bw := bw.t hs; replace bt := bt.t hs; replace bc := bc.t hs; replace hR := hR.t hs; replace b2 := b2.t hs
     refine tr_next hR.ext ?_
     refine tr_fork ?_
     show SchQ _ _ _ _ _ [] _ _
     refine tr_do2 ?_ ?_
     ·
      show SchQ _ _ _ _ _ [nn 11] _ _
      refine cS (kq 74 (.call { callee := .value (.func 13), args := #[(.tmp 69), (.tmp 72), (.tmp 73)], argTypes := #[40, 3, 3] })) rfl rfl (ent Tryz.call13 rfl) (plain_any (id := (1 + (kb : Int))) (n := n) hF (by decide) hd (by omega)) ?_
      rintro vw78 w78 ⟨ver2, vals2, vv2, rfl, va2, vb2, vl2, vs92, hs, hv2, hd⟩
      refine ⟨(hR.trans hs (by simp)).ext, ?_⟩
      replace hF := hF.st hs
      replace hT := hT.t hs; replace bx := bx.t hs; replace hsh := hsh.t hs; replace hds := hds.t hs; replace ha := ha.t hs; replace hq := hq.t hs; replace bw := bw.t hs; replace bt := bt.t hs; replace bc := bc.t hs; replace hR := hR.t hs; replace b2 := b2.t hs; replace hv1 := hv1.t hs
      refine tr_next hR.ext ?_
      refine tr_run ?_
      show SchQ _ _ _ _ _ [nn 12, nn 14, nn 15] _ _
      refine aS (kq 12 (.alloc 37)) rfl rfl (a_alloc (cs := [.int .i64 0, .int .i64 0, .slice none 0 0]) hF 6 (by kernel_rfl)) ?_
      rintro _ w79 ⟨Cw79, bw79, rfl, hs, b1, hF⟩
      refine ⟨(hR.trans hs (by simp)).ext, ?_⟩
      replace hT := hT.t hs
      replace hd := hd.st hs (by first | decide | (simp <;> omega)) (by first | decide | (simp <;> omega))
      replace bx := bx.t hs; replace hsh := hsh.t hs; replace hds := hds.t hs; replace ha := ha.t hs; replace hq := hq.t hs; replace bw := bw.t hs; replace bt := bt.t hs; replace bc := bc.t hs; replace hR := hR.t hs; replace b2 := b2.t hs; replace hv1 := hv1.t hs; replace hv2 := hv2.t hs
      obtain ⟨q1, q1e⟩ : ∃ x, x = bw79 := ⟨_, rfl⟩
      rw [← q1e] at b1
      rw [← q1e]
      clear q1e
      refine aN (k0 (.store 37 (.tmp 12) (.tmp 68))) rfl (a_storeAll (vs := [.int .i64 (1 + (ka : Int)), .int .i64 ver1, vv1]) (n := 3) rfl rfl (by kernel_rfl) rfl rfl (by intro u hu; simp only [List.mem_cons, List.not_mem_nil, or_false] at hu; rcases hu with rfl | rfl | rfl <;> first | rfl | exact (hv1.one rfl).2) b1 rfl) ?_
      rintro _ w80 ⟨rfl, hs, b1⟩
      refine ⟨(hR.trans hs (by simp)).ext, ?_⟩
      replace hF := hF.st hs
      replace hT := hT.t hs
      replace hd := hd.st hs (by first | decide | (simp <;> omega)) (by first | decide | (simp <;> omega))
      replace bx := bx.t hs; replace hsh := hsh.t hs; replace hds := hds.t hs; replace ha := ha.t hs; replace hq := hq.t hs; replace bw := bw.t hs; replace bt := bt.t hs; replace bc := bc.t hs; replace hR := hR.t hs; replace b2 := b2.t hs; replace hv1 := hv1.t hs; replace hv2 := hv2.t hs
      refine Sch.free rfl ?_
      refine aN (k0 (.store 37 (.tmp 13) (.tmp 74))) rfl (a_storeAll (vs := [.int .i64 (1 + (kb : Int)), .int .i64 ver2, vv2]) (n := 3) rfl rfl (by kernel_rfl) rfl rfl (by intro u hu; simp only [List.mem_cons, List.not_mem_nil, or_false] at hu; rcases hu with rfl | rfl | rfl <;> first | rfl | exact (hv2.one rfl).2) b2 rfl) ?_
      rintro _ w81 ⟨rfl, hs, b2⟩
      refine ⟨trivial, ?_⟩
      replace hF := hF.st hs
      replace hT := hT.t hs
      replace hd := hd.st hs (by first | decide | (simp <;> omega)) (by first | decide | (simp <;> omega))
      replace bx := bx.t hs; replace hsh := hsh.t hs; replace hds := hds.t hs; replace ha := ha.t hs; replace hq := hq.t hs; replace bw := bw.t hs; replace bt := bt.t hs; replace bc := bc.t hs; replace hv1 := hv1.t hs; replace hv2 := hv2.t hs; replace b1 := b1.t hs
      refine Sch.nil ?_
      refine kp (sub_cons 3 rfl rfl (sub_cons 4 rfl rfl (sub_cons 6 rfl rfl (sub_cons 8 rfl rfl (sub_cons 9 rfl rfl (sub_cons 11 rfl rfl (sub_cons 12 rfl rfl (sub_cons 13 rfl rfl (sub_nil _))))))))) (join5013 (ver1, vals1, vv1, ver2, vals2, vv2, q1, q2, Cw79) _ ⟨va1, vb1, vl1, vs91, va2, vb2, vl2, vs92, hF, hT, hd, bx, hsh, hds, ha, hq, bw, bt, bc, b1, b2, hv1, hv2⟩)
     ·
      show SchQ _ _ _ _ _ [nn 12] _ _
      refine aS (kq 12 (.alloc 37)) rfl rfl (a_alloc (cs := [.int .i64 0, .int .i64 0, .slice none 0 0]) hF 6 (by kernel_rfl)) ?_
      rintro _ w82 ⟨Cw82, bw82, rfl, hs, b1, hF⟩
      refine ⟨(hR.trans hs (by simp)).ext, ?_⟩
      replace hT := hT.t hs
      replace hd := hd.st hs (by first | decide | (simp <;> omega)) (by first | decide | (simp <;> omega))
      replace bx := bx.t hs; replace hsh := hsh.t hs; replace hds := hds.t hs; replace ha := ha.t hs; replace hq := hq.t hs; replace bw := bw.t hs; replace bt := bt.t hs; replace bc := bc.t hs; replace hR := hR.t hs; replace b2 := b2.t hs; replace hv1 := hv1.t hs
      obtain ⟨q1, q1e⟩ : ∃ x, x = bw82 := ⟨_, rfl⟩
      rw [← q1e] at b1
      rw [← q1e]
      clear q1e
      refine tr_next hR.ext ?_
      refine tr_run ?_
      show SchQ _ _ _ _ _ [nn 11, nn 14, nn 15] _ _
      refine cS (kq 74 (.call { callee := .value (.func 13), args := #[(.tmp 69), (.tmp 72), (.tmp 73)], argTypes := #[40, 3, 3] })) rfl rfl (ent Tryz.call13 rfl) (plain_any (id := (1 + (kb : Int))) (n := n) hF (by decide) hd (by omega)) ?_
      rintro vw83 w83 ⟨ver2, vals2, vv2, rfl, va2, vb2, vl2, vs92, hs, hv2, hd⟩
      refine ⟨(hR.trans hs (by simp)).ext, ?_⟩
      replace hF := hF.st hs
      replace hT := hT.t hs; replace bx := bx.t hs; replace hsh := hsh.t hs; replace hds := hds.t hs; replace ha := ha.t hs; replace hq := hq.t hs; replace bw := bw.t hs; replace bt := bt.t hs; replace bc := bc.t hs; replace hR := hR.t hs; replace b2 := b2.t hs; replace hv1 := hv1.t hs; replace b1 := b1.t hs
      refine aN (k0 (.store 37 (.tmp 12) (.tmp 68))) rfl (a_storeAll (vs := [.int .i64 (1 + (ka : Int)), .int .i64 ver1, vv1]) (n := 3) rfl rfl (by kernel_rfl) rfl rfl (by intro u hu; simp only [List.mem_cons, List.not_mem_nil, or_false] at hu; rcases hu with rfl | rfl | rfl <;> first | rfl | exact (hv1.one rfl).2) b1 rfl) ?_
      rintro _ w84 ⟨rfl, hs, b1⟩
      refine ⟨(hR.trans hs (by simp)).ext, ?_⟩
      replace hF := hF.st hs
      replace hT := hT.t hs
      replace hd := hd.st hs (by first | decide | (simp <;> omega)) (by first | decide | (simp <;> omega))
      replace bx := bx.t hs; replace hsh := hsh.t hs; replace hds := hds.t hs; replace ha := ha.t hs; replace hq := hq.t hs; replace bw := bw.t hs; replace bt := bt.t hs; replace bc := bc.t hs; replace hR := hR.t hs; replace b2 := b2.t hs; replace hv1 := hv1.t hs; replace hv2 := hv2.t hs
      refine Sch.free rfl ?_
      refine aN (k0 (.store 37 (.tmp 13) (.tmp 74))) rfl (a_storeAll (vs := [.int .i64 (1 + (kb : Int)), .int .i64 ver2, vv2]) (n := 3) rfl rfl (by kernel_rfl) rfl rfl (by intro u hu; simp only [List.mem_cons, List.not_mem_nil, or_false] at hu; rcases hu with rfl | rfl | rfl <;> first | rfl | exact (hv2.one rfl).2) b2 rfl) ?_
      rintro _ w85 ⟨rfl, hs, b2⟩
      refine ⟨trivial, ?_⟩
      replace hF := hF.st hs
      replace hT := hT.t hs
      replace hd := hd.st hs (by first | decide | (simp <;> omega)) (by first | decide | (simp <;> omega))
      replace bx := bx.t hs; replace hsh := hsh.t hs; replace hds := hds.t hs; replace ha := ha.t hs; replace hq := hq.t hs; replace bw := bw.t hs; replace bt := bt.t hs; replace bc := bc.t hs; replace hv1 := hv1.t hs; replace b1 := b1.t hs; replace hv2 := hv2.t hs
      refine Sch.nil ?_
      refine kp (sub_cons 3 rfl rfl (sub_cons 4 rfl rfl (sub_cons 6 rfl rfl (sub_cons 8 rfl rfl (sub_cons 9 rfl rfl (sub_cons 11 rfl rfl (sub_cons 12 rfl rfl (sub_cons 13 rfl rfl (sub_nil _))))))))) (join5013 (ver1, vals1, vv1, ver2, vals2, vv2, q1, q2, Cw82) _ ⟨va1, vb1, vl1, vs91, va2, vb2, vl2, vs92, hF, hT, hd, bx, hsh, hds, ha, hq, bw, bt, bc, b1, b2, hv1, hv2⟩)
    ·
     show SchQ _ _ _ _ _ [nn 12] _ _
     refine aS (kq 12 (.alloc 37)) rfl rfl (a_alloc (cs := [.int .i64 0, .int .i64 0, .slice none 0 0]) hF 6 (by kernel_rfl)) ?_
     rintro _ w86 ⟨Cw86, bw86, rfl, hs, b1, hF⟩
     refine ⟨(hR.trans hs (by simp)).ext, ?_⟩
     replace hT := hT.t hs
     replace hd := hd.st hs (by first | decide | (simp <;> omega)) (by first | decide | (simp <;> omega))
     replace bx := bx.t hs; replace hsh := hsh.t hs; replace hds := hds.t hs; replace ha := ha.t hs; replace hq := hq.t hs; replace bw := bw.t hs; replace bt := bt.t hs; replace bc := bc.t hs; replace hR := hR.t hs; replace b2 := b2.t hs
     obtain ⟨q1, q1e⟩ : ∃ x, x = bw86 := ⟨_, rfl⟩
     rw [← q1e] at b1
     rw [← q1e]
     clear q1e
     refine tr_next hR.ext ?_
     refine tr_run ?_
     show SchQ _ _ _ _ _ [nn 5, nn 11, nn 14, nn 15] _ _
     refine cS (kq 68 (.call { callee := .value (.func 13), args := #[(.tmp 63), (.tmp 66), (.tmp 67)], argTypes := #[40, 3, 3] })) rfl rfl (ent Tryz.call13 rfl) (plain_any (id := (1 + (ka : Int))) (n := n) hF (by decide) hd (by omega)) ?_
     rintro vw87 w87 ⟨ver1, vals1, vv1, rfl, va1, vb1, vl1, vs91, hs, hv1, hd⟩
     refine ⟨(hR.trans hs (by simp)).ext, ?_⟩
     replace hF := hF.st hs
     replace hT := hT.t hs; replace bx := bx.t hs; replace hsh := hsh.t hs; replace hds := hds.t hs; replace ha := ha.t hs; replace hq := hq.t hs; replace bw := bw.t hs; replace bt := bt.t hs; replace bc := bc.t hs; replace hR := hR.t hs; replace b2 := b2.t hs; replace b1 := b1.t hs
     refine cS (kq 74 (.call { callee := .value (.func 13), args := #[(.tmp 69), (.tmp 72), (.tmp 73)], argTypes := #[40, 3, 3] })) rfl rfl (ent Tryz.call13 rfl) (plain_any (id := (1 + (kb : Int))) (n := n) hF (by decide) hd (by omega)) ?_
     rintro vw88 w88 ⟨ver2, vals2, vv2, rfl, va2, vb2, vl2, vs92, hs, hv2, hd⟩
     refine ⟨(hR.trans hs (by simp)).ext, ?_⟩
     replace hF := hF.st hs
     replace hT := hT.t hs; replace bx := bx.t hs; replace hsh := hsh.t hs; replace hds := hds.t hs; replace ha := ha.t hs; replace hq := hq.t hs; replace bw := bw.t hs; replace bt := bt.t hs; replace bc := bc.t hs; replace hR := hR.t hs; replace b2 := b2.t hs; replace b1 := b1.t hs; replace hv1 := hv1.t hs
     refine aN (k0 (.store 37 (.tmp 12) (.tmp 68))) rfl (a_storeAll (vs := [.int .i64 (1 + (ka : Int)), .int .i64 ver1, vv1]) (n := 3) rfl rfl (by kernel_rfl) rfl rfl (by intro u hu; simp only [List.mem_cons, List.not_mem_nil, or_false] at hu; rcases hu with rfl | rfl | rfl <;> first | rfl | exact (hv1.one rfl).2) b1 rfl) ?_
     rintro _ w89 ⟨rfl, hs, b1⟩
     refine ⟨(hR.trans hs (by simp)).ext, ?_⟩
     replace hF := hF.st hs
     replace hT := hT.t hs
     replace hd := hd.st hs (by first | decide | (simp <;> omega)) (by first | decide | (simp <;> omega))
     replace bx := bx.t hs; replace hsh := hsh.t hs; replace hds := hds.t hs; replace ha := ha.t hs; replace hq := hq.t hs; replace bw := bw.t hs; replace bt := bt.t hs; replace bc := bc.t hs; replace hR := hR.t hs; replace b2 := b2.t hs; replace hv1 := hv1.t hs; replace hv2 := hv2.t hs
     refine Sch.free rfl ?_
     refine aN (k0 (.store 37 (.tmp 13) (.tmp 74))) rfl (a_storeAll (vs := [.int .i64 (1 + (kb : Int)), .int .i64 ver2, vv2]) (n := 3) rfl rfl (by kernel_rfl) rfl rfl (by intro u hu; simp only [List.mem_cons, List.not_mem_nil, or_false] at hu; rcases hu with rfl | rfl | rfl <;> first | rfl | exact (hv2.one rfl).2) b2 rfl) ?_
     rintro _ w90 ⟨rfl, hs, b2⟩
     refine ⟨trivial, ?_⟩
     replace hF := hF.st hs
     replace hT := hT.t hs
     replace hd := hd.st hs (by first | decide | (simp <;> omega)) (by first | decide | (simp <;> omega))
     replace bx := bx.t hs; replace hsh := hsh.t hs; replace hds := hds.t hs; replace ha := ha.t hs; replace hq := hq.t hs; replace bw := bw.t hs; replace bt := bt.t hs; replace bc := bc.t hs; replace b1 := b1.t hs; replace hv1 := hv1.t hs; replace hv2 := hv2.t hs
     refine Sch.nil ?_
     refine kp (sub_cons 3 rfl rfl (sub_cons 4 rfl rfl (sub_cons 6 rfl rfl (sub_cons 8 rfl rfl (sub_cons 9 rfl rfl (sub_cons 11 rfl rfl (sub_cons 12 rfl rfl (sub_cons 13 rfl rfl (sub_nil _))))))))) (join5013 (ver1, vals1, vv1, ver2, vals2, vv2, q1, q2, Cw86) _ ⟨va1, vb1, vl1, vs91, va2, vb2, vl2, vs92, hF, hT, hd, bx, hsh, hds, ha, hq, bw, bt, bc, b1, b2, hv1, hv2⟩)
  ·
   refine run_ex 0 ?_
   refine run_sq ?_
   refine run_pl [yy 0] ?_
   refine yAc 2 (.bool true) ?_
   refine Sch.nil ?_
   refine run_ret1 (by kernel_rfl) Tryz.func4 Tryz.results4 rfl ?_
   exact ⟨rfl, hT.out1 (by decide)⟩
namespace F4B
noncomputable def c0 := bodyOf Tryz.f4
noncomputable def c7 := (cl (cl (cr (cl (cr c0)))))
noncomputable def c15 := (cl (cr (cr (cr (cr c0)))))
noncomputable def c22 := (cr (cr (cr (cr (cr c0)))))
noncomputable def c28 := (cl (cl (cl (cr (cl c22)))))
noncomputable def c33 := (cr (cl (cl (cr (cl c22)))))
noncomputable def c40 := (cl (cr (cr (cl (cl c33)))))
noncomputable def c41 := (cr (cr (cr (cl (cl c33)))))
noncomputable def o13 := rops (cl c41)
noncomputable def c54 := (cl (cr (cr (cr (cr c41)))))
noncomputable def c61 := (cr (cr (cr (cr (cr c41)))))
noncomputable def c69 := (cl (cr (cl (cr (cr c61)))))
noncomputable def c78 := (cl (cl (cr (cr (cl c69)))))
noncomputable def c85 := (cl (cr (cr (cr (cr c61)))))
end F4B
/-- .. where more is handed than it looks at. -/
theorem reviewBudget_big {w₀ : World} {C : Nat → Nat} {p : Option Addr} {n c : Nat} (hF : Lim w₀ C) (hn : 400 < n) : Calls Tryz.prog 4 #[.slice p n c] w₀ (Ret fun v w' => v = .bool true ∧ Stp [] w₀ C w' C) := by
 have hF0 := hF
 have hT := Stp.refl [2, 3, 4, 5, 6, 7, 8, 9] w₀ (col1 C)
 replace hF := hF.col1
 refine calls_start (c := F4B.c0) (N := 146) [.slice p n c] Tryz.func4 (by kernel_rfl) (by kernel_rfl) (by kernel_rfl) ?_
 show Run _ _ _ _ [(0, .slice p n c)] _ _
 refine run_sq ?_
 refine run_pl [yy 0] ?_
 refine yAc 2 (.bool false) ?_
 refine Sch.nil ?_
 refine run_sq ?_
 refine run_sq ?_
 refine run_pl [nn 0, yy 1, yy 2, yy 3, nn 4, yy 5, yy 6] ?_
 refine cS (kq 23 (.call { callee := .value (.func 8), args := #[], argTypes := #[] })) rfl rfl (ent Tryz.call8 rfl) (awake_ok hF) ?_
 rintro vw1 w1 ⟨rfl, hs⟩
 refine ⟨trivial, ?_⟩
 replace hF := hF.st hs
 replace hT := hT.t hs
 refine yV (kq 24 (.unOp .not 4 (.tmp 23))) (fun _ => val_not rfl) ?_
 refine yM 25 24 ?_
 refine yMg 26 0 2 false ?_
 refine cS (kg 27 (.call { callee := .value (.func 9), args := #[(.tmp 26)], argTypes := #[22] }) 2 false) rfl rfl (ent Tryz.call9 rfl) (few_ok _ _ _ _) ?_
 rintro vw2 w2 ⟨rfl, rfl⟩
 refine ⟨trivial, ?_⟩
 rw [decide_eq_false (show ¬ (n : Int) ≤ 400 by omega)]
 refine yV (kg 28 (.unOp .not 4 (.tmp 27)) 2 false) (fun _ => val_not rfl) ?_
 refine yOf 29 25 28 ?_
 refine Sch.nil ?_
 refine run_cT 29 ?_
 refine run_sq ?_
 refine run_pl [nn 0, yy 1] ?_
 refine cS (kq 30 (.call { callee := .value (.func 8), args := #[], argTypes := #[] })) rfl rfl (ent Tryz.call8 rfl) (awake_ok hF) ?_
 rintro vw3 w3 ⟨rfl, hs⟩
 refine ⟨trivial, ?_⟩
 replace hF := hF.st hs
 replace hT := hT.t hs
 refine yA 2 30 ?_
 refine Sch.nil ?_
 refine run_ret1 (by kernel_rfl) Tryz.func4 Tryz.results4 rfl ?_
 exact ⟨rfl, hT.out1 (by decide)⟩
end Go.Proofs.YtionghonhnedgaaGreat
