/- Steps through functions of the program. -/
import Derived.Test.YtognfmeffnjijaaJHA
import Derived.Test.YtognfmeffnjijaaJU3
set_option linter.unusedVariables false
set_option linter.unusedSimpArgs false
set_option maxRecDepth 100000
set_option maxHeartbeats 4000000
namespace Go.Proofs.Ytognfmeffnjijaa
open Go.K Go.K.Rep

namespace F5
noncomputable def c0 := bodyOf Try.f5
noncomputable def c7 := (cl (cl (cr (cl (cr c0)))))
noncomputable def c15 := (cl (cr (cr (cr (cr c0)))))
noncomputable def c16 := (cr (cr (cr (cr (cr c0)))))
noncomputable def c23 := (cl (cl (cr (cl (cr c16)))))
noncomputable def c37 := (cl (cr (cl (cr (cr c16)))))
noncomputable def c51 := (cl (cr (cr (cr (cr c16)))))
noncomputable def c52 := (cr (cr (cr (cr (cr c16)))))
end F5
/-- Without larger households the couples are those of an assignment; households never raise the total. -/
theorem householdSingle_ok {w₀ : World} {C : Nat → Nat} {l : List Int} {vl : Value} (hF : Lim w₀ C) (hl : RV w₀ (Mc C) l vl) : Calls Try.prog 5 #[vl] w₀ (Ret fun v w' => v = .bool true ∧ Stp [] w₀ C w' C) := by
 have hF0 := hF
 have hT := Stp.refl [2, 3, 4, 5, 6, 7, 8, 9] w₀ (col1 C)
 replace hF := hF.col1
 replace hl : RV w₀ (Mc (col1 C)) l vl := by rw [Mc_col1]; exact hl
 refine calls_start (c := F5.c0) (N := 117) [vl] Try.func5 (by kernel_rfl) (by kernel_rfl) (by kernel_rfl) ?_
 show Run _ _ _ _ [(0, vl)] _ _
 refine run_sq ?_
 refine run_pl [yy 0] ?_
 refine yAc 2 (.bool false) ?_
 refine Sch.nil ?_
 refine run_sq ?_
 refine run_sq ?_
 refine run_pl [nn 0, yy 1, yy 2, yy 3, nn 4, yy 5, yy 6] ?_
 refine cS (kq 20 (.call { callee := .value (.func 7), args := #[], argTypes := #[] })) rfl rfl (ent Try.call7 rfl) (awake_ok hF) ?_
 rintro vw1 w1 ⟨rfl, hs⟩
 refine ⟨trivial, ?_⟩
 replace hF := hF.st hs
 replace hT := hT.t hs; replace hl := hl.t hs
 refine yV (kq 21 (.unOp .not 4 (.tmp 20))) (fun _ => val_not rfl) ?_
 refine yM 22 21 ?_
 refine yMg 23 0 2 false ?_
 refine cS (kg 24 (.call { callee := .value (.func 8), args := #[(.tmp 23)], argTypes := #[22] }) 2 false) rfl rfl (ent Try.call8 rfl) (few_any hl) ?_
 rintro vw2 w2 ⟨rfl, rfl⟩
 refine ⟨trivial, ?_⟩
 refine yV (kg 25 (.unOp .not 4 (.tmp 24)) 2 false) (fun _ => val_notd rfl) ?_
 refine yOf 26 22 25 ?_
 refine Sch.nil ?_
 refine run_i 26 rfl (fun h26 => ?_) (fun h26 => ?_)
 ·
  refine run_sq ?_
  refine run_pl [nn 0, yy 1] ?_
  refine cS (kq 27 (.call { callee := .value (.func 7), args := #[], argTypes := #[] })) rfl rfl (ent Try.call7 rfl) (awake_ok hF) ?_
  rintro vw3 w3 ⟨rfl, hs⟩
  refine ⟨trivial, ?_⟩
  replace hF := hF.st hs
  replace hT := hT.t hs; replace hl := hl.t hs
  refine yA 2 27 ?_
  refine Sch.nil ?_
  refine run_ret1 (by kernel_rfl) Try.func5 Try.results5 rfl ?_
  exact ⟨rfl, hT.out1 (by decide)⟩
 ·
  refine run_sk ?_
  refine run_sq ?_
  refine run_pl [yy 0, nn 1, yy 2] ?_
  refine yM 28 0 ?_
  refine cS (kq 29 (.call { callee := .value (.func 9), args := #[(.tmp 28)], argTypes := #[22] })) rfl rfl (ent Try.call9 rfl) (new_any hF hl) ?_
  rintro vw4 w4 ⟨Cd, bd, rfl, hs, hF, hd⟩
  refine ⟨trivial, ?_⟩
  replace hT := hT.t hs; replace hl := hl.t hs
  refine yA 3 29 ?_
  refine Sch.nil ?_
  refine run_sq ?_
  refine run_pl [yy 0, nn 1, yy 2, yy 3, nn 4, yy 5, yy 6, yy 7] ?_
  refine yM 30 3 ?_
  refine cS (kq 31 (.call { callee := .value (.func 10), args := #[(.tmp 30), (.const (.int .i64 4))], argTypes := #[25, 3] })) rfl rfl (ent Try.call10 rfl) (next_any (n := 4) hF (by decide) hd (by omega) (by omega)) ?_
  rintro vw5 w5 ⟨p, rfl, hp, hs, hd⟩
  refine ⟨trivial, ?_⟩
  replace hF := hF.st hs
  replace hT := hT.t hs; replace hl := hl.t hs
  refine yV (kq 32 (.binOp .add 3 (.const (.int .i64 1)) (.tmp 31) 3)) (fun _ => val_addi rfl rfl (by omega) (by omega)) ?_
  obtain ⟨n, hnd⟩ : ∃ x : Nat, x = p + 1 := ⟨_, rfl⟩
  rw [show (1 : Int) + (p : Int) = ((n : Nat) : Int) from by omega]
  refine yM 33 3 ?_
  refine cS (kq 34 (.call { callee := .value (.func 10), args := #[(.tmp 33), (.const (.int .i64 4))], argTypes := #[25, 3] })) rfl rfl (ent Try.call10 rfl) (next_any (n := 4) hF (by decide) hd (by omega) (by omega)) ?_
  rintro vw6 w6 ⟨q, rfl, hq, hs, hd⟩
  refine ⟨trivial, ?_⟩
  replace hF := hF.st hs
  replace hT := hT.t hs; replace hl := hl.t hs
  refine yV (kq 35 (.binOp .add 3 (.const (.int .i64 1)) (.tmp 34) 3)) (fun _ => val_addi rfl rfl (by omega) (by omega)) ?_
  obtain ⟨m, hmd⟩ : ∃ x : Nat, x = q + 1 := ⟨_, rfl⟩
  rw [show (1 : Int) + (q : Int) = ((m : Nat) : Int) from by omega]
  refine yA 4 32 ?_
  refine yA 5 35 ?_
  refine Sch.nil ?_
  refine run_sq ?_
  refine run_pl [yy 0, yy 1, yy 2, nn 3, yy 4] ?_
  refine yM 36 3 ?_
  refine yM 37 4 ?_
  refine yM 38 5 ?_
  refine cS (kq 39 (.call { callee := .value (.func 12), args := #[(.tmp 36), (.tmp 37), (.tmp 38), (.const (.int .i64 2))], argTypes := #[25, 3, 3, 3] })) rfl rfl (ent Try.call12 rfl) (edges_any (n := n) (m := m) (one := 2) hF (by decide) hd (by omega) (by omega) (by decide) (by decide)) ?_
  rintro v_el w7 ⟨el, hE, ⟨hs, he, hd⟩, _⟩
  have hEV := hE.ve (by omega) (by omega)
  have hEc := hEV.check
  refine ⟨trivial, ?_⟩
  replace hF := hF.st hs
  replace hT := hT.t hs; replace hl := hl.t hs
  refine yA 6 39 ?_
  refine Sch.nil ?_
  refine run_sq ?_
  refine run_pl [yy 0, yy 1] ?_
  refine yV (kq 7 (.assign (.const (.slice none 0 0)))) (fun _ => val_assign rfl) ?_
  refine yV (kq 8 (.assign (.const (.slice none 0 0)))) (fun _ => val_assign rfl) ?_
  refine Sch.nil ?_
  refine run_sq ?_
  refine run_sq ?_
  refine run_pl [yy 0] ?_
  refine yAc 9 (.int .i64 0) ?_
  refine Sch.nil ?_
  refine run_bk 0 ?_
  
  refine run_lp (ι := Nat × Value × (Nat → Nat)) (I := fun x w => x.1 ≤ n ∧ Lim w x.2.2 ∧ Stp [2, 3, 4, 5, 6, 7, 8, 9] w₀ (col1 C) w x.2.2 ∧ RV w (Mc x.2.2) el v_el ∧ DeckIs w x.2.2 3 bd ∧ OwnL w x.2.2 4 3 x.2.1 ((List.range x.1).map fun k : Nat => 7 * k)) (e := fun x => [(3, .pointer (some ⟨bd, 0, none⟩)), (4, .int .i64 n), (5, .int .i64 m), (6, v_el), (7, x.2.1), (8, .slice none 0 0), (9, .int .i64 x.1)]) (m := fun x => n - x.1) (x₀ := (0, .slice none 0 0, Cd)) (sr 3 (sr 4 (sr 5 (sr 6 (sr 7 (sr 8 (sr 9 (sub_nil _)))))))) ?_ ?_
  · exact ⟨Nat.zero_le _, hF, hT, he, hd, OwnL.nil⟩
  intro ⟨i, va, C1⟩ w8 hI next
  obtain ⟨hi, hF, hT, he, hd, ha⟩ := hI
  try simp only at hi hF hT he hd ha
  have next1 := next
  clear next
  show Run _ _ _ _ [(3, .pointer (some ⟨bd, 0, none⟩)), (4, .int .i64 n), (5, .int .i64 m), (6, v_el), (7, va), (8, .slice none 0 0), (9, .int .i64 i)] _ _
  have hlen : ((List.range i).map fun k : Nat => 7 * k).length = i := by simp
  refine run_sq ?_
  refine run_sq ?_
  refine run_pl [yy 0, yy 1, yy 2] ?_
  refine yM 40 9 ?_
  refine yM 41 4 ?_
  refine yV (kq 42 (.binOp .lss 3 (.tmp 40) (.tmp 41) 3)) (fun _ => val_lss rfl rfl) ?_
  refine Sch.nil ?_
  refine run_i 42 rfl (fun h42 => ?_) (fun h42 => ?_)
  ·
   have hin : i < n := by omega
   refine run_sk ?_
   refine run_sq ?_
   refine run_bk 1 ?_
   refine run_pl [yy 0, yy 1, yy 2, nn 3, nn 4, yy 5] ?_
   refine yM 45 7 ?_
   refine yM 46 9 ?_
   refine yV (kq 47 (.binOp .mul 3 (.const (.int .i64 7)) (.tmp 46) 3)) (fun _ => val_muli rfl rfl (by omega) (by omega)) ?_
   refine aS (kq 48 (.buildSlice 22 1 #[(0, (.tmp 47))])) rfl rfl (a_buildSlice (ys := ([7 * i] : List Nat)) (e := 3) (bytes := 8) hF (by kernel_rfl) rfl (by decide) (by decide) ⟨rfl, ⟨_, rfl, rv_nat.2 (congrArg (Value.int .i64) (by omega))⟩, trivial⟩) ?_
   rintro v48 w9 ⟨hs, g48, hF⟩
   refine ⟨trivial, ?_⟩
   replace hT := hT.t hs; replace he := he.t hs
   replace hd := hd.st hs (by first | decide | (simp <;> omega)) (by first | decide | (simp <;> omega))
   replace ha := ha.t hs
   refine aS (kq 49 (.call { callee := .builtin .append, args := #[(.tmp 45), (.tmp 48)], argTypes := #[22, 22] })) rfl rfl (a_append (e := 3) (bytes := 8) hF (by decide) rfl rfl (by kernel_rfl) (by decide) ha g48 (by simp only [List.length_cons, List.length_nil]; omega) (by simp only [List.length_cons, List.length_nil]; omega)) ?_
   rintro v49 w10 ⟨Cw10, hs, ha, hF⟩
   refine ⟨trivial, ?_⟩
   replace hT := hT.t hs; replace he := he.t hs
   replace hd := hd.st hs (by first | decide | (simp <;> omega)) (by first | decide | (simp <;> omega))
   replace g48 := g48.t hs
   refine yA 7 49 ?_
   refine Sch.nil ?_
   refine run_inBlock ?_
   refine run_pl [yy 0, yy 1, yy 2] ?_
   refine yM 43 9 ?_
   refine yV (kq 44 (.binOp .add 3 (.tmp 43) (.const (.int .i64 1)) 3)) (fun _ => val_addi rfl rfl (by omega) (by omega)) ?_
   refine yA 9 44 ?_
   refine Sch.nil ?_
   refine kp (sub_cons 3 rfl rfl (sub_cons 4 rfl rfl (sub_cons 5 rfl rfl (sub_cons 6 rfl rfl (sub_cons 7 rfl rfl (sub_cons 8 rfl rfl (sub_cons 9 rfl (eq_int (by simp)) (sub_nil _)))))))) (next1 (i + 1, v49, Cw10) _ ⟨(by first | omega | (simp only; omega)), hF, hT, he, hd, (by simp only; rw [List.range_succ, List.map_append]; exact ha)⟩ (by first | omega | (simp only; omega)))
  ·
   have hin : i = n := by omega
   rw [hin] at ha hlen
   refine run_ex 0 ?_
   refine run_sq ?_
   refine run_sq ?_
   refine run_pl [yy 0] ?_
   refine yAc 10 (.int .i64 0) ?_
   refine Sch.nil ?_
   refine run_bk 2 ?_
   
   refine run_lp (ι := Nat × Value × (Nat → Nat)) (I := fun x w => x.1 ≤ m ∧ Lim w x.2.2 ∧ Stp [2, 3, 4, 5, 6, 7, 8, 9] w₀ (col1 C) w x.2.2 ∧ RV w (Mc x.2.2) el v_el ∧ DeckIs w x.2.2 3 bd ∧ OwnL w x.2.2 4 3 va ((List.range n).map fun k : Nat => 7 * k) ∧ OwnL w x.2.2 5 3 x.2.1 ((List.range x.1).map fun k : Nat => 63 - k)) (e := fun x => [(3, .pointer (some ⟨bd, 0, none⟩)), (4, .int .i64 n), (5, .int .i64 m), (6, v_el), (7, va), (8, x.2.1), (10, .int .i64 x.1)]) (m := fun x => m - x.1) (x₀ := (0, .slice none 0 0, C1)) (sr 3 (sr 4 (sr 5 (sr 6 (sr 7 (sr 8 (sr 10 (sub_nil _)))))))) ?_ ?_
   · exact ⟨Nat.zero_le _, hF, hT, he, hd, ha, OwnL.nil⟩
   intro ⟨j, vb, C2⟩ w11 hI next
   obtain ⟨hj, hF, hT, he, hd, ha, hb⟩ := hI
   try simp only at hj hF hT he hd ha hb
   have next2 := next
   clear next
   show Run _ _ _ _ [(3, .pointer (some ⟨bd, 0, none⟩)), (4, .int .i64 n), (5, .int .i64 m), (6, v_el), (7, va), (8, vb), (10, .int .i64 j)] _ _
   have hlen2 : ((List.range j).map fun k : Nat => 63 - k).length = j := by simp
   refine run_sq ?_
   refine run_sq ?_
   refine run_pl [yy 0, yy 1, yy 2] ?_
   refine yM 50 10 ?_
   refine yM 51 5 ?_
   refine yV (kq 52 (.binOp .lss 3 (.tmp 50) (.tmp 51) 3)) (fun _ => val_lss rfl rfl) ?_
   refine Sch.nil ?_
   refine run_i 52 rfl (fun h52 => ?_) (fun h52 => ?_)
   ·
    have hjm : j < m := by omega
    refine run_sk ?_
    refine run_sq ?_
    refine run_bk 3 ?_
    refine run_pl [yy 0, yy 1, yy 2, nn 3, nn 4, yy 5] ?_
    refine yM 55 8 ?_
    refine yM 56 10 ?_
    refine yV (kq 57 (.binOp .sub 3 (.const (.int .i64 63)) (.tmp 56) 3)) (fun _ => val_subi rfl rfl (by omega) (by omega)) ?_
    refine aS (kq 58 (.buildSlice 22 1 #[(0, (.tmp 57))])) rfl rfl (a_buildSlice (ys := ([63 - j] : List Nat)) (e := 3) (bytes := 8) hF (by kernel_rfl) rfl (by decide) (by decide) ⟨rfl, ⟨_, rfl, rv_nat.2 (congrArg (Value.int .i64) (by omega))⟩, trivial⟩) ?_
    rintro v58 w12 ⟨hs, g58, hF⟩
    refine ⟨trivial, ?_⟩
    replace hT := hT.t hs; replace he := he.t hs
    replace hd := hd.st hs (by first | decide | (simp <;> omega)) (by first | decide | (simp <;> omega))
    replace ha := ha.t hs; replace hb := hb.t hs
    refine aS (kq 59 (.call { callee := .builtin .append, args := #[(.tmp 55), (.tmp 58)], argTypes := #[22, 22] })) rfl rfl (a_append (e := 3) (bytes := 8) hF (by decide) rfl rfl (by kernel_rfl) (by decide) hb g58 (by simp only [List.length_cons, List.length_nil]; omega) (by simp only [List.length_cons, List.length_nil]; omega)) ?_
    rintro v59 w13 ⟨Cw13, hs, hb, hF⟩
    refine ⟨trivial, ?_⟩
    replace hT := hT.t hs; replace he := he.t hs
    replace hd := hd.st hs (by first | decide | (simp <;> omega)) (by first | decide | (simp <;> omega))
    replace ha := ha.t hs; replace g58 := g58.t hs
    refine yA 8 59 ?_
    refine Sch.nil ?_
    refine run_inBlock ?_
    refine run_pl [yy 0, yy 1, yy 2] ?_
    refine yM 53 10 ?_
    refine yV (kq 54 (.binOp .add 3 (.tmp 53) (.const (.int .i64 1)) 3)) (fun _ => val_addi rfl rfl (by omega) (by omega)) ?_
    refine yA 10 54 ?_
    refine Sch.nil ?_
    refine kp (sub_cons 3 rfl rfl (sub_cons 4 rfl rfl (sub_cons 5 rfl rfl (sub_cons 6 rfl rfl (sub_cons 7 rfl rfl (sub_cons 8 rfl rfl (sub_cons 10 rfl (eq_int (by simp)) (sub_nil _)))))))) (next2 (j + 1, v59, Cw13) _ ⟨(by first | omega | (simp only; omega)), hF, hT, he, hd, ha, (by simp only; rw [List.range_succ, List.map_append]; exact hb)⟩ (by first | omega | (simp only; omega)))
   ·
    have hjm : j = m := by omega
    rw [hjm] at hb hlen2
    obtain ⟨al, hal⟩ : ∃ x, x = ((List.range n).map fun k : Nat => 7 * k) := ⟨_, rfl⟩
    obtain ⟨bl, hbl⟩ : ∃ x, x = ((List.range m).map fun k : Nat => 63 - k) := ⟨_, rfl⟩
    rw [← hal] at ha hlen
    rw [← hbl] at hb hlen2
    have hga : ∀ k, k < n → gN al k = 7 * k := fun k hk => by rw [hal]; exact gN_map hk
    have hgb : ∀ k, k < m → gN bl k = 63 - k := fun k hk => by rw [hbl]; exact gN_map hk
    have hH : HH n m al bl := hh_of hlen hlen2 (fun k hk => by rw [hga k hk]; omega) (fun k hk => by rw [hgb k hk]; omega)
    obtain ⟨hq1, hq2⟩ := single_law hEV hH (fun i i' hi hi' e => by rw [hga i hi, hga i' hi'] at e; omega) (fun i i' hi hi' e => by rw [hgb i hi, hgb i' hi'] at e; omega)
    replace hF := hF.frz 4
    replace hT := hT.frz (n := 4) (fun b => Nat.lt_of_lt_of_le (col1_lt2 C b) (by decide))
    replace he := he.frz 4
    replace hd := hd.frz (n := 4) (by decide)
    have ha_ := ha.frz (n := 4) (by decide) (by omega)
    have hb_ := hb.frz (n := 4) (by decide) (by omega)
    replace ha := ha_
    clear ha_
    replace hb := hb_
    clear hb_
    refine run_ex 2 ?_
    refine run_sq ?_
    refine run_pl [yy 0, yy 1, yy 2, yy 3, yy 4, nn 5, yy 6, yy 7, yy 8, yy 9, yy 10, yy 11, yy 12] ?_
    refine yM 61 4 ?_
    refine yM 62 5 ?_
    refine yM 63 7 ?_
    refine yM 64 8 ?_
    refine yM 65 6 ?_
    refine cS (kq 66 (.call { callee := .value (.func 14), args := #[(.tmp 61), (.tmp 62), (.tmp 63), (.tmp 64), (.tmp 65)], argTypes := #[3, 3, 22, 22, 29] })) rfl rfl (ent Try.call14 rfl) (hsolve_ok (n := n) (m := m) (al := al) (bl := bl) hF hEV hH ha hb he) ?_
    rintro vw14 w14 ⟨u1, rfl, hs, hc1⟩
    refine ⟨trivial, ?_⟩
    replace hF := hF.st hs
    replace hT := hT.t hs; replace he := he.t hs
    replace hd := hd.st hs (by first | decide | (simp <;> omega)) (by first | decide | (simp <;> omega))
    replace ha := ha.t hs; replace hb := hb.t hs
    refine yM 60 66 ?_
    refine yV (kq 67 (.extract (.tmp 60) 0)) (fun _ => val_extract rfl rfl) ?_
    refine yV (kq 68 (.extract (.tmp 60) 1)) (fun _ => val_extract rfl rfl) ?_
    refine yV (kq 69 (.extract (.tmp 60) 2)) (fun _ => val_extract rfl rfl) ?_
    refine yA 11 67 ?_
    refine yA 12 68 ?_
    refine yA 13 69 ?_
    refine Sch.nil ?_
    refine run_sq ?_
    refine run_pl [yy 0, yy 1, yy 2, nn 3, yy 4, yy 5, yy 6, yy 7, yy 8, yy 9, yy 10] ?_
    refine yM 71 4 ?_
    refine yM 72 5 ?_
    refine yM 73 6 ?_
    refine cS (kq 74 (.call { callee := .value (.func 17), args := #[(.tmp 71), (.tmp 72), (.tmp 73)], argTypes := #[3, 3, 29] })) rfl rfl (ent Try.call17 rfl) (solve_ok (n := n) (m := m) (l := el) hF he) ?_
    rintro vw15 w15 ⟨u2, rfl, hs, hc2⟩
    refine ⟨trivial, ?_⟩
    replace hF := hF.st hs
    replace hT := hT.t hs; replace he := he.t hs
    replace hd := hd.st hs (by first | decide | (simp <;> omega)) (by first | decide | (simp <;> omega))
    replace ha := ha.t hs; replace hb := hb.t hs; replace hc1 := hc1.t hs
    rw [hEc]
    refine yM 70 74 ?_
    refine yV (kq 75 (.extract (.tmp 70) 0)) (fun _ => val_extract rfl rfl) ?_
    refine yV (kq 76 (.extract (.tmp 70) 1)) (fun _ => val_extract rfl rfl) ?_
    refine yV (kq 77 (.extract (.tmp 70) 2)) (fun _ => val_extract rfl rfl) ?_
    refine yA 14 75 ?_
    refine yA 15 76 ?_
    refine yA 16 77 ?_
    refine Sch.nil ?_
    refine run_sq ?_
    refine run_pl [yy 0, yy 1, yy 2, yy 3, nn 4, yy 5, yy 6, nn 7, yy 8, nn 9, yy 10, yy 11, yy 12, yy 13, yy 14, yy 15, yy 16] ?_
    refine yM 79 4 ?_
    refine yM 80 5 ?_
    refine yM 81 3 ?_
    refine yM 82 4 ?_
    refine cS (kq 83 (.call { callee := .value (.func 11), args := #[(.tmp 81), (.tmp 82)], argTypes := #[25, 3] })) rfl rfl (ent Try.call11 rfl) (houses_any (n := n) hF (by decide) hd (by omega)) ?_
    rintro vc_ w16 ⟨cl_, hcl_l, hcl_3, hs, hh1, hd⟩
    refine ⟨trivial, ?_⟩
    replace hF := hF.st hs
    replace hT := hT.t hs; replace he := he.t hs; replace ha := ha.t hs; replace hb := hb.t hs; replace hc1 := hc1.t hs; replace hc2 := hc2.t hs
    refine yM 84 3 ?_
    refine yM 85 5 ?_
    refine cS (kq 86 (.call { callee := .value (.func 11), args := #[(.tmp 84), (.tmp 85)], argTypes := #[25, 3] })) rfl rfl (ent Try.call11 rfl) (houses_any (n := m) hF (by decide) hd (by omega)) ?_
    rintro vd_ w17 ⟨dl_, hdl_l, hdl_3, hs, hh2, hd⟩
    refine ⟨trivial, ?_⟩
    replace hF := hF.st hs
    replace hT := hT.t hs; replace he := he.t hs; replace ha := ha.t hs; replace hb := hb.t hs; replace hc1 := hc1.t hs; replace hc2 := hc2.t hs; replace hh1 := hh1.t hs
    refine yM 87 6 ?_
    obtain ⟨hH2, _, _⟩ := hh_small hcl_l hdl_l hcl_3 hdl_3
    have hless := less_law hEV hH2
    refine cS (kq 88 (.call { callee := .value (.func 14), args := #[(.tmp 79), (.tmp 80), (.tmp 83), (.tmp 86), (.tmp 87)], argTypes := #[3, 3, 22, 22, 29] })) rfl rfl (ent Try.call14 rfl) (hsolve_ok (n := n) (m := m) (al := cl_) (bl := dl_) hF hEV hH2 hh1 hh2 he) ?_
    rintro vw18 w18 ⟨u3, rfl, hs, hc3⟩
    refine ⟨trivial, ?_⟩
    replace hF := hF.st hs
    replace hT := hT.t hs; replace he := he.t hs
    replace hd := hd.st hs (by first | decide | (simp <;> omega)) (by first | decide | (simp <;> omega))
    replace ha := ha.t hs; replace hb := hb.t hs; replace hc1 := hc1.t hs; replace hc2 := hc2.t hs; replace hh1 := hh1.t hs; replace hh2 := hh2.t hs
    refine yM 78 88 ?_
    refine yV (kq 89 (.extract (.tmp 78) 0)) (fun _ => val_extract rfl rfl) ?_
    refine yV (kq 90 (.extract (.tmp 78) 1)) (fun _ => val_extract rfl rfl) ?_
    refine yV (kq 91 (.extract (.tmp 78) 2)) (fun _ => val_extract rfl rfl) ?_
    refine yA 17 89 ?_
    refine yA 18 90 ?_
    refine yA 19 91 ?_
    refine Sch.nil ?_
    refine run_sq ?_
    refine run_pl [yy 0, yy 1, yy 2, yy 3, yy 4, yy 5, yy 6, yy 7, yy 8, yy 9, yy 10, yy 11, yy 12, yy 13, yy 14, yy 15, yy 16, yy 17, nn 18, yy 19, yy 20, yy 21, yy 22, yy 23, yy 24, yy 25] ?_
    refine yM 92 13 ?_
    refine yV (kq 93 (.binOp .eql 35 (.tmp 92) (.const (.int .i64 0)) 35)) (fun _ => val_is (val_eql rfl rfl) (show _ = Value.bool true from congrArg Value.bool (decide_eq_true (rfl)))) ?_
    refine yM 94 93 ?_
    refine yMg 95 16 2 true ?_
    refine yV (kg 96 (.binOp .eql 35 (.tmp 95) (.const (.int .i64 0)) 35) 2 true) (fun _ => val_is (val_eql rfl rfl) (show _ = Value.bool true from congrArg Value.bool (decide_eq_true (rfl)))) ?_
    refine yAt 97 94 96 ?_
    refine yM 98 97 ?_
    refine yMg 99 19 6 true ?_
    refine yV (kg 100 (.binOp .eql 35 (.tmp 99) (.const (.int .i64 0)) 35) 6 true) (fun _ => val_is (val_eql rfl rfl) (show _ = Value.bool true from congrArg Value.bool (decide_eq_true (rfl)))) ?_
    refine yAt 101 98 100 ?_
    refine yM 102 101 ?_
    refine yMg 103 12 10 true ?_
    refine yMg 104 15 10 true ?_
    refine yV (kg 105 (.binOp .eql 3 (.tmp 103) (.tmp 104) 3) 10 true) (fun _ => val_is (val_eql rfl rfl) (show _ = Value.bool true from congrArg Value.bool (decide_eq_true (hq2)))) ?_
    refine yAt 106 102 105 ?_
    refine yM 107 106 ?_
    refine yMg 108 11 15 true ?_
    refine yMg 109 14 15 true ?_
    refine cS (kg 110 (.call { callee := .value (.func 15), args := #[(.tmp 108), (.tmp 109)], argTypes := #[31, 31] }) 15 true) rfl rfl (ent Try.call15 rfl) (same_ok hF hc1 hc2) ?_
    rintro vw19 w19 ⟨rfl, hs⟩
    rw [decide_eq_true hq1]
    refine ⟨trivial, ?_⟩
    replace hF := hF.st hs
    replace hT := hT.t hs; replace he := he.t hs
    replace hd := hd.st hs (by first | decide | (simp <;> omega)) (by first | decide | (simp <;> omega))
    replace ha := ha.t hs; replace hb := hb.t hs; replace hc1 := hc1.t hs; replace hc2 := hc2.t hs; replace hh1 := hh1.t hs; replace hh2 := hh2.t hs; replace hc3 := hc3.t hs
    refine yAt 111 107 110 ?_
    refine yM 112 111 ?_
    refine yMg 113 18 20 true ?_
    refine yMg 114 15 20 true ?_
    refine yV (kg 115 (.binOp .leq 3 (.tmp 113) (.tmp 114) 3) 20 true) (fun _ => val_is (val_leq rfl rfl) (show _ = Value.bool true from congrArg Value.bool (decide_eq_true (hless)))) ?_
    refine yAt 116 112 115 ?_
    refine yA 2 116 ?_
    refine Sch.nil ?_
    refine run_ret1 (by kernel_rfl) Try.func5 Try.results5 rfl ?_
    exact ⟨rfl, hT.out1 (by decide)⟩
namespace F5B
noncomputable def c0 := bodyOf Try.f5
noncomputable def c7 := (cl (cl (cr (cl (cr c0)))))
noncomputable def c15 := (cl (cr (cr (cr (cr c0)))))
noncomputable def c16 := (cr (cr (cr (cr (cr c0)))))
noncomputable def c23 := (cl (cl (cr (cl (cr c16)))))
noncomputable def c37 := (cl (cr (cl (cr (cr c16)))))
noncomputable def c51 := (cl (cr (cr (cr (cr c16)))))
noncomputable def c52 := (cr (cr (cr (cr (cr c16)))))
end F5B
/-- .. where more is handed than it looks at. -/
theorem householdSingle_big {w₀ : World} {C : Nat → Nat} {p : Option Addr} {n c : Nat} (hF : Lim w₀ C) (hn : 400 < n) : Calls Try.prog 5 #[.slice p n c] w₀ (Ret fun v w' => v = .bool true ∧ Stp [] w₀ C w' C) := by
 have hF0 := hF
 have hT := Stp.refl [2, 3, 4, 5, 6, 7, 8, 9] w₀ (col1 C)
 replace hF := hF.col1
 refine calls_start (c := F5B.c0) (N := 117) [.slice p n c] Try.func5 (by kernel_rfl) (by kernel_rfl) (by kernel_rfl) ?_
 show Run _ _ _ _ [(0, .slice p n c)] _ _
 refine run_sq ?_
 refine run_pl [yy 0] ?_
 refine yAc 2 (.bool false) ?_
 refine Sch.nil ?_
 refine run_sq ?_
 refine run_sq ?_
 refine run_pl [nn 0, yy 1, yy 2, yy 3, nn 4, yy 5, yy 6] ?_
 refine cS (kq 20 (.call { callee := .value (.func 7), args := #[], argTypes := #[] })) rfl rfl (ent Try.call7 rfl) (awake_ok hF) ?_
 rintro vw1 w1 ⟨rfl, hs⟩
 refine ⟨trivial, ?_⟩
 replace hF := hF.st hs
 replace hT := hT.t hs
 refine yV (kq 21 (.unOp .not 4 (.tmp 20))) (fun _ => val_not rfl) ?_
 refine yM 22 21 ?_
 refine yMg 23 0 2 false ?_
 refine cS (kg 24 (.call { callee := .value (.func 8), args := #[(.tmp 23)], argTypes := #[22] }) 2 false) rfl rfl (ent Try.call8 rfl) (few_ok _ _ _ _) ?_
 rintro vw2 w2 ⟨rfl, rfl⟩
 refine ⟨trivial, ?_⟩
 rw [decide_eq_false (show ¬ (n : Int) ≤ 400 by omega)]
 refine yV (kg 25 (.unOp .not 4 (.tmp 24)) 2 false) (fun _ => val_not rfl) ?_
 refine yOf 26 22 25 ?_
 refine Sch.nil ?_
 refine run_cT 26 ?_
 refine run_sq ?_
 refine run_pl [nn 0, yy 1] ?_
 refine cS (kq 27 (.call { callee := .value (.func 7), args := #[], argTypes := #[] })) rfl rfl (ent Try.call7 rfl) (awake_ok hF) ?_
 rintro vw3 w3 ⟨rfl, hs⟩
 refine ⟨trivial, ?_⟩
 replace hF := hF.st hs
 replace hT := hT.t hs
 refine yA 2 27 ?_
 refine Sch.nil ?_
 refine run_ret1 (by kernel_rfl) Try.func5 Try.results5 rfl ?_
 exact ⟨rfl, hT.out1 (by decide)⟩
end Go.Proofs.Ytognfmeffnjijaa
