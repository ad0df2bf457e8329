/- Steps through functions of the program. -/
import Derived.Test.YtgooehopkmbkfaaJX8
set_option linter.unusedVariables false
set_option linter.unusedSimpArgs false
set_option maxRecDepth 100000
set_option maxHeartbeats 4000000
namespace Go.Proofs.Ytgooehopkmbkfaa
open Go.K Go.K.Rep

namespace F25
noncomputable def c0 := bodyOf Try.f25
noncomputable def c8 := (cl (cr (cr (cl (cr c0)))))
noncomputable def o4 := rops (cl (cr (cr c0)))
noncomputable def c16 := (cl (cl (cr (cr (cr c0)))))
noncomputable def c17 := (cr (cl (cr (cr (cr c0)))))
noncomputable def c23 := (cl (cr (cr (cr (cr c0)))))
noncomputable def c24 := (cr (cr (cr (cr (cr c0)))))
noncomputable def c32 := (cl (cr (cl (cr (cr c24)))))
noncomputable def c45 := (cl (cl (cr (cr (cr c24)))))
noncomputable def c46 := (cr (cl (cr (cr (cr c24)))))
noncomputable def c56 := (cl (cl (cr (cl (cl c46)))))
noncomputable def c59 := (cl (cr (cr (cr (cr c24)))))
noncomputable def c65 := (cl (cl (cl (cl (cr c59)))))
noncomputable def c66 := (cr (cl (cl (cl (cr c59)))))
noncomputable def c70 := (cl (cr (cl (cl (cr c59)))))
noncomputable def c72 := (cr (cr (cl (cl (cr c59)))))
noncomputable def c73 := (cr (cr (cr (cr (cr c24)))))
end F25
/-- The reference's 'Prices' answers. -/
theorem rprices_ok {w₀ : World} {C : Nat → Nat} {n m : Int} {l : List K.Edge} {vl : Value} (hF : Lim w₀ C) (hl : RV w₀ (Mc C) l vl) : Calls Try.prog 25 #[.int .i64 n, .int .i64 m, vl] w₀ (Ret fun v w' => ∃ (u1 v1 : Value) (ul vl : List Int), v = .tuple #[u1, v1, .int .i64 (chkE n m l)] ∧ Stp [] w₀ C w' C ∧ RV w' (Mc C) ul u1 ∧ RV w' (Mc C) vl v1) := by
 have hF0 := hF
 have hT := Stp.refl [2, 3, 4, 5, 6, 7, 8, 9] w₀ (col1 C)
 replace hF := hF.col1
 replace hl : RV w₀ (Mc (col1 C)) l vl := by rw [Mc_col1]; exact hl
 refine calls_start (c := F25.c0) (N := 115) [.int .i64 n, .int .i64 m, vl] Try.func25 (by kernel_rfl) (by kernel_rfl) (by kernel_rfl) ?_
 show Run _ _ _ _ [(0, .int .i64 n), (1, .int .i64 m), (2, vl)] _ _
 refine run_sq ?_
 refine run_pl [yy 0, yy 1, yy 2] ?_
 refine yV (kq 6 (.assign (.const (.slice none 0 0)))) (fun _ => val_assign rfl) ?_
 refine yV (kq 7 (.assign (.const (.slice none 0 0)))) (fun _ => val_assign rfl) ?_
 refine yAc 8 (.int .i64 0) ?_
 refine Sch.nil ?_
 refine run_sq ?_
 refine run_sq ?_
 refine run_pl [yy 0, yy 1, yy 2, nn 3, yy 4] ?_
 refine yM 18 0 ?_
 refine yM 19 1 ?_
 refine yM 20 2 ?_
 refine cS (kq 21 (.call { callee := .value (.func 18), args := #[(.tmp 18), (.tmp 19), (.tmp 20)], argTypes := #[3, 3, 23] })) rfl rfl (ent Try.call18 rfl) (rcheck_ok hF hl) ?_
 rintro vw1 w1 ⟨rfl, hs⟩
 refine ⟨trivial, ?_⟩
 replace hF := hF.st hs
 replace hT := hT.t hs; replace hl := hl.t hs
 refine yA 9 21 ?_
 refine Sch.nil ?_
 refine run_sq ?_
 refine run_pl [yy 0, yy 1] ?_
 refine yM 22 9 ?_
 refine yV (kq 23 (.binOp .neq 35 (.tmp 22) (.const (.int .i64 0)) 35)) (fun _ => val_neq rfl rfl) ?_
 refine Sch.nil ?_
 refine run_i 23 rfl (fun h23 => ?_) (fun h23 => ?_)
 ·
  refine run_sq ?_
  refine run_pl [yy 0, yy 1, yy 2, yy 3] ?_
  refine yM 24 9 ?_
  refine yV (kq 6 (.assign (.const (.slice none 0 0)))) (fun _ => val_assign rfl) ?_
  refine yV (kq 7 (.assign (.const (.slice none 0 0)))) (fun _ => val_assign rfl) ?_
  refine yA 8 24 ?_
  refine Sch.nil ?_
  refine run_ret3 (by kernel_rfl) Try.func25 Try.results25 rfl rfl rfl ?_
  exact ⟨_, _, [], [], rfl, hT.out1 (by decide), rv_nil, rv_nil⟩
 ·
  have hz : chkE n m l = 0 := by simpa using h23
  have hV := chkE_zero hz
  obtain ⟨n0, rfl⟩ : ∃ k : Nat, n = k := ⟨n.toNat, by have := hV.n0; omega⟩
  obtain ⟨m0, rfl⟩ : ∃ k : Nat, m = k := ⟨m.toNat, by have := hV.m0; omega⟩
  have hn6 : n0 ≤ 64 := by have := hV.n1; omega
  have hm6 : m0 ≤ 64 := by have := hV.m1; omega
  refine run_sk ?_
  refine run_sq ?_
  refine run_draw2 (id := 4) (ops := F25.o4) [] (col1 C) [0, 2] 1 [yy 4, nn 3, yy 5] 3 [nn 1, yy 4, yy 5] Try_mixed (by kernel_rfl) (by kernel_rfl) (by kernel_rfl) ?_ ?_
  ·
   intro w2 hs
   replace hF := hF.st hs
   replace hT := hT.t hs; replace hl := hl.t hs
   show Sch _ _ _ _ _ _ _ [yy 0, yy 2, nn 1, yy 4, nn 3, yy 5] _ _
   have hR := Stp.refl [] w2 (col1 C)
   refine yM 25 0 ?_
   refine yM 27 1 ?_
   refine aS (kq 26 (.makeSlice 22 (.tmp 25) (.tmp 25))) rfl rfl (a_make (e := 3) (bytes := 8) (x0 := (0 : Int)) (zs := [.int .i64 0]) hF (j := 5) (by decide) (by kernel_rfl) (by kernel_rfl) rfl rfl (by omega) (by omega) (by omega) (fun h M => zero_int)) ?_
   rintro v26 w3 ⟨Cw3, hs, hu, hF⟩
   refine ⟨(hR.trans hs (by simp)).ext, ?_⟩
   replace hT := hT.t hs; replace hl := hl.t hs; replace hR := hR.t hs
   refine yA 10 26 ?_
   refine aS (kq 28 (.makeSlice 22 (.tmp 27) (.tmp 27))) rfl rfl (a_make (e := 3) (bytes := 8) (x0 := (0 : Int)) (zs := [.int .i64 0]) hF (j := 6) (by decide) (by kernel_rfl) (by kernel_rfl) rfl rfl (by omega) (by omega) (by omega) (fun h M => zero_int)) ?_
   rintro v28 w4 ⟨Cw4, hs, hv, hF⟩
   refine ⟨(hR.trans hs (by simp)).ext, ?_⟩
   replace hT := hT.t hs; replace hl := hl.t hs; replace hR := hR.t hs; replace hu := hu.t hs
   refine yA 11 28 ?_
   refine Sch.nil ?_
   refine run_sq ?_
   refine run_sq ?_
   refine run_cut 34 (decide (n0 = 0 ∨ m0 = 0)) (Cw4) ?_ ?_
   ·
    intro hcut
    by_cases hA : n0 = 0
    ·
     refine run_pl [yy 0, yy 1, yy 2, yy 3, yy 4, yy 5] ?_
     refine yM 29 0 ?_
     refine yV (kq 30 (.binOp .eql 3 (.tmp 29) (.const (.int .i64 0)) 3)) (fun _ => val_T (val_eql rfl rfl) (by omega)) ?_
     refine yM 31 30 ?_
     refine pX 32 2 false ?_
     refine pX 33 2 false ?_
     refine yOt 34 31 33 ?_
     exact Sch.nil (hcut _ _ _ (Stp.refl _ _ _) rfl (eq_bool (decide_eq_true (Or.inl hA)).symm) (sk 6))
    ·
     refine run_pl [yy 0, yy 1, yy 2, yy 3, yy 4, yy 5] ?_
     refine yM 29 0 ?_
     refine yV (kq 30 (.binOp .eql 3 (.tmp 29) (.const (.int .i64 0)) 3)) (fun _ => val_F (val_eql rfl rfl) (by omega)) ?_
     refine yM 31 30 ?_
     refine yMg 32 1 2 false ?_
     refine yV (kg 33 (.binOp .eql 3 (.tmp 32) (.const (.int .i64 0)) 3) 2 false) (fun _ => val_eql rfl rfl) ?_
     refine yOf 34 31 33 ?_
     exact Sch.nil (hcut _ _ _ (Stp.refl _ _ _) rfl (eq_bool (decide_eq_decide.2 (by omega))) (sk 6))
   intro w5 hs
   replace hF := hF.st hs
   replace hT := hT.t hs; replace hl := hl.t hs; replace hu := hu.t hs; replace hv := hv.t hs
   refine run_i 34 rfl (fun h34 => ?_) (fun h34 => ?_)
   ·
    have hul0 : (List.replicate n0 (0 : Int)).length = n0 := List.length_replicate
    have hvl0 : (List.replicate m0 (0 : Int)).length = m0 := List.length_replicate
    refine run_sq ?_
    refine run_pl [yy 0, yy 1, yy 2, yy 3, yy 4] ?_
    refine yM 35 10 ?_
    refine yM 36 11 ?_
    refine yA 6 35 ?_
    refine yA 7 36 ?_
    refine yAc 8 (.int .i64 0) ?_
    refine Sch.nil ?_
    refine run_ret3 (by kernel_rfl) Try.func25 Try.results25 rfl rfl rfl ?_
    exact ⟨_, _, _, _, by rw [hz], hT.out1 (by decide), hu.out hT hF0 (Mc_col1 C) (fun b _ => col1_lt C (by decide) b) (by omega), hv.out hT hF0 (Mc_col1 C) (fun b _ => col1_lt C (by decide) b) (by omega)⟩
   ·
    have hul0 : (List.replicate n0 (0 : Int)).length = n0 := List.length_replicate
    have hvl0 : (List.replicate m0 (0 : Int)).length = m0 := List.length_replicate
    refine run_sk ?_
    refine run_sq ?_
    refine run_pl [yy 0, yy 1, yy 2, nn 3, yy 4] ?_
    refine yM 37 0 ?_
    refine yM 38 1 ?_
    refine yM 39 2 ?_
    refine cS (kq 40 (.call { callee := .value (.func 36), args := #[(.tmp 37), (.tmp 38), (.tmp 39)], argTypes := #[3, 3, 23] })) rfl rfl (ent Try.call36 rfl) (matrix_ok hF hl hV hn6 hm6) ?_
    rintro vw0 w6 ⟨Cm, vf0, hs, hF, ho, hin⟩
    refine ⟨trivial, ?_⟩
    replace hT := hT.t hs; replace hl := hl.t hs; replace hu := hu.t hs; replace hv := hv.t hs
    replace hin : ∀ q, q < n0 → OwnL w6 Cm (100 + q) 3 (vf0 q) ((mmat l n0 m0).getD q []) := fun q hq => by rw [mmat_getD hq]; exact hin q hq
    have hMx0 := mmat_ok (n := n0) (m := m0) hV
    have hwv := mx_read hMx0 hn6 hm6 ho hin
    replace hF := hF.frz 99
    replace hT := hT.frz (n := 99) (fun b => Nat.lt_of_lt_of_le (col1_lt2 C b) (by decide))
    replace hu := hu.frzK (n := 99) (by decide)
    replace hv := hv.frzK (n := 99) (by decide)
    replace hl := hl.frz 99
    clear ho hin
    have hB0 : ∀ i j, i < n0 → j < m0 → 0 ≤ wK (mmat l n0 m0) i j ∧ wK (mmat l n0 m0) i j ≤ 65536 := fun i j hi hj => by
      have h0 := hMx0.n
      have h1 := hMx0.m _ (List.getElem_mem (show i < (mmat l n0 m0).length by omega))
      rw [wK_at (by omega) (by omega)]
      exact hMx0.b _ (List.getElem_mem _) _ (List.getElem_mem _)
    refine yA 12 40 ?_
    refine Sch.nil ?_
    refine run_sq ?_
    refine run_pl [yy 0, yy 1, yy 2, yy 3, yy 4, yy 5, nn 6, nn 7, yy 8] ?_
    refine yM 41 0 ?_
    refine yM 42 1 ?_
    refine yV (kq 43 (.binOp .add 3 (.tmp 41) (.tmp 42) 3)) (fun _ => val_is (val_addi rfl rfl (by omega) (by omega)) (congrArg (Value.int .i64) (show (n0 : Int) + (m0 : Int) = ((n0 + m0 : Nat) : Int) from by omega))) ?_
    refine yM 44 12 ?_
    refine yM 45 0 ?_
    refine yM 46 1 ?_
    refine cS (kq 47 (.call { callee := .value (.func 42), args := #[(.tmp 44), (.tmp 45), (.tmp 46)], argTypes := #[70, 3, 3] })) rfl rfl (ent Try.call42 rfl) (costs_ok hF hwv hMx0.n hMx0.m hMx0.b hn6 hm6) ?_
    rintro vk w7 ⟨hs, hk0⟩
    refine ⟨trivial, ?_⟩
    replace hF := hF.st hs
    replace hT := hT.t hs; replace hl := hl.t hs; replace hu := hu.t hs; replace hv := hv.t hs; replace hwv := hwv.t hs
    refine cS (kq 48 (.call { callee := .value (.func 41), args := #[(.tmp 43), (.tmp 47)], argTypes := #[3, 70] })) rfl rfl (ent Try.call41 rfl) (ssolve_ok (W := 65536) hF hk0 sqL_len sqL_rows (cK_bnd (by decide) hB0) (by decide) (by decide) (by omega) (by omega)) ?_
    rintro vw8 w8 ⟨bs_, su, sv_, sr, rfl, hs, hsol, l1, l2, l3, hI⟩
    refine ⟨trivial, ?_⟩
    replace hF := hF.st hs
    replace hT := hT.t hs; replace hl := hl.t hs; replace hu := hu.t hs; replace hv := hv.t hs; replace hwv := hwv.t hs; replace hk0 := hk0.t hs
    clear hk0 hwv hI
    refine yA 13 48 ?_
    refine Sch.nil ?_
    refine run_sq ?_
    refine run_pl [yy 0, yy 1, yy 2, nn 3, yy 4, yy 5, yy 6, nn 7, yy 8] ?_
    refine yM 49 13 ?_
    refine yN 50 49 ?_
    have h51 := ra_sV hsol
    refine yF 51 80 50 3 3 ?_
    refine lN (kq 52 (.load 22 (.tmp 51))) rfl rfl trivial h51 (by kernel_rfl) rfl rfl ?_
    intro v52 g52
    refine yM 53 1 ?_
    refine yV (kq 54 (.binOp .add 3 (.tmp 53) (.const (.int .i64 1)) 3)) (fun _ => val_addi rfl rfl (by omega) (by omega)) ?_
    refine iS (e := 3) (kq 55 (.indexAddr 22 (.tmp 52) (.tmp 54))) rfl rfl g52 rfl (by kernel_rfl) rfl (by omega) (by omega) ?_
    intro b55 o55 h55
    try simp only [Int.toNat_natCast] at h55
    simp only [show ((m0 : Int) + 1).toNat = m0 + 1 from by omega] at h55
    refine lN (kq 56 (.load 3 (.tmp 55))) rfl rfl trivial h55 (by kernel_rfl) rfl rfl ?_
    intro v56 g56
    first | (obtain rfl := rv_nat.1 g56) | (obtain rfl := rv_int.1 g56)
    obtain ⟨sh0, hsh0⟩ : ∃ q, q = sv_[m0 + 1]'(by omega) := ⟨_, rfl⟩
    rw [← hsh0]
    refine yA 14 56 ?_
    refine Sch.nil ?_
    refine run_sq ?_
    refine run_sq ?_
    refine run_pl [yy 0, yy 1, yy 2] ?_
    refine yM 57 1 ?_
    refine yV (kq 58 (.binOp .add 3 (.tmp 57) (.const (.int .i64 1)) 3)) (fun _ => val_addi rfl rfl (by omega) (by omega)) ?_
    refine yA 15 58 ?_
    refine Sch.nil ?_
    refine run_bk 0 ?_
    
    refine run_lp (ι := Nat × Int × (Nat → Nat)) (I := fun x w => (m0 + 1 ≤ x.1 ∧ x.1 ≤ n0 + m0 + 1) ∧ Lim w x.2.2 ∧ Stp [2, 3, 4, 5, 6, 7, 8, 9] w₀ (col1 C) w x.2.2 ∧ RA w (Mc x.2.2) (⟨((n0 + m0 : Nat) : Int), sqL n0 m0 (wK (mmat l n0 m0)), su, sv_, sr⟩ : Sol) bs_ 0 ∧ OwnL w x.2.2 5 3 v26 (List.replicate n0 (0 : Int)) ∧ OwnL w x.2.2 6 3 v28 (List.replicate m0 (0 : Int))) (e := fun x => [(0, .int .i64 n0), (1, .int .i64 m0), (10, v26), (11, v28), (13, .pointer (some ⟨bs_, 0, none⟩)), (14, .int .i64 x.2.1), (15, .int .i64 x.1)]) (m := fun x => n0 + m0 + 1 - x.1) (x₀ := (m0 + 1, sh0, K.frz 99 Cm)) (K.sr 0 (K.sr 1 (K.sr 10 (K.sr 11 (K.sr 13 (K.sr 14 (sub_cons 15 rfl (eq_int (by simp)) (sub_nil _)))))))) ?_ ?_
    · exact ⟨(by simp only; omega), hF, hT, hsol, hu, hv⟩
    intro ⟨j, sh, C1⟩ w9 hI next
    obtain ⟨hj, hF, hT, hsol, hu, hv⟩ := hI
    try simp only at hj hF hT hsol hu hv
    have next1 := next
    clear next
    show Run _ _ _ _ [(0, .int .i64 n0), (1, .int .i64 m0), (10, v26), (11, v28), (13, .pointer (some ⟨bs_, 0, none⟩)), (14, .int .i64 sh), (15, .int .i64 j)] _ _
    refine run_sq ?_
    refine run_sq ?_
    refine run_pl [yy 0, yy 1, yy 2, yy 3, yy 4] ?_
    refine yM 59 15 ?_
    refine yM 60 0 ?_
    refine yM 61 1 ?_
    refine yV (kq 62 (.binOp .add 3 (.tmp 60) (.tmp 61) 3)) (fun _ => val_addi rfl rfl (by omega) (by omega)) ?_
    refine yV (kq 63 (.binOp .leq 3 (.tmp 59) (.tmp 62) 3)) (fun _ => val_leq rfl rfl) ?_
    refine Sch.nil ?_
    refine run_i 63 rfl (fun h63 => ?_) (fun h63 => ?_)
    ·
     have hjk : j ≤ n0 + m0 := by omega
     refine run_sk ?_
     refine run_sq ?_
     refine run_bk 1 ?_
     refine run_pl [yy 0, yy 1, yy 2, yy 3, nn 4, yy 5, yy 6, nn 7, yy 8, yy 9] ?_
     refine yM 66 14 ?_
     refine yM 67 13 ?_
     refine yN 68 67 ?_
     have h69 := ra_sV hsol
     refine yF 69 80 68 3 3 ?_
     refine lN (kq 70 (.load 22 (.tmp 69))) rfl rfl trivial h69 (by kernel_rfl) rfl rfl ?_
     intro v70 g70
     refine yM 71 15 ?_
     refine iS (e := 3) (kq 72 (.indexAddr 22 (.tmp 70) (.tmp 71))) rfl rfl g70 rfl (by kernel_rfl) rfl (by omega) (by omega) ?_
     intro b72 o72 h72
     try simp only [Int.toNat_natCast] at h72
     refine lN (kq 73 (.load 3 (.tmp 72))) rfl rfl trivial h72 (by kernel_rfl) rfl rfl ?_
     intro v73 g73
     first | (obtain rfl := rv_nat.1 g73) | (obtain rfl := rv_int.1 g73)
     refine yV (kq 74 (.call { callee := .builtin .max, args := #[(.tmp 66), (.tmp 73)], argTypes := #[3, 3] })) (fun _ => val_max rfl rfl Try.underlying3) ?_
     refine yA 14 74 ?_
     refine Sch.nil ?_
     refine run_inBlock ?_
     refine run_pl [yy 0, yy 1, yy 2] ?_
     refine yM 64 15 ?_
     refine yV (kq 65 (.binOp .add 3 (.tmp 64) (.const (.int .i64 1)) 3)) (fun _ => val_addi rfl rfl (by omega) (by omega)) ?_
     refine yA 15 65 ?_
     refine Sch.nil ?_
     refine kp (sub_cons 0 rfl rfl (sub_cons 1 rfl rfl (sub_cons 10 rfl rfl (sub_cons 11 rfl rfl (sub_cons 13 rfl rfl (sub_cons 14 rfl rfl (sub_cons 15 rfl (eq_int (by simp)) (sub_nil _)))))))) (next1 (j + 1, max sh (sv_[j]'(by omega)), C1) _ ⟨(by first | omega | (simp only; omega)), hF, hT, hsol, hu, hv⟩ (by first | omega | (simp only; omega)))
    ·
     refine run_ex 0 ?_
     refine run_sq ?_
     refine run_sq ?_
     refine run_pl [yy 0] ?_
     refine yAc 16 (.int .i64 0) ?_
     refine Sch.nil ?_
     refine run_bk 2 ?_
     
     refine run_lp (ι := Nat × (List Int) × (Nat → Nat)) (I := fun x w => x.1 ≤ n0 ∧ x.2.1.length = n0 ∧ Lim w x.2.2 ∧ Stp [2, 3, 4, 5, 6, 7, 8, 9] w₀ (col1 C) w x.2.2 ∧ RA w (Mc x.2.2) (⟨((n0 + m0 : Nat) : Int), sqL n0 m0 (wK (mmat l n0 m0)), su, sv_, sr⟩ : Sol) bs_ 0 ∧ OwnL w x.2.2 5 3 v26 x.2.1 ∧ OwnL w x.2.2 6 3 v28 (List.replicate m0 (0 : Int))) (e := fun x => [(0, .int .i64 n0), (1, .int .i64 m0), (10, v26), (11, v28), (13, .pointer (some ⟨bs_, 0, none⟩)), (14, .int .i64 sh), (16, .int .i64 x.1)]) (m := fun x => n0 - x.1) (x₀ := (0, (List.replicate n0 (0 : Int)), C1)) (K.sr 0 (K.sr 1 (K.sr 10 (K.sr 11 (K.sr 13 (K.sr 14 (K.sr 16 (sub_nil _)))))))) ?_ ?_
     · exact ⟨Nat.zero_le _, (by simp only; exact hul0), hF, hT, hsol, hu, hv⟩
     intro ⟨i, ul, C2⟩ w10 hI next
     obtain ⟨hi, hul, hF, hT, hsol, hu, hv⟩ := hI
     try simp only at hi hul hF hT hsol hu hv
     have next2 := next
     clear next
     show Run _ _ _ _ [(0, .int .i64 n0), (1, .int .i64 m0), (10, v26), (11, v28), (13, .pointer (some ⟨bs_, 0, none⟩)), (14, .int .i64 sh), (16, .int .i64 i)] _ _
     refine run_sq ?_
     refine run_sq ?_
     refine run_pl [yy 0, yy 1, yy 2] ?_
     refine yM 75 16 ?_
     refine yM 76 0 ?_
     refine yV (kq 77 (.binOp .lss 3 (.tmp 75) (.tmp 76) 3)) (fun _ => val_lss rfl rfl) ?_
     refine Sch.nil ?_
     refine run_i 77 rfl (fun h77 => ?_) (fun h77 => ?_)
     ·
      have hin : i < n0 := by omega
      refine run_sk ?_
      refine run_sq ?_
      refine run_bk 3 ?_
      refine run_pl [yy 0, yy 1, yy 2, yy 3, yy 4, nn 5, yy 6, yy 7, yy 8, nn 9, yy 10, yy 11, yy 12, yy 13, nn 14] ?_
      refine yM 80 10 ?_
      refine yM 81 16 ?_
      refine yM 82 13 ?_
      refine yN 83 82 ?_
      have h84 := ra_sU hsol
      refine yF 84 80 83 2 2 ?_
      refine lN (kq 85 (.load 22 (.tmp 84))) rfl rfl trivial h84 (by kernel_rfl) rfl rfl ?_
      intro v85 g85
      refine yM 86 16 ?_
      refine yV (kq 87 (.binOp .add 3 (.tmp 86) (.const (.int .i64 1)) 3)) (fun _ => val_addi rfl rfl (by omega) (by omega)) ?_
      refine iS (e := 3) (kq 88 (.indexAddr 22 (.tmp 85) (.tmp 87))) rfl rfl g85 rfl (by kernel_rfl) rfl (by omega) (by omega) ?_
      intro b88 o88 h88
      try simp only [Int.toNat_natCast] at h88
      simp only [show ((i : Int) + 1).toNat = i + 1 from by omega] at h88
      refine lN (kq 89 (.load 3 (.tmp 88))) rfl rfl trivial h88 (by kernel_rfl) rfl rfl ?_
      intro v89 g89
      first | (obtain rfl := rv_nat.1 g89) | (obtain rfl := rv_int.1 g89)
      refine yM 90 14 ?_
      refine yV (kq 91 (.binOp .add 3 (.tmp 89) (.tmp 90) 3)) (fun _ => val_add rfl rfl) ?_
      refine yV (kq 92 (.unOp .neg 3 (.tmp 91))) (fun _ => val_neg rfl) ?_
      refine oI (e' := 3) (kq 93 (.indexAddr 22 (.tmp 80) (.tmp 81))) rfl rfl hu rfl (by kernel_rfl) rfl (by omega) (by omega) ?_
      intro g93 hg93
      try simp only [Int.toNat_natCast]
      refine aN (k0 (.store 3 (.tmp 93) (.tmp 92))) rfl (a_storeO hu hg93 (by omega) rfl rfl (by kernel_rfl) (rv_int.2 rfl)) ?_
      rintro _ w11 ⟨rfl, hs, hu⟩
      refine ⟨trivial, ?_⟩
      replace hF := hF.st hs
      replace hT := hT.t hs; replace hsol := hsol.t hs; replace hv := hv.t hs; replace h84 := h84.t hs; replace g85 := g85.t hs; replace h88 := h88.t hs
      refine Sch.nil ?_
      refine run_inBlock ?_
      refine run_pl [yy 0, yy 1, yy 2] ?_
      refine yM 78 16 ?_
      refine yV (kq 79 (.binOp .add 3 (.tmp 78) (.const (.int .i64 1)) 3)) (fun _ => val_addi rfl rfl (by omega) (by omega)) ?_
      refine yA 16 79 ?_
      refine Sch.nil ?_
      refine kp (sub_cons 0 rfl rfl (sub_cons 1 rfl rfl (sub_cons 10 rfl rfl (sub_cons 11 rfl rfl (sub_cons 13 rfl rfl (sub_cons 14 rfl rfl (sub_cons 16 rfl (eq_int (by simp)) (sub_nil _)))))))) (next2 (i + 1, ul.set i _, C2) _ ⟨(by first | omega | (simp only; omega)), (by simp only [List.length_set]; exact hul), hF, hT, hsol, hu, hv⟩ (by first | omega | (simp only; omega)))
     ·
      refine run_ex 2 ?_
      refine run_sq ?_
      refine run_sq ?_
      refine run_pl [yy 0] ?_
      refine yAc 17 (.int .i64 0) ?_
      refine Sch.nil ?_
      refine run_bk 4 ?_
      
      refine run_lp (ι := Nat × (List Int) × (Nat → Nat)) (I := fun x w => x.1 ≤ m0 ∧ x.2.1.length = m0 ∧ Lim w x.2.2 ∧ Stp [2, 3, 4, 5, 6, 7, 8, 9] w₀ (col1 C) w x.2.2 ∧ RA w (Mc x.2.2) (⟨((n0 + m0 : Nat) : Int), sqL n0 m0 (wK (mmat l n0 m0)), su, sv_, sr⟩ : Sol) bs_ 0 ∧ OwnL w x.2.2 5 3 v26 ul ∧ OwnL w x.2.2 6 3 v28 x.2.1) (e := fun x => [(0, .int .i64 n0), (1, .int .i64 m0), (10, v26), (11, v28), (13, .pointer (some ⟨bs_, 0, none⟩)), (14, .int .i64 sh), (17, .int .i64 x.1)]) (m := fun x => m0 - x.1) (x₀ := (0, (List.replicate m0 (0 : Int)), C2)) (K.sr 0 (K.sr 1 (K.sr 10 (K.sr 11 (K.sr 13 (K.sr 14 (K.sr 17 (sub_nil _)))))))) ?_ ?_
      · exact ⟨Nat.zero_le _, (by simp only; exact hvl0), hF, hT, hsol, hu, hv⟩
      intro ⟨j, vl, C3⟩ w12 hI next
      obtain ⟨hj, hvl, hF, hT, hsol, hu, hv⟩ := hI
      try simp only at hj hvl hF hT hsol hu hv
      have next3 := next
      clear next
      show Run _ _ _ _ [(0, .int .i64 n0), (1, .int .i64 m0), (10, v26), (11, v28), (13, .pointer (some ⟨bs_, 0, none⟩)), (14, .int .i64 sh), (17, .int .i64 j)] _ _
      refine run_sq ?_
      refine run_sq ?_
      refine run_pl [yy 0, yy 1, yy 2] ?_
      refine yM 94 17 ?_
      refine yM 95 1 ?_
      refine yV (kq 96 (.binOp .lss 3 (.tmp 94) (.tmp 95) 3)) (fun _ => val_lss rfl rfl) ?_
      refine Sch.nil ?_
      refine run_i 96 rfl (fun h96 => ?_) (fun h96 => ?_)
      ·
       have hjm : j < m0 := by omega
       refine run_sk ?_
       refine run_sq ?_
       refine run_bk 5 ?_
       refine run_pl [yy 0, yy 1, yy 2, yy 3, yy 4, nn 5, yy 6, yy 7, yy 8, nn 9, yy 10, yy 11, yy 12, yy 13, nn 14] ?_
       refine yM 99 11 ?_
       refine yM 100 17 ?_
       refine yM 101 13 ?_
       refine yN 102 101 ?_
       have h103 := ra_sV hsol
       refine yF 103 80 102 3 3 ?_
       refine lN (kq 104 (.load 22 (.tmp 103))) rfl rfl trivial h103 (by kernel_rfl) rfl rfl ?_
       intro v104 g104
       refine yM 105 17 ?_
       refine yV (kq 106 (.binOp .add 3 (.tmp 105) (.const (.int .i64 1)) 3)) (fun _ => val_addi rfl rfl (by omega) (by omega)) ?_
       refine iS (e := 3) (kq 107 (.indexAddr 22 (.tmp 104) (.tmp 106))) rfl rfl g104 rfl (by kernel_rfl) rfl (by omega) (by omega) ?_
       intro b107 o107 h107
       try simp only [Int.toNat_natCast] at h107
       simp only [show ((j : Int) + 1).toNat = j + 1 from by omega] at h107
       refine lN (kq 108 (.load 3 (.tmp 107))) rfl rfl trivial h107 (by kernel_rfl) rfl rfl ?_
       intro v108 g108
       first | (obtain rfl := rv_nat.1 g108) | (obtain rfl := rv_int.1 g108)
       refine yM 109 14 ?_
       refine yV (kq 110 (.binOp .sub 3 (.tmp 108) (.tmp 109) 3)) (fun _ => val_sub rfl rfl) ?_
       refine yV (kq 111 (.unOp .neg 3 (.tmp 110))) (fun _ => val_neg rfl) ?_
       refine oI (e' := 3) (kq 112 (.indexAddr 22 (.tmp 99) (.tmp 100))) rfl rfl hv rfl (by kernel_rfl) rfl (by omega) (by omega) ?_
       intro g112 hg112
       try simp only [Int.toNat_natCast]
       refine aN (k0 (.store 3 (.tmp 112) (.tmp 111))) rfl (a_storeO hv hg112 (by omega) rfl rfl (by kernel_rfl) (rv_int.2 rfl)) ?_
       rintro _ w13 ⟨rfl, hs, hv⟩
       refine ⟨trivial, ?_⟩
       replace hF := hF.st hs
       replace hT := hT.t hs; replace hsol := hsol.t hs; replace hu := hu.t hs; replace h103 := h103.t hs; replace g104 := g104.t hs; replace h107 := h107.t hs
       refine Sch.nil ?_
       refine run_inBlock ?_
       refine run_pl [yy 0, yy 1, yy 2] ?_
       refine yM 97 17 ?_
       refine yV (kq 98 (.binOp .add 3 (.tmp 97) (.const (.int .i64 1)) 3)) (fun _ => val_addi rfl rfl (by omega) (by omega)) ?_
       refine yA 17 98 ?_
       refine Sch.nil ?_
       refine kp (sub_cons 0 rfl rfl (sub_cons 1 rfl rfl (sub_cons 10 rfl rfl (sub_cons 11 rfl rfl (sub_cons 13 rfl rfl (sub_cons 14 rfl rfl (sub_cons 17 rfl (eq_int (by simp)) (sub_nil _)))))))) (next3 (j + 1, vl.set j _, C3) _ ⟨(by first | omega | (simp only; omega)), (by simp only [List.length_set]; exact hvl), hF, hT, hsol, hu, hv⟩ (by first | omega | (simp only; omega)))
      ·
       refine run_ex 4 ?_
       refine run_sq ?_
       refine run_pl [yy 0, yy 1, yy 2, yy 3, yy 4] ?_
       refine yM 113 10 ?_
       refine yM 114 11 ?_
       refine yA 6 113 ?_
       refine yA 7 114 ?_
       refine yAc 8 (.int .i64 0) ?_
       refine Sch.nil ?_
       refine run_ret3 (by kernel_rfl) Try.func25 Try.results25 rfl rfl rfl ?_
       exact ⟨_, _, _, _, by rw [hz], hT.out1 (by decide), hu.out hT hF0 (Mc_col1 C) (fun b _ => col1_lt C (by decide) b) (by omega), hv.out hT hF0 (Mc_col1 C) (fun b _ => col1_lt C (by decide) b) (by omega)⟩
  ·
   intro w14 hs
   replace hF := hF.st hs
   replace hT := hT.t hs; replace hl := hl.t hs
   show Sch _ _ _ _ _ _ _ [yy 0, yy 2, nn 3, nn 1, yy 4, yy 5] _ _
   have hR := Stp.refl [] w14 (col1 C)
   refine yM 25 0 ?_
   refine yM 27 1 ?_
   refine aS (kq 28 (.makeSlice 22 (.tmp 27) (.tmp 27))) rfl rfl (a_make (e := 3) (bytes := 8) (x0 := (0 : Int)) (zs := [.int .i64 0]) hF (j := 6) (by decide) (by kernel_rfl) (by kernel_rfl) rfl rfl (by omega) (by omega) (by omega) (fun h M => zero_int)) ?_
   rintro v28 w15 ⟨Cw15, hs, hv, hF⟩
   refine ⟨(hR.trans hs (by simp)).ext, ?_⟩
   replace hT := hT.t hs; replace hl := hl.t hs; replace hR := hR.t hs
   refine aS (kq 26 (.makeSlice 22 (.tmp 25) (.tmp 25))) rfl rfl (a_make (e := 3) (bytes := 8) (x0 := (0 : Int)) (zs := [.int .i64 0]) hF (j := 5) (by decide) (by kernel_rfl) (by kernel_rfl) rfl rfl (by omega) (by omega) (by omega) (fun h M => zero_int)) ?_
   rintro v26 w16 ⟨Cw16, hs, hu, hF⟩
   refine ⟨(hR.trans hs (by simp)).ext, ?_⟩
   replace hT := hT.t hs; replace hl := hl.t hs; replace hR := hR.t hs; replace hv := hv.t hs
   refine yA 10 26 ?_
   refine yA 11 28 ?_
   refine Sch.nil ?_
   refine run_sq ?_
   refine run_sq ?_
   refine run_cut 34 (decide (n0 = 0 ∨ m0 = 0)) (Cw16) ?_ ?_
   ·
    intro hcut
    by_cases hA : n0 = 0
    ·
     refine run_pl [yy 0, yy 1, yy 2, yy 3, yy 4, yy 5] ?_
     refine yM 29 0 ?_
     refine yV (kq 30 (.binOp .eql 3 (.tmp 29) (.const (.int .i64 0)) 3)) (fun _ => val_T (val_eql rfl rfl) (by omega)) ?_
     refine yM 31 30 ?_
     refine pX 32 2 false ?_
     refine pX 33 2 false ?_
     refine yOt 34 31 33 ?_
     exact Sch.nil (hcut _ _ _ (Stp.refl _ _ _) rfl (eq_bool (decide_eq_true (Or.inl hA)).symm) (sk 6))
    ·
     refine run_pl [yy 0, yy 1, yy 2, yy 3, yy 4, yy 5] ?_
     refine yM 29 0 ?_
     refine yV (kq 30 (.binOp .eql 3 (.tmp 29) (.const (.int .i64 0)) 3)) (fun _ => val_F (val_eql rfl rfl) (by omega)) ?_
     refine yM 31 30 ?_
     refine yMg 32 1 2 false ?_
     refine yV (kg 33 (.binOp .eql 3 (.tmp 32) (.const (.int .i64 0)) 3) 2 false) (fun _ => val_eql rfl rfl) ?_
     refine yOf 34 31 33 ?_
     exact Sch.nil (hcut _ _ _ (Stp.refl _ _ _) rfl (eq_bool (decide_eq_decide.2 (by omega))) (sk 6))
   intro w17 hs
   replace hF := hF.st hs
   replace hT := hT.t hs; replace hl := hl.t hs; replace hv := hv.t hs; replace hu := hu.t hs
   refine run_i 34 rfl (fun h34 => ?_) (fun h34 => ?_)
   ·
    have hul0 : (List.replicate n0 (0 : Int)).length = n0 := List.length_replicate
    have hvl0 : (List.replicate m0 (0 : Int)).length = m0 := List.length_replicate
    refine run_sq ?_
    refine run_pl [yy 0, yy 1, yy 2, yy 3, yy 4] ?_
    refine yM 35 10 ?_
    refine yM 36 11 ?_
    refine yA 6 35 ?_
    refine yA 7 36 ?_
    refine yAc 8 (.int .i64 0) ?_
    refine Sch.nil ?_
    refine run_ret3 (by kernel_rfl) Try.func25 Try.results25 rfl rfl rfl ?_
    exact ⟨_, _, _, _, by rw [hz], hT.out1 (by decide), hu.out hT hF0 (Mc_col1 C) (fun b _ => col1_lt C (by decide) b) (by omega), hv.out hT hF0 (Mc_col1 C) (fun b _ => col1_lt C (by decide) b) (by omega)⟩
   ·
    have hul0 : (List.replicate n0 (0 : Int)).length = n0 := List.length_replicate
    have hvl0 : (List.replicate m0 (0 : Int)).length = m0 := List.length_replicate
    refine run_sk ?_
    refine run_sq ?_
    refine run_pl [yy 0, yy 1, yy 2, nn 3, yy 4] ?_
    refine yM 37 0 ?_
    refine yM 38 1 ?_
    refine yM 39 2 ?_
    refine cS (kq 40 (.call { callee := .value (.func 36), args := #[(.tmp 37), (.tmp 38), (.tmp 39)], argTypes := #[3, 3, 23] })) rfl rfl (ent Try.call36 rfl) (matrix_ok hF hl hV hn6 hm6) ?_
    rintro vw0 w18 ⟨Cm, vf0, hs, hF, ho, hin⟩
    refine ⟨trivial, ?_⟩
    replace hT := hT.t hs; replace hl := hl.t hs; replace hv := hv.t hs; replace hu := hu.t hs
    replace hin : ∀ q, q < n0 → OwnL w18 Cm (100 + q) 3 (vf0 q) ((mmat l n0 m0).getD q []) := fun q hq => by rw [mmat_getD hq]; exact hin q hq
    have hMx0 := mmat_ok (n := n0) (m := m0) hV
    have hwv := mx_read hMx0 hn6 hm6 ho hin
    replace hF := hF.frz 99
    replace hT := hT.frz (n := 99) (fun b => Nat.lt_of_lt_of_le (col1_lt2 C b) (by decide))
    replace hu := hu.frzK (n := 99) (by decide)
    replace hv := hv.frzK (n := 99) (by decide)
    replace hl := hl.frz 99
    clear ho hin
    have hB0 : ∀ i j, i < n0 → j < m0 → 0 ≤ wK (mmat l n0 m0) i j ∧ wK (mmat l n0 m0) i j ≤ 65536 := fun i j hi hj => by
      have h0 := hMx0.n
      have h1 := hMx0.m _ (List.getElem_mem (show i < (mmat l n0 m0).length by omega))
      rw [wK_at (by omega) (by omega)]
      exact hMx0.b _ (List.getElem_mem _) _ (List.getElem_mem _)
    refine yA 12 40 ?_
    refine Sch.nil ?_
    refine run_sq ?_
    refine run_pl [yy 0, yy 1, yy 2, yy 3, yy 4, yy 5, nn 6, nn 7, yy 8] ?_
    refine yM 41 0 ?_
    refine yM 42 1 ?_
    refine yV (kq 43 (.binOp .add 3 (.tmp 41) (.tmp 42) 3)) (fun _ => val_is (val_addi rfl rfl (by omega) (by omega)) (congrArg (Value.int .i64) (show (n0 : Int) + (m0 : Int) = ((n0 + m0 : Nat) : Int) from by omega))) ?_
    refine yM 44 12 ?_
    refine yM 45 0 ?_
    refine yM 46 1 ?_
    refine cS (kq 47 (.call { callee := .value (.func 42), args := #[(.tmp 44), (.tmp 45), (.tmp 46)], argTypes := #[70, 3, 3] })) rfl rfl (ent Try.call42 rfl) (costs_ok hF hwv hMx0.n hMx0.m hMx0.b hn6 hm6) ?_
    rintro vk w19 ⟨hs, hk0⟩
    refine ⟨trivial, ?_⟩
    replace hF := hF.st hs
    replace hT := hT.t hs; replace hl := hl.t hs; replace hv := hv.t hs; replace hu := hu.t hs; replace hwv := hwv.t hs
    refine cS (kq 48 (.call { callee := .value (.func 41), args := #[(.tmp 43), (.tmp 47)], argTypes := #[3, 70] })) rfl rfl (ent Try.call41 rfl) (ssolve_ok (W := 65536) hF hk0 sqL_len sqL_rows (cK_bnd (by decide) hB0) (by decide) (by decide) (by omega) (by omega)) ?_
    rintro vw20 w20 ⟨bs_, su, sv_, sr, rfl, hs, hsol, l1, l2, l3, hI⟩
    refine ⟨trivial, ?_⟩
    replace hF := hF.st hs
    replace hT := hT.t hs; replace hl := hl.t hs; replace hv := hv.t hs; replace hu := hu.t hs; replace hwv := hwv.t hs; replace hk0 := hk0.t hs
    clear hk0 hwv hI
    refine yA 13 48 ?_
    refine Sch.nil ?_
    refine run_sq ?_
    refine run_pl [yy 0, yy 1, yy 2, nn 3, yy 4, yy 5, yy 6, nn 7, yy 8] ?_
    refine yM 49 13 ?_
    refine yN 50 49 ?_
    have h51 := ra_sV hsol
    refine yF 51 80 50 3 3 ?_
    refine lN (kq 52 (.load 22 (.tmp 51))) rfl rfl trivial h51 (by kernel_rfl) rfl rfl ?_
    intro v52 g52
    refine yM 53 1 ?_
    refine yV (kq 54 (.binOp .add 3 (.tmp 53) (.const (.int .i64 1)) 3)) (fun _ => val_addi rfl rfl (by omega) (by omega)) ?_
    refine iS (e := 3) (kq 55 (.indexAddr 22 (.tmp 52) (.tmp 54))) rfl rfl g52 rfl (by kernel_rfl) rfl (by omega) (by omega) ?_
    intro b55 o55 h55
    try simp only [Int.toNat_natCast] at h55
    simp only [show ((m0 : Int) + 1).toNat = m0 + 1 from by omega] at h55
    refine lN (kq 56 (.load 3 (.tmp 55))) rfl rfl trivial h55 (by kernel_rfl) rfl rfl ?_
    intro v56 g56
    first | (obtain rfl := rv_nat.1 g56) | (obtain rfl := rv_int.1 g56)
    obtain ⟨sh0, hsh0⟩ : ∃ q, q = sv_[m0 + 1]'(by omega) := ⟨_, rfl⟩
    rw [← hsh0]
    refine yA 14 56 ?_
    refine Sch.nil ?_
    refine run_sq ?_
    refine run_sq ?_
    refine run_pl [yy 0, yy 1, yy 2] ?_
    refine yM 57 1 ?_
    refine yV (kq 58 (.binOp .add 3 (.tmp 57) (.const (.int .i64 1)) 3)) (fun _ => val_addi rfl rfl (by omega) (by omega)) ?_
    refine yA 15 58 ?_
    refine Sch.nil ?_
    refine run_bk 0 ?_
    
    refine run_lp (ι := Nat × Int × (Nat → Nat)) (I := fun x w => (m0 + 1 ≤ x.1 ∧ x.1 ≤ n0 + m0 + 1) ∧ Lim w x.2.2 ∧ Stp [2, 3, 4, 5, 6, 7, 8, 9] w₀ (col1 C) w x.2.2 ∧ RA w (Mc x.2.2) (⟨((n0 + m0 : Nat) : Int), sqL n0 m0 (wK (mmat l n0 m0)), su, sv_, sr⟩ : Sol) bs_ 0 ∧ OwnL w x.2.2 5 3 v26 (List.replicate n0 (0 : Int)) ∧ OwnL w x.2.2 6 3 v28 (List.replicate m0 (0 : Int))) (e := fun x => [(0, .int .i64 n0), (1, .int .i64 m0), (10, v26), (11, v28), (13, .pointer (some ⟨bs_, 0, none⟩)), (14, .int .i64 x.2.1), (15, .int .i64 x.1)]) (m := fun x => n0 + m0 + 1 - x.1) (x₀ := (m0 + 1, sh0, K.frz 99 Cm)) (K.sr 0 (K.sr 1 (K.sr 10 (K.sr 11 (K.sr 13 (K.sr 14 (sub_cons 15 rfl (eq_int (by simp)) (sub_nil _)))))))) ?_ ?_
    · exact ⟨(by simp only; omega), hF, hT, hsol, hu, hv⟩
    intro ⟨j, sh, C1⟩ w21 hI next
    obtain ⟨hj, hF, hT, hsol, hu, hv⟩ := hI
    try simp only at hj hF hT hsol hu hv
    have next1 := next
    clear next
    show Run _ _ _ _ [(0, .int .i64 n0), (1, .int .i64 m0), (10, v26), (11, v28), (13, .pointer (some ⟨bs_, 0, none⟩)), (14, .int .i64 sh), (15, .int .i64 j)] _ _
    refine run_sq ?_
    refine run_sq ?_
    refine run_pl [yy 0, yy 1, yy 2, yy 3, yy 4] ?_
    refine yM 59 15 ?_
    refine yM 60 0 ?_
    refine yM 61 1 ?_
    refine yV (kq 62 (.binOp .add 3 (.tmp 60) (.tmp 61) 3)) (fun _ => val_addi rfl rfl (by omega) (by omega)) ?_
    refine yV (kq 63 (.binOp .leq 3 (.tmp 59) (.tmp 62) 3)) (fun _ => val_leq rfl rfl) ?_
    refine Sch.nil ?_
    refine run_i 63 rfl (fun h63 => ?_) (fun h63 => ?_)
    ·
     have hjk : j ≤ n0 + m0 := by omega
     refine run_sk ?_
     refine run_sq ?_
     refine run_bk 1 ?_
     refine run_pl [yy 0, yy 1, yy 2, yy 3, nn 4, yy 5, yy 6, nn 7, yy 8, yy 9] ?_
     refine yM 66 14 ?_
     refine yM 67 13 ?_
     refine yN 68 67 ?_
     have h69 := ra_sV hsol
     refine yF 69 80 68 3 3 ?_
     refine lN (kq 70 (.load 22 (.tmp 69))) rfl rfl trivial h69 (by kernel_rfl) rfl rfl ?_
     intro v70 g70
     refine yM 71 15 ?_
     refine iS (e := 3) (kq 72 (.indexAddr 22 (.tmp 70) (.tmp 71))) rfl rfl g70 rfl (by kernel_rfl) rfl (by omega) (by omega) ?_
     intro b72 o72 h72
     try simp only [Int.toNat_natCast] at h72
     refine lN (kq 73 (.load 3 (.tmp 72))) rfl rfl trivial h72 (by kernel_rfl) rfl rfl ?_
     intro v73 g73
     first | (obtain rfl := rv_nat.1 g73) | (obtain rfl := rv_int.1 g73)
     refine yV (kq 74 (.call { callee := .builtin .max, args := #[(.tmp 66), (.tmp 73)], argTypes := #[3, 3] })) (fun _ => val_max rfl rfl Try.underlying3) ?_
     refine yA 14 74 ?_
     refine Sch.nil ?_
     refine run_inBlock ?_
     refine run_pl [yy 0, yy 1, yy 2] ?_
     refine yM 64 15 ?_
     refine yV (kq 65 (.binOp .add 3 (.tmp 64) (.const (.int .i64 1)) 3)) (fun _ => val_addi rfl rfl (by omega) (by omega)) ?_
     refine yA 15 65 ?_
     refine Sch.nil ?_
     refine kp (sub_cons 0 rfl rfl (sub_cons 1 rfl rfl (sub_cons 10 rfl rfl (sub_cons 11 rfl rfl (sub_cons 13 rfl rfl (sub_cons 14 rfl rfl (sub_cons 15 rfl (eq_int (by simp)) (sub_nil _)))))))) (next1 (j + 1, max sh (sv_[j]'(by omega)), C1) _ ⟨(by first | omega | (simp only; omega)), hF, hT, hsol, hu, hv⟩ (by first | omega | (simp only; omega)))
    ·
     refine run_ex 0 ?_
     refine run_sq ?_
     refine run_sq ?_
     refine run_pl [yy 0] ?_
     refine yAc 16 (.int .i64 0) ?_
     refine Sch.nil ?_
     refine run_bk 2 ?_
     
     refine run_lp (ι := Nat × (List Int) × (Nat → Nat)) (I := fun x w => x.1 ≤ n0 ∧ x.2.1.length = n0 ∧ Lim w x.2.2 ∧ Stp [2, 3, 4, 5, 6, 7, 8, 9] w₀ (col1 C) w x.2.2 ∧ RA w (Mc x.2.2) (⟨((n0 + m0 : Nat) : Int), sqL n0 m0 (wK (mmat l n0 m0)), su, sv_, sr⟩ : Sol) bs_ 0 ∧ OwnL w x.2.2 5 3 v26 x.2.1 ∧ OwnL w x.2.2 6 3 v28 (List.replicate m0 (0 : Int))) (e := fun x => [(0, .int .i64 n0), (1, .int .i64 m0), (10, v26), (11, v28), (13, .pointer (some ⟨bs_, 0, none⟩)), (14, .int .i64 sh), (16, .int .i64 x.1)]) (m := fun x => n0 - x.1) (x₀ := (0, (List.replicate n0 (0 : Int)), C1)) (K.sr 0 (K.sr 1 (K.sr 10 (K.sr 11 (K.sr 13 (K.sr 14 (K.sr 16 (sub_nil _)))))))) ?_ ?_
     · exact ⟨Nat.zero_le _, (by simp only; exact hul0), hF, hT, hsol, hu, hv⟩
     intro ⟨i, ul, C2⟩ w22 hI next
     obtain ⟨hi, hul, hF, hT, hsol, hu, hv⟩ := hI
     try simp only at hi hul hF hT hsol hu hv
     have next2 := next
     clear next
     show Run _ _ _ _ [(0, .int .i64 n0), (1, .int .i64 m0), (10, v26), (11, v28), (13, .pointer (some ⟨bs_, 0, none⟩)), (14, .int .i64 sh), (16, .int .i64 i)] _ _
     refine run_sq ?_
     refine run_sq ?_
     refine run_pl [yy 0, yy 1, yy 2] ?_
     refine yM 75 16 ?_
     refine yM 76 0 ?_
     refine yV (kq 77 (.binOp .lss 3 (.tmp 75) (.tmp 76) 3)) (fun _ => val_lss rfl rfl) ?_
     refine Sch.nil ?_
     refine run_i 77 rfl (fun h77 => ?_) (fun h77 => ?_)
     ·
      have hin : i < n0 := by omega
      refine run_sk ?_
      refine run_sq ?_
      refine run_bk 3 ?_
      refine run_pl [yy 0, yy 1, yy 2, yy 3, yy 4, nn 5, yy 6, yy 7, yy 8, nn 9, yy 10, yy 11, yy 12, yy 13, nn 14] ?_
      refine yM 80 10 ?_
      refine yM 81 16 ?_
      refine yM 82 13 ?_
      refine yN 83 82 ?_
      have h84 := ra_sU hsol
      refine yF 84 80 83 2 2 ?_
      refine lN (kq 85 (.load 22 (.tmp 84))) rfl rfl trivial h84 (by kernel_rfl) rfl rfl ?_
      intro v85 g85
      refine yM 86 16 ?_
      refine yV (kq 87 (.binOp .add 3 (.tmp 86) (.const (.int .i64 1)) 3)) (fun _ => val_addi rfl rfl (by omega) (by omega)) ?_
      refine iS (e := 3) (kq 88 (.indexAddr 22 (.tmp 85) (.tmp 87))) rfl rfl g85 rfl (by kernel_rfl) rfl (by omega) (by omega) ?_
      intro b88 o88 h88
      try simp only [Int.toNat_natCast] at h88
      simp only [show ((i : Int) + 1).toNat = i + 1 from by omega] at h88
      refine lN (kq 89 (.load 3 (.tmp 88))) rfl rfl trivial h88 (by kernel_rfl) rfl rfl ?_
      intro v89 g89
      first | (obtain rfl := rv_nat.1 g89) | (obtain rfl := rv_int.1 g89)
      refine yM 90 14 ?_
      refine yV (kq 91 (.binOp .add 3 (.tmp 89) (.tmp 90) 3)) (fun _ => val_add rfl rfl) ?_
      refine yV (kq 92 (.unOp .neg 3 (.tmp 91))) (fun _ => val_neg rfl) ?_
      refine oI (e' := 3) (kq 93 (.indexAddr 22 (.tmp 80) (.tmp 81))) rfl rfl hu rfl (by kernel_rfl) rfl (by omega) (by omega) ?_
      intro g93 hg93
      try simp only [Int.toNat_natCast]
      refine aN (k0 (.store 3 (.tmp 93) (.tmp 92))) rfl (a_storeO hu hg93 (by omega) rfl rfl (by kernel_rfl) (rv_int.2 rfl)) ?_
      rintro _ w23 ⟨rfl, hs, hu⟩
      refine ⟨trivial, ?_⟩
      replace hF := hF.st hs
      replace hT := hT.t hs; replace hsol := hsol.t hs; replace hv := hv.t hs; replace h84 := h84.t hs; replace g85 := g85.t hs; replace h88 := h88.t hs
      refine Sch.nil ?_
      refine run_inBlock ?_
      refine run_pl [yy 0, yy 1, yy 2] ?_
      refine yM 78 16 ?_
      refine yV (kq 79 (.binOp .add 3 (.tmp 78) (.const (.int .i64 1)) 3)) (fun _ => val_addi rfl rfl (by omega) (by omega)) ?_
      refine yA 16 79 ?_
      refine Sch.nil ?_
      refine kp (sub_cons 0 rfl rfl (sub_cons 1 rfl rfl (sub_cons 10 rfl rfl (sub_cons 11 rfl rfl (sub_cons 13 rfl rfl (sub_cons 14 rfl rfl (sub_cons 16 rfl (eq_int (by simp)) (sub_nil _)))))))) (next2 (i + 1, ul.set i _, C2) _ ⟨(by first | omega | (simp only; omega)), (by simp only [List.length_set]; exact hul), hF, hT, hsol, hu, hv⟩ (by first | omega | (simp only; omega)))
     ·
      refine run_ex 2 ?_
      refine run_sq ?_
      refine run_sq ?_
      refine run_pl [yy 0] ?_
      refine yAc 17 (.int .i64 0) ?_
      refine Sch.nil ?_
      refine run_bk 4 ?_
      
      refine run_lp (ι := Nat × (List Int) × (Nat → Nat)) (I := fun x w => x.1 ≤ m0 ∧ x.2.1.length = m0 ∧ Lim w x.2.2 ∧ Stp [2, 3, 4, 5, 6, 7, 8, 9] w₀ (col1 C) w x.2.2 ∧ RA w (Mc x.2.2) (⟨((n0 + m0 : Nat) : Int), sqL n0 m0 (wK (mmat l n0 m0)), su, sv_, sr⟩ : Sol) bs_ 0 ∧ OwnL w x.2.2 5 3 v26 ul ∧ OwnL w x.2.2 6 3 v28 x.2.1) (e := fun x => [(0, .int .i64 n0), (1, .int .i64 m0), (10, v26), (11, v28), (13, .pointer (some ⟨bs_, 0, none⟩)), (14, .int .i64 sh), (17, .int .i64 x.1)]) (m := fun x => m0 - x.1) (x₀ := (0, (List.replicate m0 (0 : Int)), C2)) (K.sr 0 (K.sr 1 (K.sr 10 (K.sr 11 (K.sr 13 (K.sr 14 (K.sr 17 (sub_nil _)))))))) ?_ ?_
      · exact ⟨Nat.zero_le _, (by simp only; exact hvl0), hF, hT, hsol, hu, hv⟩
      intro ⟨j, vl, C3⟩ w24 hI next
      obtain ⟨hj, hvl, hF, hT, hsol, hu, hv⟩ := hI
      try simp only at hj hvl hF hT hsol hu hv
      have next3 := next
      clear next
      show Run _ _ _ _ [(0, .int .i64 n0), (1, .int .i64 m0), (10, v26), (11, v28), (13, .pointer (some ⟨bs_, 0, none⟩)), (14, .int .i64 sh), (17, .int .i64 j)] _ _
      refine run_sq ?_
      refine run_sq ?_
      refine run_pl [yy 0, yy 1, yy 2] ?_
      refine yM 94 17 ?_
      refine yM 95 1 ?_
      refine yV (kq 96 (.binOp .lss 3 (.tmp 94) (.tmp 95) 3)) (fun _ => val_lss rfl rfl) ?_
      refine Sch.nil ?_
      refine run_i 96 rfl (fun h96 => ?_) (fun h96 => ?_)
      ·
       have hjm : j < m0 := by omega
       refine run_sk ?_
       refine run_sq ?_
       refine run_bk 5 ?_
       refine run_pl [yy 0, yy 1, yy 2, yy 3, yy 4, nn 5, yy 6, yy 7, yy 8, nn 9, yy 10, yy 11, yy 12, yy 13, nn 14] ?_
       refine yM 99 11 ?_
       refine yM 100 17 ?_
       refine yM 101 13 ?_
       refine yN 102 101 ?_
       have h103 := ra_sV hsol
       refine yF 103 80 102 3 3 ?_
       refine lN (kq 104 (.load 22 (.tmp 103))) rfl rfl trivial h103 (by kernel_rfl) rfl rfl ?_
       intro v104 g104
       refine yM 105 17 ?_
       refine yV (kq 106 (.binOp .add 3 (.tmp 105) (.const (.int .i64 1)) 3)) (fun _ => val_addi rfl rfl (by omega) (by omega)) ?_
       refine iS (e := 3) (kq 107 (.indexAddr 22 (.tmp 104) (.tmp 106))) rfl rfl g104 rfl (by kernel_rfl) rfl (by omega) (by omega) ?_
       intro b107 o107 h107
       try simp only [Int.toNat_natCast] at h107
       simp only [show ((j : Int) + 1).toNat = j + 1 from by omega] at h107
       refine lN (kq 108 (.load 3 (.tmp 107))) rfl rfl trivial h107 (by kernel_rfl) rfl rfl ?_
       intro v108 g108
       first | (obtain rfl := rv_nat.1 g108) | (obtain rfl := rv_int.1 g108)
       refine yM 109 14 ?_
       refine yV (kq 110 (.binOp .sub 3 (.tmp 108) (.tmp 109) 3)) (fun _ => val_sub rfl rfl) ?_
       refine yV (kq 111 (.unOp .neg 3 (.tmp 110))) (fun _ => val_neg rfl) ?_
       refine oI (e' := 3) (kq 112 (.indexAddr 22 (.tmp 99) (.tmp 100))) rfl rfl hv rfl (by kernel_rfl) rfl (by omega) (by omega) ?_
       intro g112 hg112
       try simp only [Int.toNat_natCast]
       refine aN (k0 (.store 3 (.tmp 112) (.tmp 111))) rfl (a_storeO hv hg112 (by omega) rfl rfl (by kernel_rfl) (rv_int.2 rfl)) ?_
       rintro _ w25 ⟨rfl, hs, hv⟩
       refine ⟨trivial, ?_⟩
       replace hF := hF.st hs
       replace hT := hT.t hs; replace hsol := hsol.t hs; replace hu := hu.t hs; replace h103 := h103.t hs; replace g104 := g104.t hs; replace h107 := h107.t hs
       refine Sch.nil ?_
       refine run_inBlock ?_
       refine run_pl [yy 0, yy 1, yy 2] ?_
       refine yM 97 17 ?_
       refine yV (kq 98 (.binOp .add 3 (.tmp 97) (.const (.int .i64 1)) 3)) (fun _ => val_addi rfl rfl (by omega) (by omega)) ?_
       refine yA 17 98 ?_
       refine Sch.nil ?_
       refine kp (sub_cons 0 rfl rfl (sub_cons 1 rfl rfl (sub_cons 10 rfl rfl (sub_cons 11 rfl rfl (sub_cons 13 rfl rfl (sub_cons 14 rfl rfl (sub_cons 17 rfl (eq_int (by simp)) (sub_nil _)))))))) (next3 (j + 1, vl.set j _, C3) _ ⟨(by first | omega | (simp only; omega)), (by simp only [List.length_set]; exact hvl), hF, hT, hsol, hu, hv⟩ (by first | omega | (simp only; omega)))
      ·
       refine run_ex 4 ?_
       refine run_sq ?_
       refine run_pl [yy 0, yy 1, yy 2, yy 3, yy 4] ?_
       refine yM 113 10 ?_
       refine yM 114 11 ?_
       refine yA 6 113 ?_
       refine yA 7 114 ?_
       refine yAc 8 (.int .i64 0) ?_
       refine Sch.nil ?_
       refine run_ret3 (by kernel_rfl) Try.func25 Try.results25 rfl rfl rfl ?_
       exact ⟨_, _, _, _, by rw [hz], hT.out1 (by decide), hu.out hT hF0 (Mc_col1 C) (fun b _ => col1_lt C (by decide) b) (by omega), hv.out hT hF0 (Mc_col1 C) (fun b _ => col1_lt C (by decide) b) (by omega)⟩
end Go.Proofs.Ytgooehopkmbkfaa
