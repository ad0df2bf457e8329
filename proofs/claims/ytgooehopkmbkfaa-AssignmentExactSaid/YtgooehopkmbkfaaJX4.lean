/- Steps through functions of the program. -/
import Derived.Test.YtgooehopkmbkfaaJX2
import Derived.Test.YtgooehopkmbkfaaJX3
set_option linter.unusedVariables false
set_option linter.unusedSimpArgs false
set_option maxRecDepth 100000
set_option maxHeartbeats 4000000
namespace Go.Proofs.Ytgooehopkmbkfaa
open Go.K Go.K.Rep

namespace F37
noncomputable def c0 := bodyOf Try.f37
noncomputable def c7 := (cl (cl (cr (cl (cr c0)))))
noncomputable def c15 := (cl (cr (cr (cr (cr c0)))))
noncomputable def c21 := (cl (cl (cl (cl (cr c15)))))
noncomputable def c22 := (cr (cl (cl (cl (cr c15)))))
noncomputable def c26 := (cl (cr (cl (cl (cr c15)))))
noncomputable def c32 := (cr (cr (cl (cl (cr c15)))))
noncomputable def c33 := (cr (cr (cr (cr (cr c0)))))
end F37
/-- The reference's 'Total'. -/
theorem rtotal_ok {w₀ : World} {C : Nat → Nat} {n m : Nat} {wl : List (List Int)} {vw : Value} (hF : Lim w₀ C) (hw : RV w₀ (Mc C) wl vw) (hwn : wl.length = n) (hwr : ∀ r ∈ wl, r.length = m) (hwB : ∀ r ∈ wl, ∀ x ∈ r, 0 ≤ x ∧ x ≤ 65536) (hn : n ≤ 64) (hm : m ≤ 64) :
    Calls Try.prog 37 #[vw, .int .i64 n, .int .i64 m] w₀ (Ret fun v w' => v = .int .i64 (top n m (wK wl)) ∧ Stp [] w₀ C w' C) := by
 have hF0 := hF
 have hT := Stp.refl [2, 3, 4, 5, 6, 7, 8, 9] w₀ (col1 C)
 replace hF := hF.col1
 replace hw : RV w₀ (Mc (col1 C)) wl vw := by rw [Mc_col1]; exact hw
 refine calls_start (c := F37.c0) (N := 66) [vw, .int .i64 n, .int .i64 m] Try.func37 (by kernel_rfl) (by kernel_rfl) (by kernel_rfl) ?_
 show Run _ _ _ _ [(0, vw), (1, .int .i64 n), (2, .int .i64 m)] _ _
 refine run_sq ?_
 refine run_pl [yy 0] ?_
 refine yAc 6 (.int .i64 0) ?_
 refine Sch.nil ?_
 refine run_sq ?_
 refine run_sq ?_
 refine run_cut 15 (decide (n = 0 ∨ m = 0)) (col1 C) ?_ ?_
 ·
  intro hcut
  by_cases hA : n = 0
  ·
   refine run_pl [yy 0, yy 1, yy 2, yy 3, yy 4, yy 5] ?_
   refine yM 10 1 ?_
   refine yV (kq 11 (.binOp .eql 3 (.tmp 10) (.const (.int .i64 0)) 3)) (fun _ => val_T (val_eql rfl rfl) (by omega)) ?_
   refine yM 12 11 ?_
   refine pX 13 2 false ?_
   refine pX 14 2 false ?_
   refine yOt 15 12 14 ?_
   exact Sch.nil (hcut _ _ _ (Stp.refl _ _ _) rfl (eq_bool (decide_eq_true (Or.inl hA)).symm) (sk 6))
  ·
   refine run_pl [yy 0, yy 1, yy 2, yy 3, yy 4, yy 5] ?_
   refine yM 10 1 ?_
   refine yV (kq 11 (.binOp .eql 3 (.tmp 10) (.const (.int .i64 0)) 3)) (fun _ => val_F (val_eql rfl rfl) (by omega)) ?_
   refine yM 12 11 ?_
   refine yMg 13 2 2 false ?_
   refine yV (kg 14 (.binOp .eql 3 (.tmp 13) (.const (.int .i64 0)) 3) 2 false) (fun _ => val_eql rfl rfl) ?_
   refine yOf 15 12 14 ?_
   exact Sch.nil (hcut _ _ _ (Stp.refl _ _ _) rfl (eq_bool (decide_eq_decide.2 (by omega))) (sk 6))
 intro w1 hs
 replace hF := hF.st hs
 replace hT := hT.t hs; replace hw := hw.t hs
 refine run_i 15 rfl (fun h15 => ?_) (fun h15 => ?_)
 ·
  refine run_sq ?_
  refine run_pl [yy 0] ?_
  refine yAc 6 (.int .i64 0) ?_
  refine Sch.nil ?_
  refine run_ret1 (by kernel_rfl) Try.func37 Try.results37 rfl ?_
  exact ⟨by rw [top_nil h15], hT.out1 (by decide)⟩
 ·
  refine run_sk ?_
  refine run_sq ?_
  refine run_pl [yy 0, yy 1, yy 2, yy 3, yy 4, yy 5, nn 6, nn 7, yy 8] ?_
  refine yM 16 1 ?_
  refine yM 17 2 ?_
  refine yV (kq 18 (.binOp .add 3 (.tmp 16) (.tmp 17) 3)) (fun _ => val_is (val_addi rfl rfl (by omega) (by omega)) (congrArg (Value.int .i64) (show (n : Int) + (m : Int) = ((n + m : Nat) : Int) from by omega))) ?_
  refine yM 19 0 ?_
  refine yM 20 1 ?_
  refine yM 21 2 ?_
  refine cS (kq 22 (.call { callee := .value (.func 42), args := #[(.tmp 19), (.tmp 20), (.tmp 21)], argTypes := #[70, 3, 3] })) rfl rfl (ent Try.call42 rfl) (costs_ok hF hw hwn hwr hwB hn hm) ?_
  rintro vk w2 ⟨hs, hk⟩
  refine ⟨trivial, ?_⟩
  replace hF := hF.st hs
  replace hT := hT.t hs; replace hw := hw.t hs
  have hB : ∀ i j, i < n → j < m → 0 ≤ wK wl i j ∧ wK wl i j ≤ 65536 := fun i j hi hj => by
    have h1 := hwr _ (List.getElem_mem (show i < wl.length by omega))
    rw [wK_at (by omega) (by omega)]
    exact hwB _ (List.getElem_mem _) _ (List.getElem_mem _)
  refine cS (kq 23 (.call { callee := .value (.func 41), args := #[(.tmp 18), (.tmp 22)], argTypes := #[3, 70] })) rfl rfl (ent Try.call41 rfl) (ssolve_ok (W := 65536) hF hk sqL_len sqL_rows (cK_bnd (by decide) hB) (by decide) (by decide) (by omega) (by omega)) ?_
  rintro vw3 w3 ⟨bs_, ul, vl, rl, rfl, hs, hsol, l1, l2, l3, hI⟩
  refine ⟨trivial, ?_⟩
  replace hF := hF.st hs
  replace hT := hT.t hs; replace hw := hw.t hs; replace hk := hk.t hs
  obtain ⟨tt, htt⟩ : ∃ tt, tt = fun q => if gN rl (q + 1) ≤ n then wK wl (gN rl (q + 1) - 1) q else 0 := ⟨_, rfl⟩
  have htop : sumN m tt = top n m (wK wl) := by rw [htt]; exact sq_top (fun i j hi hj => (hB i j hi hj).1) hI
  have hrow : ∀ q, q < n + m → 1 ≤ gN rl (q + 1) := fun q hq => hi_col hI hq
  have htb : ∀ q, q < m → 0 ≤ tt q ∧ tt q ≤ 65536 := fun q hq => by
    rw [htt]; simp only
    split
    · exact hB _ _ (by have := hrow q (by omega); omega) hq
    · omega
  refine yA 7 23 ?_
  refine Sch.nil ?_
  refine run_sq ?_
  refine run_pl [yy 0] ?_
  refine yAc 8 (.int .i64 0) ?_
  refine Sch.nil ?_
  refine run_sq ?_
  refine run_sq ?_
  refine run_pl [yy 0] ?_
  refine yAc 9 (.int .i64 1) ?_
  refine Sch.nil ?_
  refine run_bk 0 ?_
  
  refine run_lp (ι := Nat × (Nat → Nat)) (I := fun x w => x.1 ≤ m ∧ Lim w x.2 ∧ Stp [2, 3, 4, 5, 6, 7, 8, 9] w₀ (col1 C) w x.2 ∧ RV w (Mc x.2) wl vw ∧ RA w (Mc x.2) (⟨((n + m : Nat) : Int), sqL n m (wK wl), ul, vl, rl⟩ : Sol) bs_ 0) (e := fun x => [(0, vw), (1, .int .i64 n), (2, .int .i64 m), (7, .pointer (some ⟨bs_, 0, none⟩)), (8, .int .i64 (sumN x.1 tt)), (9, .int .i64 ((x.1 + 1 : Nat) : Int))]) (m := fun x => m - x.1) (x₀ := (0, col1 C)) (sr 0 (sr 1 (sr 2 (sr 7 (sr 8 (sr 9 (sub_nil _))))))) ?_ ?_
  · exact ⟨Nat.zero_le _, hF, hT, hw, hsol⟩
  intro ⟨j, C1⟩ w4 hI next
  obtain ⟨hj, hF, hT, hw, hsol⟩ := hI
  try simp only at hj hF hT hw hsol
  have next1 := next
  clear next
  show Run _ _ _ _ [(0, vw), (1, .int .i64 n), (2, .int .i64 m), (7, .pointer (some ⟨bs_, 0, none⟩)), (8, .int .i64 (sumN j tt)), (9, .int .i64 ((j + 1 : Nat) : Int))] _ _
  have hsb := sumN_bound (n := j) (fun q hq => htb q (by omega))
  refine run_sq ?_
  refine run_sq ?_
  refine run_pl [yy 0, yy 1, yy 2] ?_
  refine yM 24 9 ?_
  refine yM 25 2 ?_
  refine yV (kq 26 (.binOp .leq 3 (.tmp 24) (.tmp 25) 3)) (fun _ => val_leq rfl rfl) ?_
  refine Sch.nil ?_
  refine run_i 26 rfl (fun h26 => ?_) (fun h26 => ?_)
  ·
   have hjm : j < m := by omega
   have hr1 := hrow j (by omega)
   have hrg : gN rl (j + 1) = rl[j + 1]'(by omega) := getD_in _
   rw [hrg] at hr1
   refine run_sk ?_
   refine run_sq ?_
   refine run_bk 1 ?_
   refine run_sq ?_
   refine run_pl [yy 0, yy 1, yy 2, nn 3, yy 4, yy 5, nn 6, yy 7, yy 8, yy 9, yy 10, yy 11, nn 12, yy 13, yy 14, nn 15, yy 16, yy 17, yy 18] ?_
   refine yM 29 7 ?_
   refine yN 30 29 ?_
   have h31 := ra_sR hsol
   refine yF 31 80 30 4 4 ?_
   refine lN (kq 32 (.load 22 (.tmp 31))) rfl rfl trivial h31 (by kernel_rfl) rfl rfl ?_
   intro v32 g32
   refine yM 33 9 ?_
   refine iS (e := 3) (kq 34 (.indexAddr 22 (.tmp 32) (.tmp 33))) rfl rfl g32 rfl (by kernel_rfl) rfl (by omega) (by omega) ?_
   intro b34 o34 h34
   try simp only [Int.toNat_natCast] at h34
   refine lN (kq 35 (.load 3 (.tmp 34))) rfl rfl trivial h34 (by kernel_rfl) rfl rfl ?_
   intro v35 g35
   first | (obtain rfl := rv_nat.1 g35) | (obtain rfl := rv_int.1 g35)
   refine yV (kq 36 (.binOp .geq 3 (.tmp 35) (.const (.int .i64 1)) 3)) (fun _ => val_T (val_geq rfl rfl) (by omega)) ?_
   refine yM 37 36 ?_
   refine yMg 38 7 8 true ?_
   refine yV (kg 39 (.nilCheck (.tmp 38)) 8 true) (fun _ => val_nilCheck rfl) ?_
   have h40 := ra_sR hsol
   refine yFg 40 80 39 4 4 8 true ?_
   refine lN (kg 41 (.load 22 (.tmp 40)) 8 true) rfl rfl trivial h40 (by kernel_rfl) rfl rfl ?_
   intro v41 g41
   refine yMg 42 9 8 true ?_
   refine iS (e := 3) (kg 43 (.indexAddr 22 (.tmp 41) (.tmp 42)) 8 true) rfl rfl g41 rfl (by kernel_rfl) rfl (by omega) (by omega) ?_
   intro b43 o43 h43
   try simp only [Int.toNat_natCast] at h43
   refine lN (kg 44 (.load 3 (.tmp 43)) 8 true) rfl rfl trivial h43 (by kernel_rfl) rfl rfl ?_
   intro v44 g44
   first | (obtain rfl := rv_nat.1 g44) | (obtain rfl := rv_int.1 g44)
   refine yMg 45 1 8 true ?_
   refine yV (kg 46 (.binOp .leq 3 (.tmp 44) (.tmp 45) 3) 8 true) (fun _ => val_leq rfl rfl) ?_
   refine yAt 47 37 46 ?_
   refine Sch.nil ?_
   refine run_i 47 rfl (fun h47 => ?_) (fun h47 => ?_)
   ·
    obtain ⟨r0, hr0⟩ : ∃ r0, rl[j + 1]'(by omega) = r0 + 1 := ⟨rl[j + 1]'(by omega) - 1, by omega⟩
    have hrn : r0 < n := by omega
    have hiw : r0 < wl.length := by omega
    have hrm : (wl[r0]'hiw).length = m := hwr _ (List.getElem_mem hiw)
    have hxb := hwB _ (List.getElem_mem hiw) ((wl[r0]'hiw)[j]'(by omega)) (List.getElem_mem _)
    have hte : tt j = (wl[r0]'hiw)[j]'(by omega) := by rw [htt]; simp only; rw [hrg, hr0, if_pos (by omega), Nat.add_sub_cancel, wK_at hiw (by omega)]
    refine run_pl [yy 0, yy 1, yy 2, yy 3, yy 4, nn 5, yy 6, yy 7, nn 8, yy 9, yy 10, nn 11, yy 12, yy 13, yy 14, nn 15, yy 16, yy 17] ?_
    refine yM 48 8 ?_
    refine yM 49 0 ?_
    refine yM 50 7 ?_
    refine yN 51 50 ?_
    have h52 := ra_sR hsol
    refine yF 52 80 51 4 4 ?_
    refine lN (kq 53 (.load 22 (.tmp 52))) rfl rfl trivial h52 (by kernel_rfl) rfl rfl ?_
    intro v53 g53
    refine yM 54 9 ?_
    refine iS (e := 3) (kq 55 (.indexAddr 22 (.tmp 53) (.tmp 54))) rfl rfl g53 rfl (by kernel_rfl) rfl (by omega) (by omega) ?_
    intro b55 o55 h55
    try simp only [Int.toNat_natCast] at h55
    refine lN (kq 56 (.load 3 (.tmp 55))) rfl rfl trivial h55 (by kernel_rfl) rfl rfl ?_
    intro v56 g56
    first | (obtain rfl := rv_nat.1 g56) | (obtain rfl := rv_int.1 g56)
    simp only [hr0]
    refine yV (kq 57 (.binOp .sub 3 (.tmp 56) (.const (.int .i64 1)) 3)) (fun _ => val_subi rfl rfl (by omega) (by omega)) ?_
    refine iS (e := 22) (kq 58 (.indexAddr 70 (.tmp 49) (.tmp 57))) rfl rfl hw rfl (by kernel_rfl) rfl (by omega) (by omega) ?_
    intro b58 o58 h58
    try simp only [Int.toNat_natCast] at h58
    simp only [show (((r0 + 1 : Nat) : Int) - 1).toNat = r0 from by omega] at h58
    refine lN (kq 59 (.load 22 (.tmp 58))) rfl rfl trivial h58 (by kernel_rfl) rfl rfl ?_
    intro v59 g59
    refine yM 60 9 ?_
    refine yV (kq 61 (.binOp .sub 3 (.tmp 60) (.const (.int .i64 1)) 3)) (fun _ => val_subi rfl rfl (by omega) (by omega)) ?_
    refine iS (e := 3) (kq 62 (.indexAddr 22 (.tmp 59) (.tmp 61))) rfl rfl g59 rfl (by kernel_rfl) rfl (by omega) (by omega) ?_
    intro b62 o62 h62
    try simp only [Int.toNat_natCast] at h62
    simp only [show (((j + 1 : Nat) : Int) - 1).toNat = j from by omega] at h62
    refine lN (kq 63 (.load 3 (.tmp 62))) rfl rfl trivial h62 (by kernel_rfl) rfl rfl ?_
    intro v63 g63
    first | (obtain rfl := rv_nat.1 g63) | (obtain rfl := rv_int.1 g63)
    refine yV (kq 64 (.binOp .add 3 (.tmp 48) (.tmp 63) 3)) (fun _ => val_addi rfl rfl (by omega) (by omega)) ?_
    refine yA 8 64 ?_
    refine Sch.nil ?_
    refine run_inBlock ?_
    refine run_pl [yy 0, yy 1, yy 2] ?_
    refine yM 27 9 ?_
    refine yV (kq 28 (.binOp .add 3 (.tmp 27) (.const (.int .i64 1)) 3)) (fun _ => val_addi rfl rfl (by omega) (by omega)) ?_
    refine yA 9 28 ?_
    refine Sch.nil ?_
    refine kp (sub_cons 0 rfl rfl (sub_cons 1 rfl rfl (sub_cons 2 rfl rfl (sub_cons 7 rfl rfl (sub_cons 8 rfl (eq_int (by show _ = sumN j tt + tt j; rw [hte])) (sub_cons 9 rfl (eq_int (by omega)) (sub_nil _))))))) (next1 (j + 1, C1) _ ⟨(by first | omega | (simp only; omega)), hF, hT, hw, hsol⟩ (by first | omega | (simp only; omega)))
   ·
    have hte : tt j = 0 := by rw [htt]; simp only; rw [hrg, if_neg (by omega)]
    refine run_sk ?_
    refine run_inBlock ?_
    refine run_pl [yy 0, yy 1, yy 2] ?_
    refine yM 27 9 ?_
    refine yV (kq 28 (.binOp .add 3 (.tmp 27) (.const (.int .i64 1)) 3)) (fun _ => val_addi rfl rfl (by omega) (by omega)) ?_
    refine yA 9 28 ?_
    refine Sch.nil ?_
    refine kp (sub_cons 0 rfl rfl (sub_cons 1 rfl rfl (sub_cons 2 rfl rfl (sub_cons 7 rfl rfl (sub_cons 8 rfl (eq_int (by show _ = sumN j tt + tt j; rw [hte]; omega)) (sub_cons 9 rfl (eq_int (by omega)) (sub_nil _))))))) (next1 (j + 1, C1) _ ⟨(by first | omega | (simp only; omega)), hF, hT, hw, hsol⟩ (by first | omega | (simp only; omega)))
  ·
   obtain rfl : j = m := by omega
   refine run_ex 0 ?_
   refine run_sq ?_
   refine run_pl [yy 0, yy 1] ?_
   refine yM 65 8 ?_
   refine yA 6 65 ?_
   refine Sch.nil ?_
   refine run_ret1 (by kernel_rfl) Try.func37 Try.results37 rfl ?_
   exact ⟨by rw [htop], hT.out1 (by decide)⟩
end Go.Proofs.Ytgooehopkmbkfaa
