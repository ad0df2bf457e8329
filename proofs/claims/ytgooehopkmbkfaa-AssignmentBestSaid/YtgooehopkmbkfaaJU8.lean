/- Steps through functions of the program. -/
import Derived.Test.YtgooehopkmbkfaaJU7
set_option linter.unusedVariables false
set_option linter.unusedSimpArgs false
set_option maxRecDepth 100000
set_option maxHeartbeats 4000000
namespace Go.Proofs.Ytgooehopkmbkfaa
open Go.K Go.K.Rep

namespace F39
noncomputable def c0 : Code := bodyOf Try.f39
noncomputable def c1 : Code := cl c0
noncomputable def o0 : Array Oper := rops c1
noncomputable def c2 : Code := cr c0
noncomputable def c3 : Code := cl c2
noncomputable def c4 : Code := cl c3
noncomputable def o1 : Array Oper := rops c4
noncomputable def c5 : Code := cr c3
noncomputable def c6 : Code := cl c5
noncomputable def c7 : Code := cl c6
noncomputable def o2 : Array Oper := rops c7
noncomputable def c8 : Code := cr c6
noncomputable def c9 : Code := cr c5
noncomputable def c10 : Code := cr c2
noncomputable def c11 : Code := cl c10
noncomputable def o3 : Array Oper := rops c11
noncomputable def c12 : Code := cr c10
noncomputable def c13 : Code := cl c12
noncomputable def c14 : Code := cl c13
noncomputable def o4 : Array Oper := rops c14
noncomputable def c15 : Code := cr c13
noncomputable def c16 : Code := cl c15
noncomputable def c17 : Code := cl c16
noncomputable def c18 : Code := cl c17
noncomputable def o5 : Array Oper := rops c18
noncomputable def c19 : Code := cr c17
noncomputable def c20 : Code := cl c19
noncomputable def c21 : Code := cl c20
noncomputable def c22 : Code := cr c20
noncomputable def c23 : Code := cr c19
noncomputable def c24 : Code := cl c23
noncomputable def c25 : Code := cl c24
noncomputable def c26 : Code := cl c25
noncomputable def o6 : Array Oper := rops c26
noncomputable def c27 : Code := cr c25
noncomputable def c28 : Code := cl c27
noncomputable def c29 : Code := cl c28
noncomputable def o7 : Array Oper := rops c29
noncomputable def c30 : Code := cr c28
noncomputable def c31 : Code := cl c30
noncomputable def c32 : Code := cl c31
noncomputable def o8 : Array Oper := rops c32
noncomputable def c33 : Code := cr c31
noncomputable def c34 : Code := cr c30
noncomputable def c35 : Code := cr c27
noncomputable def o9 : Array Oper := rops c35
noncomputable def c36 : Code := cr c23
noncomputable def o10 : Array Oper := rops c36
noncomputable def c37 : Code := cr c12
noncomputable def c38 : Code := cl c37
noncomputable def c39 : Code := cl c38
noncomputable def o11 : Array Oper := rops c39
noncomputable def c40 : Code := cr c38
noncomputable def c41 : Code := cl c40
noncomputable def c42 : Code := cl c41
noncomputable def c43 : Code := cl c42
noncomputable def o12 : Array Oper := rops c43
noncomputable def c44 : Code := cr c42
noncomputable def c45 : Code := cl c44
noncomputable def c46 : Code := cl c45
noncomputable def c47 : Code := cr c45
noncomputable def c48 : Code := cr c44
noncomputable def c49 : Code := cl c48
noncomputable def c50 : Code := cl c49
noncomputable def c51 : Code := cl c50
noncomputable def o13 : Array Oper := rops c51
noncomputable def c52 : Code := cr c50
noncomputable def c53 : Code := cl c52
noncomputable def o14 : Array Oper := rops c53
noncomputable def c54 : Code := cr c52
noncomputable def c55 : Code := cl c54
noncomputable def c56 : Code := cl c55
noncomputable def o15 : Array Oper := rops c56
noncomputable def c57 : Code := cr c55
noncomputable def c58 : Code := cr c54
noncomputable def c59 : Code := cr c48
noncomputable def o16 : Array Oper := rops c59
noncomputable def c60 : Code := cr c37
noncomputable def c61 : Code := cl c60
noncomputable def o17 : Array Oper := rops c61
noncomputable def c62 : Code := cr c60
end F39
/-- 'priced'. -/
theorem priced_ok {w₀ : World} {C : Nat → Nat} {n m : Int} {l : List K.Edge} {ul vl : List Int} {pl pu pv : Value} (hF : Lim w₀ C) (hV : VE n m l) (hl : RV w₀ (Mc C) l pl) (hu : RV w₀ (Mc C) ul pu) (hv : RV w₀ (Mc C) vl pv) :
    Calls Try.prog 39 #[.int .i64 n, .int .i64 m, pl, pu, pv] w₀ (Ret fun v w' => ∃ (t : Int) (b : Bool), v = .tuple #[.int .i64 t, .bool b] ∧ Stp [] w₀ C w' C ∧ (b = true ↔ PrO n m l ul vl) ∧ (b = true → t = sumN (ul ++ vl).length (gI (ul ++ vl)))) := by
  have hF0 := hF
  have hT := Stp.refl [2, 3, 4, 5, 6, 7, 8, 9] w₀ (col1 C)
  replace hF := hF.col1
  replace hl : RV w₀ (Mc (col1 C)) l pl := by rw [Mc_col1]; exact hl
  replace hu : RV w₀ (Mc (col1 C)) ul pu := by rw [Mc_col1]; exact hu
  replace hv : RV w₀ (Mc (col1 C)) vl pv := by rw [Mc_col1]; exact hv
  refine calls_start (c := F39.c0) (N := 68) [.int .i64 n, .int .i64 m, pl, pu, pv] Try.func39 (by kernel_rfl) (by kernel_rfl) (by kernel_rfl) ?_
  show Run _ _ _ _ [(0, .int .i64 n), (1, .int .i64 m), (2, pl), (3, pu), (4, pv)] _ _
  refine run_seq (x := F39.c1) (y := F39.c2) (by kernel_rfl) ?_
  refine run_plain (id := 0) (ops := F39.o0) [(0, true), (1, true)] (by kernel_rfl) (by kernel_rfl) ?_
  refine yS (by kernel_rfl : opAt F39.o0 0 = some (some 10, .assign (.const (.int .i64 0)), none)) rfl rfl (fun w' hS => val_assign rfl) ?_
  refine yS (by kernel_rfl : opAt F39.o0 1 = some (some 11, .assign (.const (.bool false)), none)) rfl rfl (fun w' hS => val_assign rfl) ?_
  refine Sch.nil ?_
  refine run_seq (x := F39.c3) (y := F39.c10) (by kernel_rfl) ?_
  refine run_seq (x := F39.c4) (y := F39.c5) (by kernel_rfl) ?_
  refine run_cut 26 (decide (¬ ((ul.length : Int) = n ∧ (vl.length : Int) = m))) (col1 C) ?_ ?_
  · intro hcut
    by_cases hA : (ul.length : Int) = n
    · skip
      refine run_plain (id := 1) (ops := F39.o1) [(0, true), (1, true), (2, true), (3, true), (4, true), (5, true), (6, true), (7, true), (8, true), (9, true)] (by kernel_rfl) (by kernel_rfl) ?_
      refine yS (by kernel_rfl : opAt F39.o1 0 = some (some 17, .move (.tmp 3), none)) rfl rfl (fun w' hS => val_move rfl) ?_
      refine yS (by kernel_rfl : opAt F39.o1 1 = some (some 18, .call { callee := .builtin .len, args := #[(.tmp 17)], argTypes := #[22] }, none)) rfl rfl (fun w' hS => hu.lenV rfl Try.underlying22 w' ) ?_
      refine yS (by kernel_rfl : opAt F39.o1 2 = some (some 19, .move (.tmp 0), none)) rfl rfl (fun w' hS => val_move rfl) ?_
      refine yS (by kernel_rfl : opAt F39.o1 3 = some (some 20, .binOp .neq 3 (.tmp 18) (.tmp 19) 3, none)) rfl rfl (fun w' hS => val_F (val_neq rfl rfl) (fun e => e hA)) ?_
      refine yS (by kernel_rfl : opAt F39.o1 4 = some (some 21, .move (.tmp 20), none)) rfl rfl (fun w' hS => val_move rfl) ?_
      refine yS (by kernel_rfl : opAt F39.o1 5 = some (some 22, .move (.tmp 4), (some (4, false)))) rfl rfl (fun w' hS => val_move rfl) ?_
      refine yS (by kernel_rfl : opAt F39.o1 6 = some (some 23, .call { callee := .builtin .len, args := #[(.tmp 22)], argTypes := #[22] }, (some (4, false)))) rfl rfl (fun w' hS => hv.lenV rfl Try.underlying22 w' ) ?_
      refine yS (by kernel_rfl : opAt F39.o1 7 = some (some 24, .move (.tmp 1), (some (4, false)))) rfl rfl (fun w' hS => val_move rfl) ?_
      refine yS (by kernel_rfl : opAt F39.o1 8 = some (some 25, .binOp .neq 3 (.tmp 23) (.tmp 24) 3, (some (4, false)))) rfl rfl (fun w' hS => val_neq rfl rfl) ?_
      refine yS (by kernel_rfl : opAt F39.o1 9 = some (some 26, .pick (.tmp 21) (.const (.bool true)) (.tmp 25), none)) rfl rfl (fun w' hS => val_pick_f rfl rfl) ?_
      exact Sch.nil (hcut _ _ _ (Stp.refl _ _ _) rfl (by congr 1; apply decide_eq_decide.2; exact ⟨fun h e => h e.2, fun h e => h ⟨hA, e⟩⟩) (sub_skip rfl (sub_skip rfl (sub_skip rfl (sub_skip rfl (sub_skip rfl (sub_skip rfl (sub_skip rfl (sub_skip rfl (sub_skip rfl (sub_skip rfl (Sub.refl _))))))))))))
    · skip
      refine run_plain (id := 1) (ops := F39.o1) [(0, true), (1, true), (2, true), (3, true), (4, true), (5, true), (6, true), (7, true), (8, true), (9, true)] (by kernel_rfl) (by kernel_rfl) ?_
      refine yS (by kernel_rfl : opAt F39.o1 0 = some (some 17, .move (.tmp 3), none)) rfl rfl (fun w' hS => val_move rfl) ?_
      refine yS (by kernel_rfl : opAt F39.o1 1 = some (some 18, .call { callee := .builtin .len, args := #[(.tmp 17)], argTypes := #[22] }, none)) rfl rfl (fun w' hS => hu.lenV rfl Try.underlying22 w' ) ?_
      refine yS (by kernel_rfl : opAt F39.o1 2 = some (some 19, .move (.tmp 0), none)) rfl rfl (fun w' hS => val_move rfl) ?_
      refine yS (by kernel_rfl : opAt F39.o1 3 = some (some 20, .binOp .neq 3 (.tmp 18) (.tmp 19) 3, none)) rfl rfl (fun w' hS => val_T (val_neq rfl rfl) hA) ?_
      refine yS (by kernel_rfl : opAt F39.o1 4 = some (some 21, .move (.tmp 20), none)) rfl rfl (fun w' hS => val_move rfl) ?_
      refine pS (by kernel_rfl : opAt F39.o1 5 = some (some 22, .move (.tmp 4), (some (4, false)))) rfl rfl ?_
      refine pS (by kernel_rfl : opAt F39.o1 6 = some (some 23, .call { callee := .builtin .len, args := #[(.tmp 22)], argTypes := #[22] }, (some (4, false)))) rfl rfl ?_
      refine pS (by kernel_rfl : opAt F39.o1 7 = some (some 24, .move (.tmp 1), (some (4, false)))) rfl rfl ?_
      refine pS (by kernel_rfl : opAt F39.o1 8 = some (some 25, .binOp .neq 3 (.tmp 23) (.tmp 24) 3, (some (4, false)))) rfl rfl ?_
      refine yS (by kernel_rfl : opAt F39.o1 9 = some (some 26, .pick (.tmp 21) (.const (.bool true)) (.tmp 25), none)) rfl rfl (fun w' hS => val_pick_t rfl rfl) ?_
      exact Sch.nil (hcut _ _ _ (Stp.refl _ _ _) rfl (by rw [decide_eq_true (show ¬ ((ul.length : Int) = n ∧ (vl.length : Int) = m) from fun e => hA e.1)]) (sub_skip rfl (sub_skip rfl (sub_skip rfl (sub_skip rfl (sub_skip rfl (sub_skip rfl (sub_skip rfl (sub_skip rfl (sub_skip rfl (sub_skip rfl (Sub.refl _))))))))))))
  intro w1 hs
  replace hF := hF.st hs
  replace hT := hT.trans hs (by simp)
  replace hl := hl.st hs (by first | decide | (simp <;> omega))
  replace hu := hu.st hs (by first | decide | (simp <;> omega))
  replace hv := hv.st hs (by first | decide | (simp <;> omega))
  refine run_if (x := F39.c6) (y := F39.c9) (o := .tmp 26) (by kernel_rfl) rfl (fun h26 => ?_) (fun h26 => ?_)
  · skip
    refine run_seq (x := F39.c7) (y := F39.c8) (by kernel_rfl) ?_
    refine run_plain (id := 2) (ops := F39.o2) [(0, true), (1, true)] (by kernel_rfl) (by kernel_rfl) ?_
    refine yS (by kernel_rfl : opAt F39.o2 0 = some (some 10, .assign (.const (.int .i64 0)), none)) rfl rfl (fun w' hS => val_assign rfl) ?_
    refine yS (by kernel_rfl : opAt F39.o2 1 = some (some 11, .assign (.const (.bool false)), none)) rfl rfl (fun w' hS => val_assign rfl) ?_
    refine Sch.nil ?_
    refine run_ret2 (by kernel_rfl) Try.func39 Try.results39 rfl rfl ?_
    exact ⟨_, false, rfl, hT.out1 (by decide), ⟨fun e => (by cases e), fun e => absurd e (by exact fun e => h26 ⟨e.un, e.vn⟩)⟩, fun e => (by cases e)⟩
  · skip
    obtain ⟨hun, hvn⟩ := Classical.not_not.1 h26
    have hn1 := hV.n1
    have hm1 := hV.m1
    have hlen := hV.len
    have hfl : [ul, vl].flatten = ul ++ vl := by simp
    have hcl : (ul ++ vl).length = ul.length + vl.length := List.length_append
    refine run_skip (by kernel_rfl) ?_
    refine run_seq (x := F39.c11) (y := F39.c12) (by kernel_rfl) ?_
    refine run_plain (id := 3) (ops := F39.o3) [(0, true)] (by kernel_rfl) (by kernel_rfl) ?_
    refine yS (by kernel_rfl : opAt F39.o3 0 = some (some 12, .assign (.const (.int .i64 0)), none)) rfl rfl (fun w' hS => val_assign rfl) ?_
    refine Sch.nil ?_
    refine run_seq (x := F39.c13) (y := F39.c37) (by kernel_rfl) ?_
    refine run_seq (x := F39.c14) (y := F39.c15) (by kernel_rfl) ?_
    refine run_plain (id := 4) (ops := F39.o4) [(0, true), (1, true), (2, false), (3, false), (4, true), (5, true)] (by kernel_rfl) (by kernel_rfl) ?_
    refine yS (by kernel_rfl : opAt F39.o4 0 = some (some 27, .move (.tmp 3), none)) rfl rfl (fun w' hS => val_move rfl) ?_
    refine yS (by kernel_rfl : opAt F39.o4 1 = some (some 28, .move (.tmp 4), none)) rfl rfl (fun w' hS => val_move rfl) ?_
    refine aS (by kernel_rfl : opAt F39.o4 2 = some (some 29, .buildSlice 70 2 #[(0, (.tmp 27)), (1, (.tmp 28))], none)) rfl rfl (a_buildSlice (ys := ([ul, vl] : List (List Int))) (e := 22) (bytes := 24) hF (by kernel_rfl) rfl (by decide) (by decide) ⟨rfl, ⟨_, rfl, hu⟩, rfl, ⟨_, rfl, hv⟩, trivial⟩) ?_
    rintro v29 w2 ⟨hs, g29, hF⟩
    refine ⟨trivial, ?_⟩
    replace hT := hT.trans hs (by simp)
    replace hl := hl.st hs (by first | decide | (simp <;> omega))
    replace hu := hu.st hs (by first | decide | (simp <;> omega))
    replace hv := hv.st hs (by first | decide | (simp <;> omega))
    refine cS (by kernel_rfl : opAt F39.o4 3 = some (some 30, .call { callee := .value (.func 52), args := #[(.tmp 29)], argTypes := #[70] }, none)) rfl rfl (ent Try.call52 rfl) (concat_ok hF g29 (by rw [hfl]; omega)) ?_
    rintro vk w3 ⟨hs, hc⟩
    refine ⟨trivial, ?_⟩
    replace hF := hF.st hs
    replace hT := hT.trans hs (by simp)
    replace hl := hl.st hs (by first | decide | (simp <;> omega))
    replace hu := hu.st hs (by first | decide | (simp <;> omega))
    replace hv := hv.st hs (by first | decide | (simp <;> omega))
    replace g29 := g29.st hs (by first | decide | (simp <;> omega))
    rw [hfl] at hc
    obtain ⟨c, hcd⟩ : ∃ c, c = ul ++ vl := ⟨_, rfl⟩
    rw [← hcd] at hc hcl
    refine yS (by kernel_rfl : opAt F39.o4 4 = some (some 31, .call { callee := .builtin .len, args := #[(.tmp 30)], argTypes := #[22] }, none)) rfl rfl (fun w' hS => hc.lenV rfl Try.underlying22 w' ) ?_
    refine yS (by kernel_rfl : opAt F39.o4 5 = some (some 32, .move (.const (.int .i64 0)), none)) rfl rfl (fun w' hS => val_move rfl) ?_
    refine Sch.nil ?_
    refine run_block (x := F39.c16) (id := 0) (by kernel_rfl) ?_
    
    refine run_loop (ι := Nat × (Nat → Nat)) (I := fun x w => x.1 ≤ c.length ∧ (∀ q, q < x.1 → prOK c q) ∧ (0 ≤ sumN x.1 (gI c) ∧ sumN x.1 (gI c) ≤ 4194304 * x.1) ∧ Lim w x.2 ∧ Stp [2, 3, 4, 5, 6, 7, 8, 9] w₀ (col1 C) w x.2 ∧ RV w (Mc x.2) l pl ∧ RV w (Mc x.2) ul pu ∧ RV w (Mc x.2) vl pv ∧ RV w (Mc x.2) c vk) (e := fun x => [(0, .int .i64 n), (2, pl), (3, pu), (4, pv), (12, .int .i64 (sumN x.1 (gI c))), (30, vk), (31, .int .i64 c.length), (32, .int .i64 x.1)]) (m := fun x => c.length - x.1) (x₀ := (0, col1 C)) (body := F39.c17) (by kernel_rfl) (sub_cons 0 rfl rfl (sub_cons 2 rfl rfl (sub_cons 3 rfl rfl (sub_cons 4 rfl rfl (sub_cons 12 rfl rfl (sub_cons 30 rfl rfl (sub_cons 31 rfl rfl (sub_cons 32 rfl rfl (sub_nil _))))))))) ?_ ?_
    · exact ⟨Nat.zero_le _, (fun q hq => by simp only at hq; omega), ⟨Int.le_refl 0, Int.le_refl 0⟩, hF, hT, hl, hu, hv, hc⟩
    intro ⟨k, C1⟩ w4 hI next
    obtain ⟨hk, h0, ht, hF, hT, hl, hu, hv, hc⟩ := hI
    try simp only at hk h0 ht hF hT hl hu hv hc
    have next1 := next
    clear next
    show Run _ _ _ _ [(0, .int .i64 n), (2, pl), (3, pu), (4, pv), (12, .int .i64 (sumN k (gI c))), (30, vk), (31, .int .i64 c.length), (32, .int .i64 k)] _ _
    refine run_seq (x := F39.c18) (y := F39.c19) (by kernel_rfl) ?_
    refine run_plain (id := 5) (ops := F39.o5) [(0, true)] (by kernel_rfl) (by kernel_rfl) ?_
    refine yS (by kernel_rfl : opAt F39.o5 0 = some (some 33, .binOp .lss 3 (.tmp 32) (.tmp 31) 3, none)) rfl rfl (fun w' hS => val_lss rfl rfl) ?_
    refine Sch.nil ?_
    refine run_seq (x := F39.c20) (y := F39.c23) (by kernel_rfl) ?_
    refine run_if (x := F39.c21) (y := F39.c22) (o := .tmp 33) (by kernel_rfl) rfl (fun h33 => ?_) (fun h33 => ?_)
    · skip
      have hkl : k < c.length := by omega
      have hgx : gI c k = c[k]'hkl := getD_in _
      refine run_skip (by kernel_rfl) ?_
      refine run_seq (x := F39.c24) (y := F39.c36) (by kernel_rfl) ?_
      refine run_block (x := F39.c25) (id := 1) (by kernel_rfl) ?_
      refine run_seq (x := F39.c26) (y := F39.c27) (by kernel_rfl) ?_
      refine run_plain (id := 6) (ops := F39.o6) [(0, true), (1, false), (2, true)] (by kernel_rfl) (by kernel_rfl) ?_
      refine iS (e := 3) (by kernel_rfl : opAt F39.o6 0 = some (some 34, .indexAddr 22 (.tmp 30) (.tmp 32), none)) rfl rfl hc rfl (by kernel_rfl) rfl (by omega) (by omega) ?_
      intro b34 o34 h34
      try simp only [Int.toNat_natCast] at h34
      refine lN (by kernel_rfl : opAt F39.o6 1 = some (some 35, .load 3 (.tmp 34), none)) rfl rfl trivial h34 (by kernel_rfl) rfl rfl ?_
      intro v35 g35
      first | (obtain rfl := rv_nat.1 g35) | (obtain rfl := rv_int.1 g35)
      refine yS (by kernel_rfl : opAt F39.o6 2 = some (some 14, .assign (.tmp 35), none)) rfl rfl (fun w' hS => val_assign rfl) ?_
      refine Sch.nil ?_
      refine run_seq (x := F39.c28) (y := F39.c35) (by kernel_rfl) ?_
      refine run_seq (x := F39.c29) (y := F39.c30) (by kernel_rfl) ?_
      refine run_cut 41 (decide (c[k]'hkl < 0 ∨ 4194304 < c[k]'hkl)) (C1) ?_ ?_
      · intro hcut
        by_cases hA : c[k]'hkl < 0
        · skip
          refine run_plain (id := 7) (ops := F39.o7) [(0, true), (1, true), (2, true), (3, true), (4, true), (5, true)] (by kernel_rfl) (by kernel_rfl) ?_
          refine yS (by kernel_rfl : opAt F39.o7 0 = some (some 36, .move (.tmp 14), none)) rfl rfl (fun w' hS => val_move rfl) ?_
          refine yS (by kernel_rfl : opAt F39.o7 1 = some (some 37, .binOp .lss 3 (.tmp 36) (.const (.int .i64 0)) 3, none)) rfl rfl (fun w' hS => val_T (val_lss rfl rfl) hA) ?_
          refine yS (by kernel_rfl : opAt F39.o7 2 = some (some 38, .move (.tmp 37), none)) rfl rfl (fun w' hS => val_move rfl) ?_
          refine pS (by kernel_rfl : opAt F39.o7 3 = some (some 39, .move (.tmp 14), (some (2, false)))) rfl rfl ?_
          refine pS (by kernel_rfl : opAt F39.o7 4 = some (some 40, .binOp .gtr 3 (.tmp 39) (.const (.int .i64 4194304)) 3, (some (2, false)))) rfl rfl ?_
          refine yS (by kernel_rfl : opAt F39.o7 5 = some (some 41, .pick (.tmp 38) (.const (.bool true)) (.tmp 40), none)) rfl rfl (fun w' hS => val_pick_t rfl rfl) ?_
          exact Sch.nil (hcut _ _ _ (Stp.refl _ _ _) rfl (by rw [decide_eq_true (Or.inl hA)]) (sub_skip rfl (sub_skip rfl (sub_skip rfl (sub_skip rfl (sub_skip rfl (sub_skip rfl (Sub.refl _))))))))
        · skip
          refine run_plain (id := 7) (ops := F39.o7) [(0, true), (1, true), (2, true), (3, true), (4, true), (5, true)] (by kernel_rfl) (by kernel_rfl) ?_
          refine yS (by kernel_rfl : opAt F39.o7 0 = some (some 36, .move (.tmp 14), none)) rfl rfl (fun w' hS => val_move rfl) ?_
          refine yS (by kernel_rfl : opAt F39.o7 1 = some (some 37, .binOp .lss 3 (.tmp 36) (.const (.int .i64 0)) 3, none)) rfl rfl (fun w' hS => val_F (val_lss rfl rfl) hA) ?_
          refine yS (by kernel_rfl : opAt F39.o7 2 = some (some 38, .move (.tmp 37), none)) rfl rfl (fun w' hS => val_move rfl) ?_
          refine yS (by kernel_rfl : opAt F39.o7 3 = some (some 39, .move (.tmp 14), (some (2, false)))) rfl rfl (fun w' hS => val_move rfl) ?_
          refine yS (by kernel_rfl : opAt F39.o7 4 = some (some 40, .binOp .gtr 3 (.tmp 39) (.const (.int .i64 4194304)) 3, (some (2, false)))) rfl rfl (fun w' hS => val_gtr rfl rfl) ?_
          refine yS (by kernel_rfl : opAt F39.o7 5 = some (some 41, .pick (.tmp 38) (.const (.bool true)) (.tmp 40), none)) rfl rfl (fun w' hS => val_pick_f rfl rfl) ?_
          exact Sch.nil (hcut _ _ _ (Stp.refl _ _ _) rfl (by congr 1; apply decide_eq_decide.2; omega) (sub_skip rfl (sub_skip rfl (sub_skip rfl (sub_skip rfl (sub_skip rfl (sub_skip rfl (Sub.refl _))))))))
      intro w5 hs
      replace hF := hF.st hs
      replace hT := hT.trans hs (by simp)
      replace hl := hl.st hs (by first | decide | (simp <;> omega))
      replace hu := hu.st hs (by first | decide | (simp <;> omega))
      replace hv := hv.st hs (by first | decide | (simp <;> omega))
      replace hc := hc.st hs (by first | decide | (simp <;> omega))
      replace h34 := h34.st hs (by first | decide | (simp <;> omega))
      refine run_if (x := F39.c31) (y := F39.c34) (o := .tmp 41) (by kernel_rfl) rfl (fun h41 => ?_) (fun h41 => ?_)
      · skip
        refine run_seq (x := F39.c32) (y := F39.c33) (by kernel_rfl) ?_
        refine run_plain (id := 8) (ops := F39.o8) [(0, true), (1, true)] (by kernel_rfl) (by kernel_rfl) ?_
        refine yS (by kernel_rfl : opAt F39.o8 0 = some (some 10, .assign (.const (.int .i64 0)), none)) rfl rfl (fun w' hS => val_assign rfl) ?_
        refine yS (by kernel_rfl : opAt F39.o8 1 = some (some 11, .assign (.const (.bool false)), none)) rfl rfl (fun w' hS => val_assign rfl) ?_
        refine Sch.nil ?_
        refine run_ret2 (by kernel_rfl) Try.func39 Try.results39 rfl rfl ?_
        exact ⟨_, false, rfl, hT.out1 (by decide), ⟨fun e => (by cases e), fun e => absurd e (by exact fun e => by have := e.ok k (by rw [← hcd]; exact hkl); unfold prOK at this; rw [← hcd, hgx] at this; omega)⟩, fun e => (by cases e)⟩
      · skip
        have hokk : prOK c k := by unfold prOK; rw [hgx]; omega
        have hts : sumN (k + 1) (gI c) = sumN k (gI c) + c[k] := by show sumN k (gI c) + gI c k = _; rw [hgx]
        refine run_skip (by kernel_rfl) ?_
        refine run_plain (id := 9) (ops := F39.o9) [(0, true), (1, true), (2, true), (3, true)] (by kernel_rfl) (by kernel_rfl) ?_
        refine yS (by kernel_rfl : opAt F39.o9 0 = some (some 42, .move (.tmp 12), none)) rfl rfl (fun w' hS => val_move rfl) ?_
        refine yS (by kernel_rfl : opAt F39.o9 1 = some (some 43, .move (.tmp 14), none)) rfl rfl (fun w' hS => val_move rfl) ?_
        refine yS (by kernel_rfl : opAt F39.o9 2 = some (some 44, .binOp .add 3 (.tmp 42) (.tmp 43) 3, none)) rfl rfl (fun w' hS => val_addi rfl rfl (by omega) (by omega)) ?_
        refine yS (by kernel_rfl : opAt F39.o9 3 = some (some 12, .assign (.tmp 44), none)) rfl rfl (fun w' hS => val_assign rfl) ?_
        refine Sch.nil ?_
        rw [← hts]
        refine run_inBlock ?_
        refine run_plain (id := 10) (ops := F39.o10) [(0, true), (1, true)] (by kernel_rfl) (by kernel_rfl) ?_
        refine yS (by kernel_rfl : opAt F39.o10 0 = some (some 45, .binOp .add 3 (.tmp 32) (.const (.int .i64 1)) 3, none)) rfl rfl (fun w' hS => val_addi rfl rfl (by omega) (by omega)) ?_
        refine yS (by kernel_rfl : opAt F39.o10 1 = some (some 32, .move (.tmp 45), none)) rfl rfl (fun w' hS => val_move rfl) ?_
        refine Sch.nil ?_
        refine kp (sub_cons 0 rfl rfl (sub_cons 2 rfl rfl (sub_cons 3 rfl rfl (sub_cons 4 rfl rfl (sub_cons 12 rfl rfl (sub_cons 30 rfl rfl (sub_cons 31 rfl rfl (sub_cons 32 rfl (eq_int (by simp)) (sub_nil _))))))))) (next1 (k + 1, C1) _ ⟨(by first | omega | (simp only; omega)), (fun q hq => by
            simp only at hq
            by_cases e : q = k
            · subst e; exact hokk
            · exact h0 q (by omega)), (by simp only; unfold prOK at hokk; omega), hF, hT, hl, hu, hv, hc⟩ (by first | omega | (simp only; omega)))
    · skip
      have hkl : k = c.length := by omega
      rw [hkl] at h0 ht
      rw [hkl]
      refine run_exit (id := 0) (by kernel_rfl) rfl ?_
      refine run_seq (x := F39.c38) (y := F39.c60) (by kernel_rfl) ?_
      refine run_seq (x := F39.c39) (y := F39.c40) (by kernel_rfl) ?_
      refine run_plain (id := 11) (ops := F39.o11) [(0, true), (1, true), (2, true)] (by kernel_rfl) (by kernel_rfl) ?_
      refine yS (by kernel_rfl : opAt F39.o11 0 = some (some 46, .move (.tmp 2), none)) rfl rfl (fun w' hS => val_move rfl) ?_
      refine yS (by kernel_rfl : opAt F39.o11 1 = some (some 47, .call { callee := .builtin .len, args := #[(.tmp 46)], argTypes := #[23] }, none)) rfl rfl (fun w' hS => hl.lenV rfl Try.underlying23 w' ) ?_
      refine yS (by kernel_rfl : opAt F39.o11 2 = some (some 48, .move (.const (.int .i64 0)), none)) rfl rfl (fun w' hS => val_move rfl) ?_
      refine Sch.nil ?_
      refine run_block (x := F39.c41) (id := 2) (by kernel_rfl) ?_
      
      refine run_loop (ι := Nat × (Nat → Nat)) (I := fun x w => x.1 ≤ l.length ∧ (∀ q (hq : q < l.length), q < x.1 → l[q].w ≤ gI ul l[q].a.toNat + gI vl l[q].b.toNat) ∧ Lim w x.2 ∧ Stp [2, 3, 4, 5, 6, 7, 8, 9] w₀ (col1 C) w x.2 ∧ RV w (Mc x.2) l pl ∧ RV w (Mc x.2) ul pu ∧ RV w (Mc x.2) vl pv) (e := fun x => [(3, pu), (4, pv), (12, .int .i64 (sumN c.length (gI c))), (46, pl), (47, .int .i64 l.length), (48, .int .i64 x.1)]) (m := fun x => l.length - x.1) (x₀ := (0, C1)) (body := F39.c42) (by kernel_rfl) (sub_cons 3 rfl rfl (sub_cons 4 rfl rfl (sub_cons 12 rfl rfl (sub_cons 46 rfl rfl (sub_cons 47 rfl rfl (sub_cons 48 rfl rfl (sub_nil _))))))) ?_ ?_
      · exact ⟨Nat.zero_le _, (fun q _ hq => by simp only at hq; omega), hF, hT, hl, hu, hv⟩
      intro ⟨i, C2⟩ w6 hI next
      obtain ⟨hi, h1, hF, hT, hl, hu, hv⟩ := hI
      try simp only at hi h1 hF hT hl hu hv
      have next2 := next
      clear next
      show Run _ _ _ _ [(3, pu), (4, pv), (12, .int .i64 (sumN c.length (gI c))), (46, pl), (47, .int .i64 l.length), (48, .int .i64 i)] _ _
      have hle := hl.le
      refine run_seq (x := F39.c43) (y := F39.c44) (by kernel_rfl) ?_
      refine run_plain (id := 12) (ops := F39.o12) [(0, true)] (by kernel_rfl) (by kernel_rfl) ?_
      refine yS (by kernel_rfl : opAt F39.o12 0 = some (some 49, .binOp .lss 3 (.tmp 48) (.tmp 47) 3, none)) rfl rfl (fun w' hS => val_lss rfl rfl) ?_
      refine Sch.nil ?_
      refine run_seq (x := F39.c45) (y := F39.c48) (by kernel_rfl) ?_
      refine run_if (x := F39.c46) (y := F39.c47) (o := .tmp 49) (by kernel_rfl) rfl (fun h49 => ?_) (fun h49 => ?_)
      · skip
        have hil : i < l.length := by omega
        have hxo := (hV.ok (l[i]'hil) (List.getElem_mem hil))
        have hxa := hxo.1
        have hxw := hxo.2
        have hgu : gI ul (l[i]'hil).a.toNat = ul[(l[i]'hil).a.toNat]'(by omega) := getD_in _
        have hgv : gI vl (l[i]'hil).b.toNat = vl[(l[i]'hil).b.toNat]'(by omega) := getD_in _
        have hu0 := h0 (l[i]'hil).a.toNat (by omega)
        have hv0 := h0 (ul.length + (l[i]'hil).b.toNat) (by omega)
        have hu1 : gI c (l[i]'hil).a.toNat = gI ul (l[i]'hil).a.toNat := by rw [hcd]; show (ul ++ vl).getD _ 0 = ul.getD _ 0; rw [getD_in (by rw [List.length_append]; omega), getD_in (by omega), List.getElem_append_left]
        have hv1 : gI c (ul.length + (l[i]'hil).b.toNat) = gI vl (l[i]'hil).b.toNat := by rw [hcd]; show (ul ++ vl).getD _ 0 = vl.getD _ 0; rw [getD_in (by rw [List.length_append]; omega), getD_in (by omega), List.getElem_append_right (by omega)]; congr 1; omega
        unfold prOK at hu0 hv0
        rw [hu1, hgu] at hu0
        rw [hv1, hgv] at hv0
        refine run_skip (by kernel_rfl) ?_
        refine run_seq (x := F39.c49) (y := F39.c59) (by kernel_rfl) ?_
        refine run_block (x := F39.c50) (id := 3) (by kernel_rfl) ?_
        refine run_seq (x := F39.c51) (y := F39.c52) (by kernel_rfl) ?_
        refine run_plain (id := 13) (ops := F39.o13) [(0, true), (1, false), (2, false), (3, false)] (by kernel_rfl) (by kernel_rfl) ?_
        refine iS (e := 46) (by kernel_rfl : opAt F39.o13 0 = some (some 50, .indexAddr 23 (.tmp 46) (.tmp 48), none)) rfl rfl hl rfl (by kernel_rfl) rfl (by omega) (by omega) ?_
        intro b50 o50 h50
        try simp only [Int.toNat_natCast] at h50
        refine lNA (by kernel_rfl : opAt F39.o13 1 = some (some 51, .load 46 (.tmp 50), none)) rfl rfl trivial h50 (by kernel_rfl) (by kernel_rfl) rfl rfl ?_
        intro v51 g51
        obtain rfl := rv_edge.1 g51
        refine aS (by kernel_rfl : opAt F39.o13 2 = some (some 16, .alloc 46, none)) rfl rfl (a_alloc (cs := [.int .i64 0, .int .i64 0, .int .i64 0]) hF 4 (by kernel_rfl)) ?_
        rintro _ w7 ⟨Cw7, bw7, rfl, hs, hx, hF⟩
        refine ⟨trivial, ?_⟩
        replace hT := hT.trans hs (by simp)
        replace hl := hl.st hs (by first | decide | (simp <;> omega))
        replace hu := hu.st hs (by first | decide | (simp <;> omega))
        replace hv := hv.st hs (by first | decide | (simp <;> omega))
        replace h50 := h50.st hs (by first | decide | (simp <;> omega))
        refine aN (by kernel_rfl : opAt F39.o13 3 = some (none, .store 46 (.tmp 16) (.tmp 51), none)) rfl (a_storeAll (vs := encE (l[i]'hil)) (n := 3) rfl rfl (by kernel_rfl) rfl rfl (by intro u hu; simp only [encE, List.mem_cons, List.not_mem_nil, or_false] at hu; rcases hu with rfl | rfl | rfl <;> rfl) hx rfl) ?_
        rintro _ w8 ⟨rfl, hs, hx⟩
        refine ⟨trivial, ?_⟩
        replace hF := hF.st hs
        replace hT := hT.trans hs (by simp)
        replace hl := hl.st hs (by first | decide | (simp <;> omega))
        replace hu := hu.st hs (by first | decide | (simp <;> omega))
        replace hv := hv.st hs (by first | decide | (simp <;> omega))
        replace h50 := h50.st hs (by first | decide | (simp <;> omega))
        refine Sch.nil ?_
        refine run_seq (x := F39.c53) (y := F39.c54) (by kernel_rfl) ?_
        refine run_draw (id := 14) (ops := F39.o14) [] (Cw7) [(0, true), (1, true), (2, true), (3, true), (4, true), (5, true), (6, true), (7, true), (8, true), (9, true), (10, true), (11, true), (12, true), (13, true)] Try_mixed (by kernel_rfl) (by kernel_rfl) (by kernel_rfl) ?_
        intro w9 hs
        replace hF := hF.st hs
        replace hT := hT.trans hs (by simp)
        replace hl := hl.st hs (by first | decide | (simp <;> omega))
        replace hu := hu.st hs (by first | decide | (simp <;> omega))
        replace hv := hv.st hs (by first | decide | (simp <;> omega))
        replace h50 := h50.st hs (by first | decide | (simp <;> omega))
        replace hx := hx.st hs (by first | decide | (simp <;> omega))
        refine yS (by kernel_rfl : opAt F39.o14 0 = some (some 52, .move (.tmp 3), none)) rfl rfl (fun w' hS => val_move rfl) ?_
        refine yS (by kernel_rfl : opAt F39.o14 1 = some (some 53, .fieldAddr 46 (.tmp 16) 0, none)) rfl rfl (fun w' hS => val_fieldAddr (off := 0) (by kernel_rfl) rfl) ?_
        refine yS (by kernel_rfl : opAt F39.o14 2 = some (some 54, .load 3 (.tmp 53), none)) rfl rfl (fun w' hS => val_loadOwn (hx.stay hS (by decide)) (by kernel_rfl) rfl rfl) ?_
        refine iS (e := 3) (by kernel_rfl : opAt F39.o14 3 = some (some 55, .indexAddr 22 (.tmp 52) (.tmp 54), none)) rfl rfl hu rfl (by kernel_rfl) rfl (by omega) (by omega) ?_
        intro b55 o55 h55
        try simp only [Int.toNat_natCast] at h55
        refine lS (by kernel_rfl : opAt F39.o14 4 = some (some 56, .load 3 (.tmp 55), none)) rfl rfl (fun w' hS => h55.stay hS (by first | decide | (simp <;> omega))) h55 (by kernel_rfl) rfl rfl ?_
        intro v56 g56
        first | (obtain rfl := rv_nat.1 g56) | (obtain rfl := rv_int.1 g56)
        refine yS (by kernel_rfl : opAt F39.o14 5 = some (some 57, .move (.tmp 4), none)) rfl rfl (fun w' hS => val_move rfl) ?_
        refine yS (by kernel_rfl : opAt F39.o14 6 = some (some 58, .fieldAddr 46 (.tmp 16) 1, none)) rfl rfl (fun w' hS => val_fieldAddr (off := 1) (by kernel_rfl) rfl) ?_
        refine yS (by kernel_rfl : opAt F39.o14 7 = some (some 59, .load 3 (.tmp 58), none)) rfl rfl (fun w' hS => val_loadOwn (hx.stay hS (by decide)) (by kernel_rfl) rfl rfl) ?_
        refine iS (e := 3) (by kernel_rfl : opAt F39.o14 8 = some (some 60, .indexAddr 22 (.tmp 57) (.tmp 59), none)) rfl rfl hv rfl (by kernel_rfl) rfl (by omega) (by omega) ?_
        intro b60 o60 h60
        try simp only [Int.toNat_natCast] at h60
        refine lS (by kernel_rfl : opAt F39.o14 9 = some (some 61, .load 3 (.tmp 60), none)) rfl rfl (fun w' hS => h60.stay hS (by first | decide | (simp <;> omega))) h60 (by kernel_rfl) rfl rfl ?_
        intro v61 g61
        first | (obtain rfl := rv_nat.1 g61) | (obtain rfl := rv_int.1 g61)
        refine yS (by kernel_rfl : opAt F39.o14 10 = some (some 62, .binOp .add 3 (.tmp 56) (.tmp 61) 3, none)) rfl rfl (fun w' hS => val_addi rfl rfl (by omega) (by omega)) ?_
        refine yS (by kernel_rfl : opAt F39.o14 11 = some (some 63, .fieldAddr 46 (.tmp 16) 2, none)) rfl rfl (fun w' hS => val_fieldAddr (off := 2) (by kernel_rfl) rfl) ?_
        refine yS (by kernel_rfl : opAt F39.o14 12 = some (some 64, .load 3 (.tmp 63), none)) rfl rfl (fun w' hS => val_loadOwn (hx.stay hS (by decide)) (by kernel_rfl) rfl rfl) ?_
        refine yS (by kernel_rfl : opAt F39.o14 13 = some (some 65, .binOp .lss 3 (.tmp 62) (.tmp 64) 3, none)) rfl rfl (fun w' hS => val_lss rfl rfl) ?_
        refine Sch.nil ?_
        refine run_if (x := F39.c55) (y := F39.c58) (o := .tmp 65) (by kernel_rfl) rfl (fun h65 => ?_) (fun h65 => ?_)
        · skip
          refine run_seq (x := F39.c56) (y := F39.c57) (by kernel_rfl) ?_
          refine run_plain (id := 15) (ops := F39.o15) [(0, true), (1, true)] (by kernel_rfl) (by kernel_rfl) ?_
          refine yS (by kernel_rfl : opAt F39.o15 0 = some (some 10, .assign (.const (.int .i64 0)), none)) rfl rfl (fun w' hS => val_assign rfl) ?_
          refine yS (by kernel_rfl : opAt F39.o15 1 = some (some 11, .assign (.const (.bool false)), none)) rfl rfl (fun w' hS => val_assign rfl) ?_
          refine Sch.nil ?_
          refine run_ret2 (by kernel_rfl) Try.func39 Try.results39 rfl rfl ?_
          exact ⟨_, false, rfl, hT.out1 (by decide), ⟨fun e => (by cases e), fun e => absurd e (by exact fun e => by have := e.cov (l[i]'hil) (List.getElem_mem hil); rw [hgu, hgv] at this; omega)⟩, fun e => (by cases e)⟩
        · skip
          refine run_skip (by kernel_rfl) ?_
          refine run_inBlock ?_
          refine run_plain (id := 16) (ops := F39.o16) [(0, true), (1, true)] (by kernel_rfl) (by kernel_rfl) ?_
          refine yS (by kernel_rfl : opAt F39.o16 0 = some (some 66, .binOp .add 3 (.tmp 48) (.const (.int .i64 1)) 3, none)) rfl rfl (fun w' hS => val_addi rfl rfl (by omega) (by omega)) ?_
          refine yS (by kernel_rfl : opAt F39.o16 1 = some (some 48, .move (.tmp 66), none)) rfl rfl (fun w' hS => val_move rfl) ?_
          refine Sch.nil ?_
          refine kp (sub_cons 3 rfl rfl (sub_cons 4 rfl rfl (sub_cons 12 rfl rfl (sub_cons 46 rfl rfl (sub_cons 47 rfl rfl (sub_cons 48 rfl (eq_int (by simp)) (sub_nil _))))))) (next2 (i + 1, Cw7) _ ⟨(by first | omega | (simp only; omega)), (fun q hq hq2 => by
              simp only at hq2
              by_cases e : q = i
              · subst e; rw [hgu, hgv]; omega
              · exact h1 q hq (by omega)), hF, hT, hl, hu, hv⟩ (by first | omega | (simp only; omega)))
      · skip
        have hil : i = l.length := by omega
        refine run_exit (id := 2) (by kernel_rfl) rfl ?_
        refine run_seq (x := F39.c61) (y := F39.c62) (by kernel_rfl) ?_
        refine run_plain (id := 17) (ops := F39.o17) [(0, true), (1, true), (2, true)] (by kernel_rfl) (by kernel_rfl) ?_
        refine yS (by kernel_rfl : opAt F39.o17 0 = some (some 67, .move (.tmp 12), none)) rfl rfl (fun w' hS => val_move rfl) ?_
        refine yS (by kernel_rfl : opAt F39.o17 1 = some (some 10, .assign (.tmp 67), none)) rfl rfl (fun w' hS => val_assign rfl) ?_
        refine yS (by kernel_rfl : opAt F39.o17 2 = some (some 11, .assign (.const (.bool true)), none)) rfl rfl (fun w' hS => val_assign rfl) ?_
        refine Sch.nil ?_
        refine run_ret2 (by kernel_rfl) Try.func39 Try.results39 rfl rfl ?_
        exact ⟨_, true, rfl, hT.out1 (by decide), ⟨fun _ => ⟨hun, hvn, fun k hk => by rw [← hcd] at hk ⊢; exact h0 k hk, fun x hx => by
          obtain ⟨q, hq, rfl⟩ := List.getElem_of_mem hx
          exact h1 q hq (by omega)⟩, fun _ => rfl⟩, fun _ => by rw [hcd]⟩
end Go.Proofs.Ytgooehopkmbkfaa
