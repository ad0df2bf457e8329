/- Steps through functions of the program. -/
import Derived.Test.YtejbklahkkjmhaaJP8
import Derived.Test.YtejbklahkkjmhaaL1
set_option linter.unusedVariables false
set_option linter.unusedSimpArgs false
set_option maxRecDepth 100000
set_option maxHeartbeats 400000
namespace Go.Proofs.Ytejbklahkkjmhaa
open Go.K Go.K.Rep

namespace F16
noncomputable def c0 : Code := bodyOf Try.f16
noncomputable def c1 : Code := cl c0
noncomputable def o0 : Array Oper := rops c1
noncomputable def c2 : Code := cr c0
noncomputable def c3 : Code := cl c2
noncomputable def c4 : Code := cl c3
noncomputable def o1 : Array Oper := rops c4
noncomputable def c5 : Code := cr c3
noncomputable def c6 : Code := cl c5
noncomputable def o2 : Array Oper := rops c6
noncomputable def c7 : Code := cr c5
noncomputable def c8 : Code := cl c7
noncomputable def c9 : Code := cl c8
noncomputable def o3 : Array Oper := rops c9
noncomputable def c10 : Code := cr c8
noncomputable def c11 : Code := cr c7
noncomputable def c12 : Code := cr c2
noncomputable def c13 : Code := cl c12
noncomputable def o4 : Array Oper := rops c13
noncomputable def c14 : Code := cr c12
noncomputable def c15 : Code := cl c14
noncomputable def c16 : Code := cl c15
noncomputable def o5 : Array Oper := rops c16
noncomputable def c17 : Code := cr c15
noncomputable def c18 : Code := cl c17
noncomputable def c19 : Code := cl c18
noncomputable def c20 : Code := cl c19
noncomputable def o6 : Array Oper := rops c20
noncomputable def c21 : Code := cr c19
noncomputable def c22 : Code := cl c21
noncomputable def c23 : Code := cl c22
noncomputable def c24 : Code := cr c22
noncomputable def c25 : Code := cr c21
noncomputable def c26 : Code := cl c25
noncomputable def c27 : Code := cl c26
noncomputable def o7 : Array Oper := rops c27
noncomputable def c28 : Code := cr c26
noncomputable def c29 : Code := cl c28
noncomputable def o8 : Array Oper := rops c29
noncomputable def c30 : Code := cr c28
noncomputable def c31 : Code := cl c30
noncomputable def o9 : Array Oper := rops c31
noncomputable def c32 : Code := cr c30
noncomputable def c33 : Code := cr c14
noncomputable def c34 : Code := cl c33
noncomputable def o10 : Array Oper := rops c34
noncomputable def c35 : Code := cr c33
end F16
/-- The number of the couples that agree on all keys of the mask. -/
theorem agreeing_ok {w₀ : World} {C : Nat → Nat} {a b : List (List Block)} {va vb : Value} {mask : Int} (hF : Lim w₀ C) (ha : RV w₀ (Mc C) a va) (hb : RV w₀ (Mc C) b vb) (hsa : ∀ x ∈ a, total x ≤ 4611686018427387904) (hsb : ∀ x ∈ b, total x ≤ 4611686018427387904) : Calls Try.prog 16 #[va, vb, .int .i64 mask] w₀ (Ret fun v w' => v = .tuple #[.int .i64 (if checkM a b mask ≠ 0 ∨ mask = 0 then 0 else agreeS a b mask.toNat : Nat), .int .i64 (checkM a b mask)] ∧ Stp [] w₀ C w' C) := by
  have hF0 := hF
  have hT := Stp.refl [2, 3, 4, 5, 6, 7, 8, 9] w₀ (col1 C)
  replace hF := hF.col1
  replace ha : RV w₀ (Mc (col1 C)) a va := by rw [Mc_col1]; exact ha
  replace hb : RV w₀ (Mc (col1 C)) b vb := by rw [Mc_col1]; exact hb
  refine calls_start (c := F16.c0) (N := 39) [va, vb, .int .i64 mask] Try.func16 (by kernel_rfl) (by kernel_rfl) (by kernel_rfl) ?_
  show Run _ _ _ _ [(0, va), (1, vb), (2, .int .i64 mask)] _ _
  refine run_seq (x := F16.c1) (y := F16.c2) (by kernel_rfl) ?_
  refine run_plain (id := 0) (ops := F16.o0) [(0, true), (1, true)] (by kernel_rfl) (by kernel_rfl) ?_
  refine yS (by kernel_rfl : opAt F16.o0 0 = some (some 6, .assign (.const (.int .i64 0)), none)) rfl rfl (fun w' hS => val_assign rfl) ?_
  refine yS (by kernel_rfl : opAt F16.o0 1 = some (some 7, .assign (.const (.int .i64 0)), none)) rfl rfl (fun w' hS => val_assign rfl) ?_
  refine Sch.nil ?_
  refine run_seq (x := F16.c3) (y := F16.c12) (by kernel_rfl) ?_
  refine run_seq (x := F16.c4) (y := F16.c5) (by kernel_rfl) ?_
  refine run_plain (id := 1) (ops := F16.o1) [(0, true), (1, true), (2, true), (3, false), (4, true)] (by kernel_rfl) (by kernel_rfl) ?_
  refine yS (by kernel_rfl : opAt F16.o1 0 = some (some 12, .move (.tmp 0), none)) rfl rfl (fun w' hS => val_move rfl) ?_
  refine yS (by kernel_rfl : opAt F16.o1 1 = some (some 13, .move (.tmp 1), none)) rfl rfl (fun w' hS => val_move rfl) ?_
  refine yS (by kernel_rfl : opAt F16.o1 2 = some (some 14, .move (.tmp 2), none)) rfl rfl (fun w' hS => val_move rfl) ?_
  refine cS (by kernel_rfl : opAt F16.o1 3 = some (some 15, .call { callee := .value (.func 31), args := #[(.tmp 12), (.tmp 13), (.tmp 14)], argTypes := #[28, 28, 3] }, none)) rfl rfl (ent Try.call31 rfl) (checkM_ok hF ha hb hsa hsb) ?_
  rintro vw1 w1 ⟨rfl, hs⟩
  refine ⟨trivial, ?_⟩
  replace hF := hF.st hs
  replace hT := hT.trans hs (by simp)
  replace ha := ha.st hs (by first | decide | (simp <;> omega))
  replace hb := hb.st hs (by first | decide | (simp <;> omega))
  refine yS (by kernel_rfl : opAt F16.o1 4 = some (some 8, .assign (.tmp 15), none)) rfl rfl (fun w' hS => val_assign rfl) ?_
  refine Sch.nil ?_
  refine run_seq (x := F16.c6) (y := F16.c7) (by kernel_rfl) ?_
  refine run_cut 21 (decide (checkM a b mask ≠ 0 ∨ mask = 0)) (col1 C) ?_ ?_
  · intro hcut
    by_cases hA : checkM a b mask ≠ 0
    · skip
      refine run_plain (id := 2) (ops := F16.o2) [(0, true), (1, true), (2, true), (3, true), (4, true), (5, true)] (by kernel_rfl) (by kernel_rfl) ?_
      refine yS (by kernel_rfl : opAt F16.o2 0 = some (some 16, .move (.tmp 8), none)) rfl rfl (fun w' hS => val_move rfl) ?_
      refine yS (by kernel_rfl : opAt F16.o2 1 = some (some 17, .binOp .neq 31 (.tmp 16) (.const (.int .i64 0)) 31, none)) rfl rfl (fun w' hS => val_T (val_neq rfl rfl) hA) ?_
      refine yS (by kernel_rfl : opAt F16.o2 2 = some (some 18, .move (.tmp 17), none)) rfl rfl (fun w' hS => val_move rfl) ?_
      refine pS (by kernel_rfl : opAt F16.o2 3 = some (some 19, .move (.tmp 2), (some (2, false)))) rfl rfl ?_
      refine pS (by kernel_rfl : opAt F16.o2 4 = some (some 20, .binOp .eql 3 (.tmp 19) (.const (.int .i64 0)) 3, (some (2, false)))) rfl rfl ?_
      refine yS (by kernel_rfl : opAt F16.o2 5 = some (some 21, .pick (.tmp 18) (.const (.bool true)) (.tmp 20), none)) rfl rfl (fun w' hS => val_pick_t rfl rfl) ?_
      exact Sch.nil (hcut _ _ _ (Stp.refl _ _ _) rfl (by rw [decide_eq_true (Or.inl hA)]) (sub_skip rfl (sub_skip rfl (sub_skip rfl (sub_skip rfl (sub_skip rfl (sub_skip rfl (Sub.refl _))))))))
    · skip
      refine run_plain (id := 2) (ops := F16.o2) [(0, true), (1, true), (2, true), (3, true), (4, true), (5, true)] (by kernel_rfl) (by kernel_rfl) ?_
      refine yS (by kernel_rfl : opAt F16.o2 0 = some (some 16, .move (.tmp 8), none)) rfl rfl (fun w' hS => val_move rfl) ?_
      refine yS (by kernel_rfl : opAt F16.o2 1 = some (some 17, .binOp .neq 31 (.tmp 16) (.const (.int .i64 0)) 31, none)) rfl rfl (fun w' hS => val_F (val_neq rfl rfl) hA) ?_
      refine yS (by kernel_rfl : opAt F16.o2 2 = some (some 18, .move (.tmp 17), none)) rfl rfl (fun w' hS => val_move rfl) ?_
      refine yS (by kernel_rfl : opAt F16.o2 3 = some (some 19, .move (.tmp 2), (some (2, false)))) rfl rfl (fun w' hS => val_move rfl) ?_
      refine yS (by kernel_rfl : opAt F16.o2 4 = some (some 20, .binOp .eql 3 (.tmp 19) (.const (.int .i64 0)) 3, (some (2, false)))) rfl rfl (fun w' hS => val_eql rfl rfl) ?_
      refine yS (by kernel_rfl : opAt F16.o2 5 = some (some 21, .pick (.tmp 18) (.const (.bool true)) (.tmp 20), none)) rfl rfl (fun w' hS => val_pick_f rfl rfl) ?_
      exact Sch.nil (hcut _ _ _ (Stp.refl _ _ _) rfl (by congr 1; apply decide_eq_decide.2; omega) (sub_skip rfl (sub_skip rfl (sub_skip rfl (sub_skip rfl (sub_skip rfl (sub_skip rfl (Sub.refl _))))))))
  intro w2 hs
  replace hF := hF.st hs
  replace hT := hT.trans hs (by simp)
  replace ha := ha.st hs (by first | decide | (simp <;> omega))
  replace hb := hb.st hs (by first | decide | (simp <;> omega))
  refine run_if (x := F16.c8) (y := F16.c11) (o := .tmp 21) (by kernel_rfl) rfl (fun h21 => ?_) (fun h21 => ?_)
  · skip
    refine run_seq (x := F16.c9) (y := F16.c10) (by kernel_rfl) ?_
    refine run_plain (id := 3) (ops := F16.o3) [(0, true), (1, true), (2, true)] (by kernel_rfl) (by kernel_rfl) ?_
    refine yS (by kernel_rfl : opAt F16.o3 0 = some (some 22, .move (.tmp 8), none)) rfl rfl (fun w' hS => val_move rfl) ?_
    refine yS (by kernel_rfl : opAt F16.o3 1 = some (some 6, .assign (.const (.int .i64 0)), none)) rfl rfl (fun w' hS => val_assign rfl) ?_
    refine yS (by kernel_rfl : opAt F16.o3 2 = some (some 7, .assign (.tmp 22), none)) rfl rfl (fun w' hS => val_assign rfl) ?_
    refine Sch.nil ?_
    refine run_ret2 (by kernel_rfl) Try.func16 Try.results16 rfl rfl ?_
    exact ⟨by rw [if_pos h21]; rfl, hT.out1 (by decide)⟩
  · skip
    have hz : checkM a b mask = 0 := by omega
    have hm0 : mask ≠ 0 := by omega
    obtain ⟨hlen, h8, mk, rfl, hmk⟩ := checkM_zero hz
    refine run_skip (by kernel_rfl) ?_
    refine run_seq (x := F16.c13) (y := F16.c14) (by kernel_rfl) ?_
    refine run_plain (id := 4) (ops := F16.o4) [(0, true)] (by kernel_rfl) (by kernel_rfl) ?_
    refine yS (by kernel_rfl : opAt F16.o4 0 = some (some 9, .assign (.const (.int .i64 0)), none)) rfl rfl (fun w' hS => val_assign rfl) ?_
    refine Sch.nil ?_
    refine run_seq (x := F16.c15) (y := F16.c33) (by kernel_rfl) ?_
    refine run_seq (x := F16.c16) (y := F16.c17) (by kernel_rfl) ?_
    refine run_plain (id := 5) (ops := F16.o5) [(0, true), (1, true), (2, false), (3, false)] (by kernel_rfl) (by kernel_rfl) ?_
    refine yS (by kernel_rfl : opAt F16.o5 0 = some (some 23, .move (.tmp 0), none)) rfl rfl (fun w' hS => val_move rfl) ?_
    refine yS (by kernel_rfl : opAt F16.o5 1 = some (some 24, .move (.tmp 1), none)) rfl rfl (fun w' hS => val_move rfl) ?_
    refine cS (by kernel_rfl : opAt F16.o5 2 = some (some 25, .call { callee := .value (.func 32), args := #[(.tmp 23), (.tmp 24)], argTypes := #[28, 28] }, none)) rfl rfl (ent Try.call32 rfl) (agreements_ok hF ha hb hlen h8) ?_
    rintro vw3 w3 ⟨hs, hm, hsm⟩
    refine ⟨trivial, ?_⟩
    replace hF := hF.st hs
    replace hT := hT.trans hs (by simp)
    replace ha := ha.st hs (by first | decide | (simp <;> omega))
    replace hb := hb.st hs (by first | decide | (simp <;> omega))
    have hnd := hm.nodup
    refine aS (by kernel_rfl : opAt F16.o5 3 = some (some 26, .range 59 (.tmp 25), none)) rfl rfl (a_rangeR hF 4 Try.underlying59 hm rfl) ?_
    rintro _ w4 ⟨Cw4, itw4, bmw4, rfl, hs, hit, hF⟩
    refine ⟨trivial, ?_⟩
    replace hT := hT.trans hs (by simp)
    replace ha := ha.st hs (by first | decide | (simp <;> omega))
    replace hb := hb.st hs (by first | decide | (simp <;> omega))
    replace hm := hm.st hs (by first | decide | (simp <;> omega))
    refine Sch.nil ?_
    refine run_block (x := F16.c18) (id := 0) (by kernel_rfl) ?_
    refine run_loop (ι := (Nat → Nat) × Agr × Agr × Option (Couple × Nat)) (I := fun x w => Lim w x.1 ∧ Stp [2, 3, 4, 5, 6, 7, 8, 9] w₀ (col1 C) w x.1 ∧ OwnIt w x.1 4 itw4 0 bmw4 kvC vvN (agrI a b a.length) x.2.1 x.2.2.2 ∧ (x.2.2.1 ++ x.2.1).Perm (agrI a b a.length)) (e := fun x => [(2, .int .i64 (mk : Int)), (9, .int .i64 ((x.2.2.1.filter (alls mk)).length : Nat)), (26, .pointer (some ⟨itw4, 0, none⟩))]) (m := fun x => x.2.1.length) (x₀ := (Cw4, agrI a b a.length, [], none)) (body := F16.c19) (by kernel_rfl) (sub_cons 2 rfl rfl (sub_cons 9 rfl rfl (sub_cons 26 rfl rfl (sub_nil _)))) ?_ ?_
    · exact ⟨hF, hT, hit, by simp only [List.nil_append]; exact List.Perm.refl _⟩
    intro ⟨Ci, lf, tk, cu⟩ w5 hI next
    obtain ⟨hF, hT, hit, hpm⟩ := hI
    simp only at hF hT hit hpm
    show Run _ _ _ _ [(2, .int .i64 (mk : Int)), (9, .int .i64 ((tk.filter (alls mk)).length : Nat)), (26, .pointer (some ⟨itw4, 0, none⟩))] _ _
    have hsz := agr_len hz hpm
    have hfl := List.length_filter_le (alls mk) tk
    refine run_seq (x := F16.c20) (y := F16.c21) (by kernel_rfl) ?_
    refine run_plain (id := 6) (ops := F16.o6) [(0, false), (1, true)] (by kernel_rfl) (by kernel_rfl) ?_
    refine aS (by kernel_rfl : opAt F16.o6 0 = some (some 27, .next (.tmp 26) false, none)) rfl rfl (a_next hF hit rfl) ?_
    rintro _ w6 ⟨hs, _, hnx⟩
    refine ⟨trivial, ?_⟩
    replace hF := hF.st hs
    replace hT := hT.trans hs (by simp)
    rcases hnx with ⟨hlf, rfl⟩ | ⟨nc, hnc, rfl, hit⟩
    · skip
      refine yS (by kernel_rfl : opAt F16.o6 1 = some (some 28, .extract (.tmp 27) 0, none)) rfl rfl (fun w' hS => val_extract rfl rfl) ?_
      refine Sch.nil ?_
      subst hlf
      refine run_seq (x := F16.c22) (y := F16.c25) (by kernel_rfl) ?_
      refine run_cond (x := F16.c23) (y := F16.c24) (o := .tmp 28) (b := false) (by kernel_rfl) rfl (fun h => by cases h) (fun _ => ?_)
      refine run_exit (id := 0) (by kernel_rfl) rfl ?_
      refine run_seq (x := F16.c34) (y := F16.c35) (by kernel_rfl) ?_
      refine run_plain (id := 10) (ops := F16.o10) [(0, true), (1, true), (2, true)] (by kernel_rfl) (by kernel_rfl) ?_
      refine yS (by kernel_rfl : opAt F16.o10 0 = some (some 38, .move (.tmp 9), none)) rfl rfl (fun w' hS => val_move rfl) ?_
      refine yS (by kernel_rfl : opAt F16.o10 1 = some (some 6, .assign (.tmp 38), none)) rfl rfl (fun w' hS => val_assign rfl) ?_
      refine yS (by kernel_rfl : opAt F16.o10 2 = some (some 7, .assign (.const (.int .i64 0)), none)) rfl rfl (fun w' hS => val_assign rfl) ?_
      refine Sch.nil ?_
      refine run_ret2 (by kernel_rfl) Try.func16 Try.results16 rfl rfl ?_
      exact ⟨by rw [if_neg h21, hz, agreeS_of hpm]; rfl, hT.out1 (by decide)⟩
    · skip
      refine yS (by kernel_rfl : opAt F16.o6 1 = some (some 28, .extract (.tmp 27) 0, none)) rfl rfl (fun w' hS => val_extract rfl rfl) ?_
      refine Sch.nil ?_
      have hpm2 := perm_next hnc hpm
      obtain ⟨q, hq⟩ : ∃ q, q = lf[nc] := ⟨_, rfl⟩
      rw [← hq] at hit hpm2
      have hqm : q ∈ agrI a b a.length := hpm2.subset (by simp)
      have hq8 : q.2 < 256 := by have := hsm q.1; rw [mget_mem hnd hqm] at this; exact this
      refine run_seq (x := F16.c22) (y := F16.c25) (by kernel_rfl) ?_
      refine run_cond (x := F16.c23) (y := F16.c24) (o := .tmp 28) (b := true) (by kernel_rfl) rfl (fun _ => ?_) (fun h => by cases h)
      refine run_skip (by kernel_rfl) ?_
      refine run_block (x := F16.c26) (id := 1) (by kernel_rfl) ?_
      refine run_seq (x := F16.c27) (y := F16.c28) (by kernel_rfl) ?_
      refine run_plain (id := 7) (ops := F16.o7) [(0, false), (1, true), (2, true)] (by kernel_rfl) (by kernel_rfl) ?_
      refine nS (by kernel_rfl : opAt F16.o7 0 = some (some 29, .entry (.tmp 26), none)) rfl rfl trivial (hit.entry rfl) ?_
      refine yS (by kernel_rfl : opAt F16.o7 1 = some (some 30, .extract (.tmp 29) 1, none)) rfl rfl (fun w' hS => val_extract rfl rfl) ?_
      refine yS (by kernel_rfl : opAt F16.o7 2 = some (some 11, .assign (.tmp 30), none)) rfl rfl (fun w' hS => val_assign rfl) ?_
      refine Sch.nil ?_
      refine run_seq (x := F16.c29) (y := F16.c30) (by kernel_rfl) ?_
      refine run_plain (id := 8) (ops := F16.o8) [(0, true), (1, true), (2, true), (3, true), (4, true)] (by kernel_rfl) (by kernel_rfl) ?_
      refine yS (by kernel_rfl : opAt F16.o8 0 = some (some 31, .move (.tmp 11), none)) rfl rfl (fun w' hS => val_move rfl) ?_
      refine yS (by kernel_rfl : opAt F16.o8 1 = some (some 32, .move (.tmp 2), none)) rfl rfl (fun w' hS => val_move rfl) ?_
      refine yS (by kernel_rfl : opAt F16.o8 2 = some (some 33, .binOp .and 3 (.tmp 31) (.tmp 32) 3, none)) rfl rfl (fun w' hS => val_andE (r := ((q.2 &&& mk : Nat) : Int)) rfl rfl (bits_and (by omega) (by omega))) ?_
      refine yS (by kernel_rfl : opAt F16.o8 3 = some (some 34, .move (.tmp 2), none)) rfl rfl (fun w' hS => val_move rfl) ?_
      refine yS (by kernel_rfl : opAt F16.o8 4 = some (some 35, .binOp .eql 3 (.tmp 33) (.tmp 34) 3, none)) rfl rfl (fun w' hS => val_eql rfl rfl) ?_
      refine Sch.nil ?_
      refine run_if (x := F16.c31) (y := F16.c32) (o := .tmp 35) (by kernel_rfl) rfl (fun h35 => ?_) (fun h35 => ?_)
      · skip
        have hh : alls mk q = true := by simp only [alls, decide_eq_true_eq]; omega
        refine run_plain (id := 9) (ops := F16.o9) [(0, true), (1, true), (2, true)] (by kernel_rfl) (by kernel_rfl) ?_
        refine yS (by kernel_rfl : opAt F16.o9 0 = some (some 36, .move (.tmp 9), none)) rfl rfl (fun w' hS => val_move rfl) ?_
        refine yS (by kernel_rfl : opAt F16.o9 1 = some (some 37, .binOp .add 3 (.tmp 36) (.const (.int .i64 1)) 3, none)) rfl rfl (fun w' hS => val_addi rfl rfl (by omega) (by omega)) ?_
        refine yS (by kernel_rfl : opAt F16.o9 2 = some (some 9, .assign (.tmp 37), none)) rfl rfl (fun w' hS => val_assign rfl) ?_
        refine Sch.nil ?_
        refine run_inBlock ?_
        have hless : (lf.eraseIdx nc).length < lf.length := by rw [List.length_eraseIdx_of_lt hnc]; omega
        refine kp ?_ (next (Ci, lf.eraseIdx nc, tk ++ [q], some q) _ ⟨hF, hT, hit, hpm2⟩ hless)
        exact sub_cons 2 rfl rfl (sub_cons 9 rfl (eq_int (by simp only [List.filter_append, List.filter_cons, List.filter_nil, hh, if_true, List.length_append]; simp)) (sub_cons 26 rfl rfl (sub_nil _)))
      · skip
        have hh : alls mk q = false := by simp only [alls, decide_eq_false_iff_not]; omega
        refine run_skip (by kernel_rfl) ?_
        refine run_inBlock ?_
        have hless : (lf.eraseIdx nc).length < lf.length := by rw [List.length_eraseIdx_of_lt hnc]; omega
        refine kp ?_ (next (Ci, lf.eraseIdx nc, tk ++ [q], some q) _ ⟨hF, hT, hit, hpm2⟩ hless)
        exact sub_cons 2 rfl rfl (sub_cons 9 rfl (eq_int (by simp only [List.filter_append, List.filter_cons, List.filter_nil, hh, Bool.false_eq_true, if_false, List.length_append]; simp)) (sub_cons 26 rfl rfl (sub_nil _)))
end Go.Proofs.Ytejbklahkkjmhaa
