/- Steps through functions of the program. -/
import Derived.Test.YtejbklahkkjmhaaJPB
import Derived.Test.YtejbklahkkjmhaaL1
set_option linter.unusedVariables false
set_option linter.unusedSimpArgs false
set_option maxRecDepth 100000
set_option maxHeartbeats 400000
namespace Go.Proofs.Ytejbklahkkjmhaa
open Go.K Go.K.Rep

namespace F27
noncomputable def c0 : Code := bodyOf Try.f27
noncomputable def c1 : Code := cl c0
noncomputable def o0 : Array Oper := rops c1
noncomputable def c2 : Code := cr c0
noncomputable def c3 : Code := cl c2
noncomputable def c4 : Code := cl c3
noncomputable def o1 : Array Oper := rops c4
noncomputable def c5 : Code := cr c3
noncomputable def c6 : Code := cl c5
noncomputable def o2 : Array Oper := rops c6
noncomputable def c7 : Code := cr c5
noncomputable def c8 : Code := cl c7
noncomputable def c9 : Code := cl c8
noncomputable def o3 : Array Oper := rops c9
noncomputable def c10 : Code := cr c8
noncomputable def c11 : Code := cr c7
noncomputable def c12 : Code := cr c2
noncomputable def c13 : Code := cl c12
noncomputable def o4 : Array Oper := rops c13
noncomputable def c14 : Code := cr c12
noncomputable def c15 : Code := cl c14
noncomputable def c16 : Code := cl c15
noncomputable def o5 : Array Oper := rops c16
noncomputable def c17 : Code := cr c15
noncomputable def c18 : Code := cl c17
noncomputable def c19 : Code := cl c18
noncomputable def c20 : Code := cl c19
noncomputable def o6 : Array Oper := rops c20
noncomputable def c21 : Code := cr c19
noncomputable def c22 : Code := cl c21
noncomputable def c23 : Code := cl c22
noncomputable def c24 : Code := cr c22
noncomputable def c25 : Code := cr c21
noncomputable def c26 : Code := cl c25
noncomputable def c27 : Code := cl c26
noncomputable def o7 : Array Oper := rops c27
noncomputable def c28 : Code := cr c26
noncomputable def c29 : Code := cl c28
noncomputable def o8 : Array Oper := rops c29
noncomputable def c30 : Code := cr c28
noncomputable def c31 : Code := cl c30
noncomputable def c32 : Code := cl c31
noncomputable def c33 : Code := cl c32
noncomputable def o9 : Array Oper := rops c33
noncomputable def c34 : Code := cr c32
noncomputable def c35 : Code := cl c34
noncomputable def c36 : Code := cl c35
noncomputable def c37 : Code := cr c35
noncomputable def c38 : Code := cr c34
noncomputable def c39 : Code := cl c38
noncomputable def c40 : Code := cl c39
noncomputable def c41 : Code := cl c40
noncomputable def o10 : Array Oper := rops c41
noncomputable def c42 : Code := cr c40
noncomputable def c43 : Code := cl c42
noncomputable def o11 : Array Oper := rops c43
noncomputable def c44 : Code := cr c42
noncomputable def c45 : Code := cl c44
noncomputable def o12 : Array Oper := rops c45
noncomputable def c46 : Code := cr c44
noncomputable def c47 : Code := cr c38
noncomputable def o13 : Array Oper := rops c47
noncomputable def c48 : Code := cr c14
noncomputable def c49 : Code := cl c48
noncomputable def o14 : Array Oper := rops c49
noncomputable def c50 : Code := cr c48
end F27
/-- For every mask the number of the couples that agree on a key of it. -/
theorem every_ok {w₀ : World} {C : Nat → Nat} {a b : List (List Block)} {va vb : Value} (hF : Lim w₀ C) (ha : RV w₀ (Mc C) a va) (hb : RV w₀ (Mc C) b vb) (hsa : ∀ x ∈ a, total x ≤ 4611686018427387904) (hsb : ∀ x ∈ b, total x ≤ 4611686018427387904) : Calls Try.prog 27 #[va, vb] w₀ (Ret fun v w' => ∃ u, v = .tuple #[u, .int .i64 (checkM a b 0)] ∧ Stp [] w₀ C w' C ∧ RV w' (Mc C) (if checkM a b 0 ≠ 0 then [] else evO (2 ^ a.length) (agrI a b a.length)) u) := by
  have hF0 := hF
  have hT := Stp.refl [2, 3, 4, 5, 6, 7, 8, 9] w₀ (col1 C)
  replace hF := hF.col1
  replace ha : RV w₀ (Mc (col1 C)) a va := by rw [Mc_col1]; exact ha
  replace hb : RV w₀ (Mc (col1 C)) b vb := by rw [Mc_col1]; exact hb
  refine calls_start (c := F27.c0) (N := 46) [va, vb] Try.func27 (by kernel_rfl) (by kernel_rfl) (by kernel_rfl) ?_
  show Run _ _ _ _ [(0, va), (1, vb)] _ _
  refine run_seq (x := F27.c1) (y := F27.c2) (by kernel_rfl) ?_
  refine run_plain (id := 0) (ops := F27.o0) [(0, true), (1, true)] (by kernel_rfl) (by kernel_rfl) ?_
  refine yS (by kernel_rfl : opAt F27.o0 0 = some (some 4, .assign (.const (.slice none 0 0)), none)) rfl rfl (fun w' hS => val_assign rfl) ?_
  refine yS (by kernel_rfl : opAt F27.o0 1 = some (some 5, .assign (.const (.int .i64 0)), none)) rfl rfl (fun w' hS => val_assign rfl) ?_
  refine Sch.nil ?_
  refine run_seq (x := F27.c3) (y := F27.c12) (by kernel_rfl) ?_
  refine run_seq (x := F27.c4) (y := F27.c5) (by kernel_rfl) ?_
  refine run_plain (id := 1) (ops := F27.o1) [(0, true), (1, true), (2, false), (3, true)] (by kernel_rfl) (by kernel_rfl) ?_
  refine yS (by kernel_rfl : opAt F27.o1 0 = some (some 11, .move (.tmp 0), none)) rfl rfl (fun w' hS => val_move rfl) ?_
  refine yS (by kernel_rfl : opAt F27.o1 1 = some (some 12, .move (.tmp 1), none)) rfl rfl (fun w' hS => val_move rfl) ?_
  refine cS (by kernel_rfl : opAt F27.o1 2 = some (some 13, .call { callee := .value (.func 31), args := #[(.tmp 11), (.tmp 12), (.const (.int .i64 0))], argTypes := #[28, 28, 3] }, none)) rfl rfl (ent Try.call31 rfl) (checkM_ok hF ha hb hsa hsb) ?_
  rintro vw1 w1 ⟨rfl, hs⟩
  refine ⟨trivial, ?_⟩
  replace hF := hF.st hs
  replace hT := hT.trans hs (by simp)
  replace ha := ha.st hs (by first | decide | (simp <;> omega))
  replace hb := hb.st hs (by first | decide | (simp <;> omega))
  refine yS (by kernel_rfl : opAt F27.o1 3 = some (some 6, .assign (.tmp 13), none)) rfl rfl (fun w' hS => val_assign rfl) ?_
  refine Sch.nil ?_
  refine run_seq (x := F27.c6) (y := F27.c7) (by kernel_rfl) ?_
  refine run_plain (id := 2) (ops := F27.o2) [(0, true), (1, true)] (by kernel_rfl) (by kernel_rfl) ?_
  refine yS (by kernel_rfl : opAt F27.o2 0 = some (some 14, .move (.tmp 6), none)) rfl rfl (fun w' hS => val_move rfl) ?_
  refine yS (by kernel_rfl : opAt F27.o2 1 = some (some 15, .binOp .neq 31 (.tmp 14) (.const (.int .i64 0)) 31, none)) rfl rfl (fun w' hS => val_neq rfl rfl) ?_
  refine Sch.nil ?_
  refine run_if (x := F27.c8) (y := F27.c11) (o := .tmp 15) (by kernel_rfl) rfl (fun h15 => ?_) (fun h15 => ?_)
  · skip
    refine run_seq (x := F27.c9) (y := F27.c10) (by kernel_rfl) ?_
    refine run_plain (id := 3) (ops := F27.o3) [(0, true), (1, true), (2, true)] (by kernel_rfl) (by kernel_rfl) ?_
    refine yS (by kernel_rfl : opAt F27.o3 0 = some (some 16, .move (.tmp 6), none)) rfl rfl (fun w' hS => val_move rfl) ?_
    refine yS (by kernel_rfl : opAt F27.o3 1 = some (some 4, .assign (.const (.slice none 0 0)), none)) rfl rfl (fun w' hS => val_assign rfl) ?_
    refine yS (by kernel_rfl : opAt F27.o3 2 = some (some 5, .assign (.tmp 16), none)) rfl rfl (fun w' hS => val_assign rfl) ?_
    refine Sch.nil ?_
    refine run_ret2 (by kernel_rfl) Try.func27 Try.results27 rfl rfl ?_
    exact ⟨_, rfl, hT.out1 (by decide), by rw [if_pos h15]; exact rv_nil⟩
  · skip
    have hz : checkM a b 0 = 0 := by simpa using h15
    obtain ⟨hlen, h8, mk, hmk0, hmk⟩ := checkM_zero hz
    obtain ⟨z, hz2, hz256⟩ : ∃ z : Nat, z = 2 ^ a.length ∧ z ≤ 256 := ⟨_, rfl, Nat.pow_le_pow_right (n := 2) (by decide) (show a.length ≤ 8 by omega)⟩
    refine run_skip (by kernel_rfl) ?_
    refine run_seq (x := F27.c13) (y := F27.c14) (by kernel_rfl) ?_
    refine run_plain (id := 4) (ops := F27.o4) [(0, true), (1, true), (2, true), (3, false), (4, true)] (by kernel_rfl) (by kernel_rfl) ?_
    refine yS (by kernel_rfl : opAt F27.o4 0 = some (some 17, .move (.tmp 0), none)) rfl rfl (fun w' hS => val_move rfl) ?_
    refine yS (by kernel_rfl : opAt F27.o4 1 = some (some 18, .call { callee := .builtin .len, args := #[(.tmp 17)], argTypes := #[28] }, none)) rfl rfl (fun w' hS => ha.lenV rfl Try.underlying28 w' ) ?_
    refine yS (by kernel_rfl : opAt F27.o4 2 = some (some 19, .binOp .shl 3 (.const (.int .i64 1)) (.tmp 18) 3, none)) rfl rfl (fun w' hS => val_shlE (r := (z : Int)) rfl rfl (by omega) (by rw [hz2]; exact shl1N (by omega))) ?_
    refine aS (by kernel_rfl : opAt F27.o4 3 = some (some 20, .makeSlice 22 (.tmp 19) (.tmp 19), none)) rfl rfl (a_make (e := 3) (bytes := 8) (x0 := (0 : Int)) (zs := [.int .i64 0]) hF (j := 3) (by decide) (by kernel_rfl) (by kernel_rfl) rfl rfl (by omega) (by omega) (by omega) (fun h M => zero_int)) ?_
    rintro v20 w2 ⟨Cw2, hs, ho, hF⟩
    refine ⟨trivial, ?_⟩
    replace hT := hT.trans hs (by simp)
    replace ha := ha.st hs (by first | decide | (simp <;> omega))
    replace hb := hb.st hs (by first | decide | (simp <;> omega))
    rw [← evO_nil] at ho
    refine yS (by kernel_rfl : opAt F27.o4 4 = some (some 7, .assign (.tmp 20), none)) rfl rfl (fun w' hS => val_assign rfl) ?_
    refine Sch.nil ?_
    refine run_seq (x := F27.c15) (y := F27.c48) (by kernel_rfl) ?_
    refine run_seq (x := F27.c16) (y := F27.c17) (by kernel_rfl) ?_
    refine run_plain (id := 5) (ops := F27.o5) [(0, true), (1, true), (2, false), (3, false)] (by kernel_rfl) (by kernel_rfl) ?_
    refine yS (by kernel_rfl : opAt F27.o5 0 = some (some 21, .move (.tmp 0), none)) rfl rfl (fun w' hS => val_move rfl) ?_
    refine yS (by kernel_rfl : opAt F27.o5 1 = some (some 22, .move (.tmp 1), none)) rfl rfl (fun w' hS => val_move rfl) ?_
    refine cS (by kernel_rfl : opAt F27.o5 2 = some (some 23, .call { callee := .value (.func 32), args := #[(.tmp 21), (.tmp 22)], argTypes := #[28, 28] }, none)) rfl rfl (ent Try.call32 rfl) (agreements_ok hF ha hb hlen h8) ?_
    rintro vw3 w3 ⟨hs, hm, hsm⟩
    refine ⟨trivial, ?_⟩
    replace hF := hF.st hs
    replace hT := hT.trans hs (by simp)
    replace ha := ha.st hs (by first | decide | (simp <;> omega))
    replace hb := hb.st hs (by first | decide | (simp <;> omega))
    replace ho := ho.st hs (by first | decide | (simp <;> omega)) (by first | decide | (simp <;> omega))
    have hnd := hm.nodup
    refine aS (by kernel_rfl : opAt F27.o5 3 = some (some 24, .range 59 (.tmp 23), none)) rfl rfl (a_rangeR hF 4 Try.underlying59 hm rfl) ?_
    rintro _ w4 ⟨Cw4, itw4, bmw4, rfl, hs, hit, hF⟩
    refine ⟨trivial, ?_⟩
    replace hT := hT.trans hs (by simp)
    replace ha := ha.st hs (by first | decide | (simp <;> omega))
    replace hb := hb.st hs (by first | decide | (simp <;> omega))
    replace ho := ho.st hs (by first | decide | (simp <;> omega)) (by first | decide | (simp <;> omega))
    replace hm := hm.st hs (by first | decide | (simp <;> omega))
    refine Sch.nil ?_
    refine run_block (x := F27.c18) (id := 0) (by kernel_rfl) ?_
    refine run_loop (ι := (Nat → Nat) × Agr × Agr × Option (Couple × Nat)) (I := fun x w => Lim w x.1 ∧ Stp [2, 3, 4, 5, 6, 7, 8, 9] w₀ (col1 C) w x.1 ∧ OwnIt w x.1 4 itw4 0 bmw4 kvC vvN (agrI a b a.length) x.2.1 x.2.2.2 ∧ (x.2.2.1 ++ x.2.1).Perm (agrI a b a.length) ∧ OwnL w x.1 3 3 v20 (evO z x.2.2.1)) (e := fun x => [(7, v20), (24, .pointer (some ⟨itw4, 0, none⟩))]) (m := fun x => x.2.1.length) (x₀ := (Cw4, agrI a b a.length, [], none)) (body := F27.c19) (by kernel_rfl) (sub_cons 7 rfl rfl (sub_cons 24 rfl rfl (sub_nil _))) ?_ ?_
    · exact ⟨hF, hT, hit, by simp only [List.nil_append]; exact List.Perm.refl _, ho⟩
    intro ⟨Ci, lf, tk, cu⟩ w5 hI next
    obtain ⟨hF, hT, hit, hpm, ho⟩ := hI
    simp only at hF hT hit hpm ho
    show Run _ _ _ _ [(7, v20), (24, .pointer (some ⟨itw4, 0, none⟩))] _ _
    have hsz := agr_len hz hpm
    have hzl := evO_len z tk
    refine run_seq (x := F27.c20) (y := F27.c21) (by kernel_rfl) ?_
    refine run_plain (id := 6) (ops := F27.o6) [(0, false), (1, true)] (by kernel_rfl) (by kernel_rfl) ?_
    refine aS (by kernel_rfl : opAt F27.o6 0 = some (some 25, .next (.tmp 24) false, none)) rfl rfl (a_next hF hit rfl) ?_
    rintro _ w6 ⟨hs, _, hnx⟩
    refine ⟨trivial, ?_⟩
    replace hF := hF.st hs
    replace hT := hT.trans hs (by simp)
    replace ho := ho.st hs (by first | decide | (simp <;> omega)) (by first | decide | (simp <;> omega))
    rcases hnx with ⟨hlf, rfl⟩ | ⟨nc, hnc, rfl, hit⟩
    · skip
      refine yS (by kernel_rfl : opAt F27.o6 1 = some (some 26, .extract (.tmp 25) 0, none)) rfl rfl (fun w' hS => val_extract rfl rfl) ?_
      refine Sch.nil ?_
      subst hlf
      refine run_seq (x := F27.c22) (y := F27.c25) (by kernel_rfl) ?_
      refine run_cond (x := F27.c23) (y := F27.c24) (o := .tmp 26) (b := false) (by kernel_rfl) rfl (fun h => by cases h) (fun _ => ?_)
      refine run_exit (id := 0) (by kernel_rfl) rfl ?_
      refine run_seq (x := F27.c49) (y := F27.c50) (by kernel_rfl) ?_
      refine run_plain (id := 14) (ops := F27.o14) [(0, true), (1, true), (2, true)] (by kernel_rfl) (by kernel_rfl) ?_
      refine yS (by kernel_rfl : opAt F27.o14 0 = some (some 45, .move (.tmp 7), none)) rfl rfl (fun w' hS => val_move rfl) ?_
      refine yS (by kernel_rfl : opAt F27.o14 1 = some (some 4, .assign (.tmp 45), none)) rfl rfl (fun w' hS => val_assign rfl) ?_
      refine yS (by kernel_rfl : opAt F27.o14 2 = some (some 5, .assign (.const (.int .i64 0)), none)) rfl rfl (fun w' hS => val_assign rfl) ?_
      refine Sch.nil ?_
      refine run_ret2 (by kernel_rfl) Try.func27 Try.results27 rfl rfl ?_
      rw [hz]
      refine ⟨_, rfl, hT.out1 (by decide), ?_⟩
      rw [if_neg (by decide), ← hz2, ← evO_perm hpm]
      exact ho.out hT hF0 (Mc_col1 C) (fun b _ => col1_lt C (by decide) b) (by rw [evO_len]; omega)
    · skip
      refine yS (by kernel_rfl : opAt F27.o6 1 = some (some 26, .extract (.tmp 25) 0, none)) rfl rfl (fun w' hS => val_extract rfl rfl) ?_
      refine Sch.nil ?_
      have hpm2 := perm_next hnc hpm
      obtain ⟨q, hq⟩ : ∃ q, q = lf[nc] := ⟨_, rfl⟩
      rw [← hq] at hit hpm2
      have hqm : q ∈ agrI a b a.length := hpm2.subset (by simp)
      have hq8 : q.2 < 256 := by have := hsm q.1; rw [mget_mem hnd hqm] at this; exact this
      refine run_seq (x := F27.c22) (y := F27.c25) (by kernel_rfl) ?_
      refine run_cond (x := F27.c23) (y := F27.c24) (o := .tmp 26) (b := true) (by kernel_rfl) rfl (fun _ => ?_) (fun h => by cases h)
      refine run_skip (by kernel_rfl) ?_
      refine run_block (x := F27.c26) (id := 1) (by kernel_rfl) ?_
      refine run_seq (x := F27.c27) (y := F27.c28) (by kernel_rfl) ?_
      refine run_plain (id := 7) (ops := F27.o7) [(0, false), (1, true), (2, true)] (by kernel_rfl) (by kernel_rfl) ?_
      refine nS (by kernel_rfl : opAt F27.o7 0 = some (some 27, .entry (.tmp 24), none)) rfl rfl trivial (hit.entry rfl) ?_
      refine yS (by kernel_rfl : opAt F27.o7 1 = some (some 28, .extract (.tmp 27) 1, none)) rfl rfl (fun w' hS => val_extract rfl rfl) ?_
      refine yS (by kernel_rfl : opAt F27.o7 2 = some (some 9, .assign (.tmp 28), none)) rfl rfl (fun w' hS => val_assign rfl) ?_
      refine Sch.nil ?_
      refine run_seq (x := F27.c29) (y := F27.c30) (by kernel_rfl) ?_
      refine run_plain (id := 8) (ops := F27.o8) [(0, true), (1, true), (2, true)] (by kernel_rfl) (by kernel_rfl) ?_
      refine yS (by kernel_rfl : opAt F27.o8 0 = some (some 29, .move (.tmp 7), none)) rfl rfl (fun w' hS => val_move rfl) ?_
      refine yS (by kernel_rfl : opAt F27.o8 1 = some (some 30, .call { callee := .builtin .len, args := #[(.tmp 29)], argTypes := #[22] }, none)) rfl rfl (fun w' hS => ho.lenV rfl Try.underlying22 w' ) ?_
      refine yS (by kernel_rfl : opAt F27.o8 2 = some (some 31, .move (.const (.int .i64 0)), none)) rfl rfl (fun w' hS => val_move rfl) ?_
      refine Sch.nil ?_
      refine run_block (x := F27.c31) (id := 2) (by kernel_rfl) ?_
      have next0 := next
      clear next
      rw [← evI_zero z tk q] at ho
      refine run_loop (ι := Nat × (Nat → Nat)) (I := fun x w => x.1 ≤ z ∧ Lim w x.2 ∧ Stp [2, 3, 4, 5, 6, 7, 8, 9] w₀ (col1 C) w x.2 ∧ OwnIt w x.2 4 itw4 0 bmw4 kvC vvN (agrI a b a.length) (lf.eraseIdx nc) (some q) ∧ OwnL w x.2 3 3 v20 (evI z tk q x.1)) (e := fun x => [(7, v20), (9, .int .i64 (q.2 : Int)), (24, .pointer (some ⟨itw4, 0, none⟩)), (30, .int .i64 (z : Int)), (31, .int .i64 x.1)]) (m := fun x => z - x.1) (x₀ := (0, Ci)) (body := F27.c32) (by kernel_rfl) (sub_cons 7 rfl rfl (sub_cons 9 rfl rfl (sub_cons 24 rfl rfl (sub_cons 30 rfl (eq_int (by rw [evO_len])) (sub_cons 31 rfl rfl (sub_nil _)))))) ?_ ?_
      · exact ⟨Nat.zero_le _, hF, hT, hit, ho⟩
      intro ⟨j, C2⟩ w7 hI next
      obtain ⟨hj, hF, hT, hit, ho⟩ := hI
      simp only at hj hF hT hit ho
      show Run _ _ _ _ [(7, v20), (9, .int .i64 (q.2 : Int)), (24, .pointer (some ⟨itw4, 0, none⟩)), (30, .int .i64 (z : Int)), (31, .int .i64 (j : Int))] _ _
      have hzi := evI_len z tk q j
      have hfl := List.length_filter_le (hits j) tk
      refine run_seq (x := F27.c33) (y := F27.c34) (by kernel_rfl) ?_
      refine run_plain (id := 9) (ops := F27.o9) [(0, true)] (by kernel_rfl) (by kernel_rfl) ?_
      refine yS (by kernel_rfl : opAt F27.o9 0 = some (some 32, .binOp .lss 3 (.tmp 31) (.tmp 30) 3, none)) rfl rfl (fun w' hS => val_lss rfl rfl) ?_
      refine Sch.nil ?_
      refine run_seq (x := F27.c35) (y := F27.c38) (by kernel_rfl) ?_
      refine run_if (x := F27.c36) (y := F27.c37) (o := .tmp 32) (by kernel_rfl) rfl (fun h32 => ?_) (fun h32 => ?_)
      · skip
        have hjz : j < z := by omega
        refine run_skip (by kernel_rfl) ?_
        refine run_seq (x := F27.c39) (y := F27.c47) (by kernel_rfl) ?_
        refine run_block (x := F27.c40) (id := 3) (by kernel_rfl) ?_
        refine run_seq (x := F27.c41) (y := F27.c42) (by kernel_rfl) ?_
        refine run_plain (id := 10) (ops := F27.o10) [(0, true), (1, true)] (by kernel_rfl) (by kernel_rfl) ?_
        refine yS (by kernel_rfl : opAt F27.o10 0 = some (some 33, .move (.tmp 31), none)) rfl rfl (fun w' hS => val_move rfl) ?_
        refine yS (by kernel_rfl : opAt F27.o10 1 = some (some 10, .assign (.tmp 33), none)) rfl rfl (fun w' hS => val_assign rfl) ?_
        refine Sch.nil ?_
        refine run_seq (x := F27.c43) (y := F27.c44) (by kernel_rfl) ?_
        refine run_plain (id := 11) (ops := F27.o11) [(0, true), (1, true), (2, true), (3, true)] (by kernel_rfl) (by kernel_rfl) ?_
        refine yS (by kernel_rfl : opAt F27.o11 0 = some (some 34, .move (.tmp 9), none)) rfl rfl (fun w' hS => val_move rfl) ?_
        refine yS (by kernel_rfl : opAt F27.o11 1 = some (some 35, .move (.tmp 10), none)) rfl rfl (fun w' hS => val_move rfl) ?_
        refine yS (by kernel_rfl : opAt F27.o11 2 = some (some 36, .binOp .and 3 (.tmp 34) (.tmp 35) 3, none)) rfl rfl (fun w' hS => val_andE (r := ((q.2 &&& j : Nat) : Int)) rfl rfl (bits_and (by omega) (by omega))) ?_
        refine yS (by kernel_rfl : opAt F27.o11 3 = some (some 37, .binOp .neq 3 (.tmp 36) (.const (.int .i64 0)) 3, none)) rfl rfl (fun w' hS => val_neq rfl rfl) ?_
        refine Sch.nil ?_
        refine run_if (x := F27.c45) (y := F27.c46) (o := .tmp 37) (by kernel_rfl) rfl (fun h37 => ?_) (fun h37 => ?_)
        · skip
          have hh : hits j q = true := by simp only [hits, decide_eq_true_eq]; simpa using h37
          have hget := evI_get z tk q j j (by omega)
          rw [if_neg (by omega)] at hget
          refine run_plain (id := 12) (ops := F27.o12) [(0, true), (1, true), (2, true), (3, false), (4, true), (5, true), (6, false)] (by kernel_rfl) (by kernel_rfl) ?_
          refine yS (by kernel_rfl : opAt F27.o12 0 = some (some 38, .move (.tmp 7), none)) rfl rfl (fun w' hS => val_move rfl) ?_
          refine yS (by kernel_rfl : opAt F27.o12 1 = some (some 39, .move (.tmp 10), none)) rfl rfl (fun w' hS => val_move rfl) ?_
          refine oI (e' := 3) (by kernel_rfl : opAt F27.o12 2 = some (some 40, .indexAddr 22 (.tmp 38) (.tmp 39), none)) rfl rfl ho rfl (by kernel_rfl) rfl (by omega) (by omega) ?_
          intro g40 hg40
          try simp only [Int.toNat_natCast]
          refine oN (by kernel_rfl : opAt F27.o12 3 = some (some 41, .load 3 (.tmp 40), none)) rfl rfl trivial ho hg40 (by omega) (by kernel_rfl) rfl rfl ?_
          intro v41 g41
          try simp only [Int.toNat_natCast] at g41
          first | (obtain rfl := rv_nat.1 g41) | (obtain rfl := rv_int.1 g41)
          skip
          refine yS (by kernel_rfl : opAt F27.o12 4 = some (some 42, .binOp .add 3 (.tmp 41) (.const (.int .i64 1)) 3, none)) rfl rfl (fun w' hS => val_addi rfl rfl (by omega) (by omega)) ?_
          refine oI (e' := 3) (by kernel_rfl : opAt F27.o12 5 = some (some 43, .indexAddr 22 (.tmp 38) (.tmp 39), none)) rfl rfl ho rfl (by kernel_rfl) rfl (by omega) (by omega) ?_
          intro g43 hg43
          try simp only [Int.toNat_natCast]
          refine aN (by kernel_rfl : opAt F27.o12 6 = some (none, .store 3 (.tmp 43) (.tmp 42), none)) rfl (a_storeO ho hg43 (by omega) rfl rfl (by kernel_rfl) (rv_int.2 rfl)) ?_
          rintro _ w8 ⟨rfl, hs, ho⟩
          refine ⟨trivial, ?_⟩
          replace hF := hF.st hs
          replace hT := hT.trans hs (by simp)
          replace hit := hit.st hs (by first | decide | (simp <;> omega)) (by first | decide | (simp <;> omega))
          refine Sch.nil ?_
          refine run_inBlock ?_
          refine run_plain (id := 13) (ops := F27.o13) [(0, true), (1, true)] (by kernel_rfl) (by kernel_rfl) ?_
          refine yS (by kernel_rfl : opAt F27.o13 0 = some (some 44, .binOp .add 3 (.tmp 31) (.const (.int .i64 1)) 3, none)) rfl rfl (fun w' hS => val_addi rfl rfl (by omega) (by omega)) ?_
          refine yS (by kernel_rfl : opAt F27.o13 1 = some (some 31, .move (.tmp 44), none)) rfl rfl (fun w' hS => val_move rfl) ?_
          refine Sch.nil ?_
          rw [← evI_yes hjz hh] at ho
          refine kp ?_ (next (j + 1, C2) _ ⟨by simp only; omega, hF, hT, hit, ho⟩ (by simp only; omega))
          exact sub_cons 7 rfl rfl (sub_cons 9 rfl rfl (sub_cons 24 rfl rfl (sub_cons 30 rfl rfl (sub_cons 31 rfl (eq_int (by simp)) (sub_nil _)))))
        · skip
          have hh : hits j q = false := by simp only [hits, decide_eq_false_iff_not]; simpa using h37
          refine run_skip (by kernel_rfl) ?_
          refine run_inBlock ?_
          refine run_plain (id := 13) (ops := F27.o13) [(0, true), (1, true)] (by kernel_rfl) (by kernel_rfl) ?_
          refine yS (by kernel_rfl : opAt F27.o13 0 = some (some 44, .binOp .add 3 (.tmp 31) (.const (.int .i64 1)) 3, none)) rfl rfl (fun w' hS => val_addi rfl rfl (by omega) (by omega)) ?_
          refine yS (by kernel_rfl : opAt F27.o13 1 = some (some 31, .move (.tmp 44), none)) rfl rfl (fun w' hS => val_move rfl) ?_
          refine Sch.nil ?_
          rw [← evI_no hh] at ho
          refine kp ?_ (next (j + 1, C2) _ ⟨by simp only; omega, hF, hT, hit, ho⟩ (by simp only; omega))
          exact sub_cons 7 rfl rfl (sub_cons 9 rfl rfl (sub_cons 24 rfl rfl (sub_cons 30 rfl rfl (sub_cons 31 rfl (eq_int (by simp)) (sub_nil _)))))
      · skip
        obtain rfl : j = z := by omega
        refine run_exit (id := 2) (by kernel_rfl) rfl ?_
        refine run_inBlock ?_
        have hless : (lf.eraseIdx nc).length < lf.length := by rw [List.length_eraseIdx_of_lt hnc]; omega
        rw [evI_all] at ho
        refine kp ?_ (next0 (C2, lf.eraseIdx nc, tk ++ [q], some q) _ ⟨hF, hT, hit, hpm2, ho⟩ hless)
        exact sub_cons 7 rfl rfl (sub_cons 24 rfl rfl (sub_nil _))
end Go.Proofs.Ytejbklahkkjmhaa
