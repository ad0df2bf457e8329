/- Steps through functions of the program. -/
import Derived.Test.YthdkcbakiiokiaaJG2
set_option linter.unusedVariables false
set_option linter.unusedSimpArgs false
set_option maxRecDepth 100000
set_option maxHeartbeats 4000000
namespace Go.Proofs.Ythdkcbakiiokiaa
open Go.K Go.K.Rep

namespace F20
noncomputable def c0 : Code := bodyOf Try.f20
noncomputable def c1 : Code := cl c0
noncomputable def o0 : Array Oper := rops c1
noncomputable def c2 : Code := cr c0
noncomputable def c3 : Code := cl c2
noncomputable def o1 : Array Oper := rops c3
noncomputable def c4 : Code := cr c2
noncomputable def c5 : Code := cl c4
noncomputable def c6 : Code := cl c5
noncomputable def o2 : Array Oper := rops c6
noncomputable def c7 : Code := cr c5
noncomputable def c8 : Code := cl c7
noncomputable def c9 : Code := cl c8
noncomputable def c10 : Code := cl c9
noncomputable def o3 : Array Oper := rops c10
noncomputable def c11 : Code := cr c9
noncomputable def c12 : Code := cl c11
noncomputable def c13 : Code := cl c12
noncomputable def c14 : Code := cr c12
noncomputable def c15 : Code := cr c11
noncomputable def c16 : Code := cl c15
noncomputable def c17 : Code := cl c16
noncomputable def o4 : Array Oper := rops c17
noncomputable def c18 : Code := cr c16
noncomputable def c19 : Code := cl c18
noncomputable def o5 : Array Oper := rops c19
noncomputable def c20 : Code := cr c18
noncomputable def c21 : Code := cl c20
noncomputable def o6 : Array Oper := rops c21
noncomputable def c22 : Code := cr c20
noncomputable def c23 : Code := cl c22
noncomputable def o7 : Array Oper := rops c23
noncomputable def c24 : Code := cr c22
noncomputable def c25 : Code := cr c4
noncomputable def c26 : Code := cl c25
noncomputable def o8 : Array Oper := rops c26
noncomputable def c27 : Code := cr c25
end F20
/-- 'Common'. -/
theorem common_ok {w₀ : World} {C : Nat → Nat} {a b : List Tx} {va vb : Value} (hF : Lim w₀ C) (ha : RV w₀ (Mc C) a va) (hbb : RV w₀ (Mc C) b vb) (hla : a.length ≤ 4294967296) (hlb : b.length ≤ 4294967296) : Calls Try.prog 20 #[va, vb] w₀ (Ret fun v w' => v = .int .i64 (commonT a b : Nat) ∧ Stp [] w₀ C w' C) := by
  have hF0 := hF
  have hT := Stp.refl [2, 3, 4, 5, 6, 7, 8, 9] w₀ (col1 C)
  replace hF := hF.col1
  replace ha : RV w₀ (Mc (col1 C)) a va := by rw [Mc_col1]; exact ha
  replace hbb : RV w₀ (Mc (col1 C)) b vb := by rw [Mc_col1]; exact hbb
  refine calls_start (c := F20.c0) (N := 29) [va, vb] Try.func20 (by kernel_rfl) (by kernel_rfl) (by kernel_rfl) ?_
  show Run _ _ _ _ [(0, va), (1, vb)] _ _
  refine run_seq (x := F20.c1) (y := F20.c2) (by kernel_rfl) ?_
  refine run_plain (id := 0) (ops := F20.o0) [(0, true)] (by kernel_rfl) (by kernel_rfl) ?_
  refine yS (by kernel_rfl : opAt F20.o0 0 = some (some 4, .assign (.const (.int .i64 0)), none)) rfl rfl (fun w' hS => val_assign rfl) ?_
  refine Sch.nil ?_
  refine run_seq (x := F20.c3) (y := F20.c4) (by kernel_rfl) ?_
  refine run_plain (id := 1) (ops := F20.o1) [(0, true), (1, false), (2, true), (3, true)] (by kernel_rfl) (by kernel_rfl) ?_
  refine yS (by kernel_rfl : opAt F20.o1 0 = some (some 10, .move (.tmp 0), none)) rfl rfl (fun w' hS => val_move rfl) ?_
  refine cS (by kernel_rfl : opAt F20.o1 1 = some (some 11, .call { callee := .value (.func 35), args := #[(.tmp 10)], argTypes := #[23] }, none)) rfl rfl (ent Try.call35 rfl) (of_ok hF ha (by omega)) ?_
  rintro vhm w1 ⟨hs, hm⟩
  refine ⟨trivial, ?_⟩
  replace hF := hF.st hs
  replace hT := hT.trans hs (by simp)
  replace ha := ha.st hs (by first | decide | (simp <;> omega))
  replace hbb := hbb.st hs (by first | decide | (simp <;> omega))
  refine yS (by kernel_rfl : opAt F20.o1 2 = some (some 5, .assign (.tmp 11), none)) rfl rfl (fun w' hS => val_assign rfl) ?_
  refine yS (by kernel_rfl : opAt F20.o1 3 = some (some 6, .assign (.const (.int .i64 0)), none)) rfl rfl (fun w' hS => val_assign rfl) ?_
  refine Sch.nil ?_
  refine run_seq (x := F20.c5) (y := F20.c25) (by kernel_rfl) ?_
  refine run_seq (x := F20.c6) (y := F20.c7) (by kernel_rfl) ?_
  refine run_plain (id := 2) (ops := F20.o2) [(0, true), (1, false), (2, false)] (by kernel_rfl) (by kernel_rfl) ?_
  refine yS (by kernel_rfl : opAt F20.o2 0 = some (some 12, .move (.tmp 1), none)) rfl rfl (fun w' hS => val_move rfl) ?_
  refine cS (by kernel_rfl : opAt F20.o2 1 = some (some 13, .call { callee := .value (.func 35), args := #[(.tmp 12)], argTypes := #[23] }, none)) rfl rfl (ent Try.call35 rfl) (of_ok hF hbb (by omega)) ?_
  rintro vhn w2 ⟨hs, hn⟩
  refine ⟨trivial, ?_⟩
  replace hF := hF.st hs
  replace hT := hT.trans hs (by simp)
  replace ha := ha.st hs (by first | decide | (simp <;> omega))
  replace hbb := hbb.st hs (by first | decide | (simp <;> omega))
  replace hm := hm.st hs (by first | decide | (simp <;> omega))
  refine aS (by kernel_rfl : opAt F20.o2 2 = some (some 14, .range 51 (.tmp 13), none)) rfl rfl (a_rangeR hF 4 Try.underlying51 hn rfl) ?_
  rintro _ w3 ⟨Cw3, itw3, bmw3, rfl, hs, hit, hF⟩
  refine ⟨trivial, ?_⟩
  replace hT := hT.trans hs (by simp)
  replace ha := ha.st hs (by first | decide | (simp <;> omega))
  replace hbb := hbb.st hs (by first | decide | (simp <;> omega))
  replace hm := hm.st hs (by first | decide | (simp <;> omega))
  replace hn := hn.st hs (by first | decide | (simp <;> omega))
  refine Sch.nil ?_
  refine run_block (x := F20.c8) (id := 0) (by kernel_rfl) ?_
  have hnd := hn.nodup
  have hzl := ofS_len b
  have hzl2 := setT_len_le b
  refine run_loop (ι := (Nat → Nat) × List (Tx × Unit) × List (Tx × Unit) × Option (Tx × Unit)) (I := fun x w => Lim w x.1 ∧ Stp [2, 3, 4, 5, 6, 7, 8, 9] w₀ (col1 C) w x.1 ∧ RM w (Mc x.1) sv vvU (ofS a) vhm ∧ OwnIt w x.1 4 itw3 0 bmw3 sv vvU (ofS b) x.2.1 x.2.2.2 ∧ (x.2.2.1 ++ x.2.1).Perm (ofS b)) (e := fun x => [(5, vhm), (6, .int .i64 (((keys x.2.2.1).countP fun x => decide (x ∈ a)) : Nat)), (14, .pointer (some ⟨itw3, 0, none⟩))]) (m := fun x => x.2.1.length) (x₀ := (Cw3, ofS b, [], none)) (body := F20.c9) (by kernel_rfl) (sub_cons 5 rfl rfl (sub_cons 6 rfl rfl (sub_cons 14 rfl rfl (sub_nil _)))) ?_ ?_
  · exact ⟨hF, hT, hm, hit, by simp only [List.nil_append]; exact List.Perm.refl _⟩
  intro ⟨Ci, lf, tk, cu⟩ w4 hI next
  obtain ⟨hF, hT, hm, hit, hpm⟩ := hI
  simp only at hF hT hm hit hpm
  show Run _ _ _ _ [(5, vhm), (6, .int .i64 (((keys tk).countP fun x => decide (x ∈ a)) : Nat)), (14, .pointer (some ⟨itw3, 0, none⟩))] _ _
  have hpl := hpm.length_eq
  rw [List.length_append] at hpl
  have hcl : ((keys tk).countP fun x => decide (x ∈ a)) ≤ tk.length := by have := List.countP_le_length (p := fun x => decide (x ∈ a)) (l := keys tk); simpa [keys] using this
  refine run_seq (x := F20.c10) (y := F20.c11) (by kernel_rfl) ?_
  refine run_plain (id := 3) (ops := F20.o3) [(0, false), (1, true)] (by kernel_rfl) (by kernel_rfl) ?_
  refine aS (by kernel_rfl : opAt F20.o3 0 = some (some 15, .next (.tmp 14) false, none)) rfl rfl (a_next hF hit rfl) ?_
  rintro _ w5 ⟨hs, _, hnx⟩
  refine ⟨trivial, ?_⟩
  replace hF := hF.st hs
  replace hT := hT.trans hs (by simp)
  replace hm := hm.st hs (by first | decide | (simp <;> omega))
  rcases hnx with ⟨hlf, rfl⟩ | ⟨nc, hnc, rfl, hit⟩
  · skip
    refine yS (by kernel_rfl : opAt F20.o3 1 = some (some 16, .extract (.tmp 15) 0, none)) rfl rfl (fun w' hS => val_extract rfl rfl) ?_
    refine Sch.nil ?_
    subst hlf
    refine run_seq (x := F20.c12) (y := F20.c15) (by kernel_rfl) ?_
    refine run_cond (x := F20.c13) (y := F20.c14) (o := .tmp 16) (b := false) (by kernel_rfl) rfl (fun h => by cases h) (fun _ => ?_)
    refine run_exit (id := 0) (by kernel_rfl) rfl ?_
    refine run_seq (x := F20.c26) (y := F20.c27) (by kernel_rfl) ?_
    refine run_plain (id := 8) (ops := F20.o8) [(0, true), (1, true)] (by kernel_rfl) (by kernel_rfl) ?_
    refine yS (by kernel_rfl : opAt F20.o8 0 = some (some 28, .move (.tmp 6), none)) rfl rfl (fun w' hS => val_move rfl) ?_
    refine yS (by kernel_rfl : opAt F20.o8 1 = some (some 4, .assign (.tmp 28), none)) rfl rfl (fun w' hS => val_assign rfl) ?_
    refine Sch.nil ?_
    refine run_ret1 (by kernel_rfl) Try.func20 Try.results20 rfl ?_
    refine ⟨eq_int ?_, hT.out1 (by decide)⟩
    rw [List.append_nil] at hpm
    rw [commonT_count a b (keys tk) (hpm.map _)]
  · skip
    refine yS (by kernel_rfl : opAt F20.o3 1 = some (some 16, .extract (.tmp 15) 0, none)) rfl rfl (fun w' hS => val_extract rfl rfl) ?_
    refine Sch.nil ?_
    have hpm2 := perm_next hnc hpm
    obtain ⟨q, hq⟩ : ∃ q, q = lf[nc] := ⟨_, rfl⟩
    rw [← hq] at hit hpm2
    refine run_seq (x := F20.c12) (y := F20.c15) (by kernel_rfl) ?_
    refine run_cond (x := F20.c13) (y := F20.c14) (o := .tmp 16) (b := true) (by kernel_rfl) rfl (fun _ => ?_) (fun h => by cases h)
    refine run_skip (by kernel_rfl) ?_
    refine run_block (x := F20.c16) (id := 1) (by kernel_rfl) ?_
    refine run_seq (x := F20.c17) (y := F20.c18) (by kernel_rfl) ?_
    refine run_plain (id := 4) (ops := F20.o4) [(0, false), (1, true), (2, true)] (by kernel_rfl) (by kernel_rfl) ?_
    refine nS (by kernel_rfl : opAt F20.o4 0 = some (some 17, .entry (.tmp 14), none)) rfl rfl trivial (hit.entry rfl) ?_
    refine yS (by kernel_rfl : opAt F20.o4 1 = some (some 18, .extract (.tmp 17) 0, none)) rfl rfl (fun w' hS => val_extract rfl rfl) ?_
    refine yS (by kernel_rfl : opAt F20.o4 2 = some (some 7, .assign (.tmp 18), none)) rfl rfl (fun w' hS => val_assign rfl) ?_
    refine Sch.nil ?_
    refine run_seq (x := F20.c19) (y := F20.c20) (by kernel_rfl) ?_
    refine run_plain (id := 5) (ops := F20.o5) [(0, true), (1, true), (2, false), (3, true), (4, true), (5, true), (6, false), (7, false), (8, true)] (by kernel_rfl) (by kernel_rfl) ?_
    refine yS (by kernel_rfl : opAt F20.o5 0 = some (some 20, .move (.tmp 5), none)) rfl rfl (fun w' hS => val_move rfl) ?_
    refine yS (by kernel_rfl : opAt F20.o5 1 = some (some 21, .move (.tmp 7), none)) rfl rfl (fun w' hS => val_move rfl) ?_
    refine nS (by kernel_rfl : opAt F20.o5 2 = some (some 22, .lookup 51 (.tmp 20) (.tmp 21) true, none)) rfl rfl trivial (val_is (hm.lookupOk (z0 := ()) (k := q.1) Try.underlying51 (keyOK_str Try.underlying9) Try.zeroValue53 rfl rfl) (by rw [ofS_has])) ?_
    refine yS (by kernel_rfl : opAt F20.o5 3 = some (some 19, .move (.tmp 22), none)) rfl rfl (fun w' hS => val_move rfl) ?_
    refine yS (by kernel_rfl : opAt F20.o5 4 = some (some 23, .extract (.tmp 19) 0, none)) rfl rfl (fun w' hS => val_extract rfl rfl) ?_
    refine yS (by kernel_rfl : opAt F20.o5 5 = some (some 24, .extract (.tmp 19) 1, none)) rfl rfl (fun w' hS => val_extract rfl rfl) ?_
    refine aS (by kernel_rfl : opAt F20.o5 6 = some (some 8, .alloc 53, none)) rfl rfl (a_alloc (cs := ([] : List Value)) hF 5 (by kernel_rfl)) ?_
    rintro _ w6 ⟨Cw6, bw6, rfl, hs, hz, hF⟩
    refine ⟨trivial, ?_⟩
    replace hT := hT.trans hs (by simp)
    replace hm := hm.st hs (by first | decide | (simp <;> omega))
    replace hit := hit.st hs (by first | decide | (simp <;> omega)) (by first | decide | (simp <;> omega))
    refine aN (by kernel_rfl : opAt F20.o5 7 = some (none, .store 53 (.tmp 8) (.tmp 23), none)) rfl (a_storeAll (vs := ([] : List Value)) (n := 0) rfl rfl (by kernel_rfl) rfl rfl (by intro u hu; cases hu) hz rfl) ?_
    rintro _ w7 ⟨rfl, hs, hz⟩
    refine ⟨trivial, ?_⟩
    replace hF := hF.st hs
    replace hT := hT.trans hs (by simp)
    replace hm := hm.st hs (by first | decide | (simp <;> omega))
    replace hit := hit.st hs (by first | decide | (simp <;> omega)) (by first | decide | (simp <;> omega))
    refine yS (by kernel_rfl : opAt F20.o5 8 = some (some 9, .assign (.tmp 24), none)) rfl rfl (fun w' hS => val_assign rfl) ?_
    refine Sch.nil ?_
    refine run_seq (x := F20.c21) (y := F20.c22) (by kernel_rfl) ?_
    refine run_plain (id := 6) (ops := F20.o6) [(0, true)] (by kernel_rfl) (by kernel_rfl) ?_
    refine yS (by kernel_rfl : opAt F20.o6 0 = some (some 25, .move (.tmp 9), none)) rfl rfl (fun w' hS => val_move rfl) ?_
    refine Sch.nil ?_
    refine run_if (x := F20.c23) (y := F20.c24) (o := .tmp 25) (by kernel_rfl) rfl (fun h25 => ?_) (fun h25 => ?_)
    · skip
      have hh : decide (q.1 ∈ a) = true := decide_eq_true h25
      refine run_plain (id := 7) (ops := F20.o7) [(0, true), (1, true), (2, true)] (by kernel_rfl) (by kernel_rfl) ?_
      refine yS (by kernel_rfl : opAt F20.o7 0 = some (some 26, .move (.tmp 6), none)) rfl rfl (fun w' hS => val_move rfl) ?_
      refine yS (by kernel_rfl : opAt F20.o7 1 = some (some 27, .binOp .add 3 (.tmp 26) (.const (.int .i64 1)) 3, none)) rfl rfl (fun w' hS => val_addi rfl rfl (by omega) (by omega)) ?_
      refine yS (by kernel_rfl : opAt F20.o7 2 = some (some 6, .assign (.tmp 27), none)) rfl rfl (fun w' hS => val_assign rfl) ?_
      refine Sch.nil ?_
      refine run_inBlock ?_
      have hless : (lf.eraseIdx nc).length < lf.length := by rw [List.length_eraseIdx_of_lt hnc]; omega
      have hcn : ((keys (tk ++ [q])).countP fun x => decide (x ∈ a)) = ((keys tk).countP fun x => decide (x ∈ a)) + 1 := by
        unfold keys; rw [List.map_append, List.countP_append]; simp [hh]
      refine kp ?_ (next (Cw6, lf.eraseIdx nc, tk ++ [q], some q) _ ⟨hF, hT, hm, hit, hpm2⟩ hless)
      exact sub_cons 5 rfl rfl (sub_cons 6 rfl (eq_int (by simp only [hcn]; omega)) (sub_cons 14 rfl rfl (sub_nil _)))
    · skip
      have hh : decide (q.1 ∈ a) = false := decide_eq_false h25
      refine run_skip (by kernel_rfl) ?_
      refine run_inBlock ?_
      have hless : (lf.eraseIdx nc).length < lf.length := by rw [List.length_eraseIdx_of_lt hnc]; omega
      have hcn : ((keys (tk ++ [q])).countP fun x => decide (x ∈ a)) = ((keys tk).countP fun x => decide (x ∈ a)) + 0 := by
        unfold keys; rw [List.map_append, List.countP_append]; simp [hh]
      refine kp ?_ (next (Cw6, lf.eraseIdx nc, tk ++ [q], some q) _ ⟨hF, hT, hm, hit, hpm2⟩ hless)
      exact sub_cons 5 rfl rfl (sub_cons 6 rfl (eq_int (by simp only [hcn]; omega)) (sub_cons 14 rfl rfl (sub_nil _)))
namespace F21
noncomputable def c0 : Code := bodyOf Try.f21
noncomputable def c1 : Code := cl c0
noncomputable def o0 : Array Oper := rops c1
noncomputable def c2 : Code := cr c0
noncomputable def c3 : Code := cl c2
noncomputable def o1 : Array Oper := rops c3
noncomputable def c4 : Code := cr c2
noncomputable def c5 : Code := cl c4
noncomputable def o2 : Array Oper := rops c5
noncomputable def c6 : Code := cr c4
noncomputable def c7 : Code := cl c6
noncomputable def c8 : Code := cl c7
noncomputable def o3 : Array Oper := rops c8
noncomputable def c9 : Code := cr c7
noncomputable def c10 : Code := cl c9
noncomputable def c11 : Code := cl c10
noncomputable def c12 : Code := cl c11
noncomputable def c13 : Code := cl c12
noncomputable def o4 : Array Oper := rops c13
noncomputable def c14 : Code := cr c12
noncomputable def c15 : Code := cl c14
noncomputable def c16 : Code := cr c14
noncomputable def c17 : Code := cr c11
noncomputable def c18 : Code := cl c17
noncomputable def c19 : Code := cl c18
noncomputable def c20 : Code := cl c19
noncomputable def o6 : Array Oper := rops c20
noncomputable def c21 : Code := cr c19
noncomputable def c22 : Code := cl c21
noncomputable def c23 : Code := cl c22
noncomputable def c24 : Code := cl c23
noncomputable def c25 : Code := cl c24
noncomputable def o7 : Array Oper := rops c25
noncomputable def c26 : Code := cr c24
noncomputable def c27 : Code := cl c26
noncomputable def c28 : Code := cr c26
noncomputable def c29 : Code := cr c23
noncomputable def c30 : Code := cl c29
noncomputable def c31 : Code := cl c30
noncomputable def c32 : Code := cl c31
noncomputable def o9 : Array Oper := rops c32
noncomputable def c33 : Code := cr c31
noncomputable def c34 : Code := cl c33
noncomputable def o10 : Array Oper := rops c34
noncomputable def c35 : Code := cr c33
noncomputable def c36 : Code := cr c29
noncomputable def o8 : Array Oper := rops c36
noncomputable def c37 : Code := cr c17
noncomputable def o5 : Array Oper := rops c37
noncomputable def c38 : Code := cr c6
noncomputable def c39 : Code := cl c38
noncomputable def o11 : Array Oper := rops c39
noncomputable def c40 : Code := cr c38
end F21
/-- The specification's 'Common'. -/
theorem rcommon_ok {w₀ : World} {C : Nat → Nat} {a b : List Tx} {va vb : Value} (hF : Lim w₀ C) (ha : RV w₀ (Mc C) a va) (hbb : RV w₀ (Mc C) b vb) (hla : a.length ≤ 2147483648) (hlb : b.length ≤ 2147483648) : Calls Try.prog 21 #[va, vb] w₀ (Ret fun v w' => v = .int .i64 (commonT a b : Nat) ∧ Stp [] w₀ C w' C) := by
  have hF0 := hF
  have hT := Stp.refl [2, 3, 4, 5, 6, 7, 8, 9] w₀ (col1 C)
  replace hF := hF.col1
  replace ha : RV w₀ (Mc (col1 C)) a va := by rw [Mc_col1]; exact ha
  replace hbb : RV w₀ (Mc (col1 C)) b vb := by rw [Mc_col1]; exact hbb
  refine calls_start (c := F21.c0) (N := 38) [va, vb] Try.func21 (by kernel_rfl) (by kernel_rfl) (by kernel_rfl) ?_
  show Run _ _ _ _ [(0, va), (1, vb)] _ _
  refine run_seq (x := F21.c1) (y := F21.c2) (by kernel_rfl) ?_
  refine run_plain (id := 0) (ops := F21.o0) [(0, true)] (by kernel_rfl) (by kernel_rfl) ?_
  refine yS (by kernel_rfl : opAt F21.o0 0 = some (some 4, .assign (.const (.int .i64 0)), none)) rfl rfl (fun w' hS => val_assign rfl) ?_
  refine Sch.nil ?_
  refine run_seq (x := F21.c3) (y := F21.c4) (by kernel_rfl) ?_
  refine run_plain (id := 1) (ops := F21.o1) [(0, true), (1, false), (2, true), (3, false), (4, true), (5, true)] (by kernel_rfl) (by kernel_rfl) ?_
  refine yS (by kernel_rfl : opAt F21.o1 0 = some (some 10, .move (.tmp 0), none)) rfl rfl (fun w' hS => val_move rfl) ?_
  refine cS (by kernel_rfl : opAt F21.o1 1 = some (some 11, .call { callee := .value (.func 25), args := #[(.tmp 10)], argTypes := #[23] }, none)) rfl rfl (ent Try.call25 rfl) (rset_ok hF ha (by omega)) ?_
  rintro vhx w1 ⟨hs, hx⟩
  refine ⟨trivial, ?_⟩
  replace hF := hF.st hs
  replace hT := hT.trans hs (by simp)
  replace ha := ha.st hs (by first | decide | (simp <;> omega))
  replace hbb := hbb.st hs (by first | decide | (simp <;> omega))
  refine yS (by kernel_rfl : opAt F21.o1 2 = some (some 12, .move (.tmp 1), none)) rfl rfl (fun w' hS => val_move rfl) ?_
  refine cS (by kernel_rfl : opAt F21.o1 3 = some (some 13, .call { callee := .value (.func 25), args := #[(.tmp 12)], argTypes := #[23] }, none)) rfl rfl (ent Try.call25 rfl) (rset_ok hF hbb (by omega)) ?_
  rintro vhy w2 ⟨hs, hy⟩
  refine ⟨trivial, ?_⟩
  replace hF := hF.st hs
  replace hT := hT.trans hs (by simp)
  replace ha := ha.st hs (by first | decide | (simp <;> omega))
  replace hbb := hbb.st hs (by first | decide | (simp <;> omega))
  replace hx := hx.st hs (by first | decide | (simp <;> omega))
  refine yS (by kernel_rfl : opAt F21.o1 4 = some (some 5, .assign (.tmp 11), none)) rfl rfl (fun w' hS => val_assign rfl) ?_
  refine yS (by kernel_rfl : opAt F21.o1 5 = some (some 6, .assign (.tmp 13), none)) rfl rfl (fun w' hS => val_assign rfl) ?_
  refine Sch.nil ?_
  refine run_seq (x := F21.c5) (y := F21.c6) (by kernel_rfl) ?_
  refine run_plain (id := 2) (ops := F21.o2) [(0, true)] (by kernel_rfl) (by kernel_rfl) ?_
  refine yS (by kernel_rfl : opAt F21.o2 0 = some (some 7, .assign (.const (.int .i64 0)), none)) rfl rfl (fun w' hS => val_assign rfl) ?_
  refine Sch.nil ?_
  refine run_seq (x := F21.c7) (y := F21.c38) (by kernel_rfl) ?_
  refine run_seq (x := F21.c8) (y := F21.c9) (by kernel_rfl) ?_
  refine run_plain (id := 3) (ops := F21.o3) [(0, true)] (by kernel_rfl) (by kernel_rfl) ?_
  refine yS (by kernel_rfl : opAt F21.o3 0 = some (some 8, .assign (.const (.int .i64 0)), none)) rfl rfl (fun w' hS => val_assign rfl) ?_
  refine Sch.nil ?_
  refine run_block (x := F21.c10) (id := 0) (by kernel_rfl) ?_
  
  refine run_loop (ι := Nat × (Nat → Nat)) (I := fun x w => x.1 ≤ (setT a).length ∧ Lim w x.2 ∧ Stp [2, 3, 4, 5, 6, 7, 8, 9] w₀ (col1 C) w x.2 ∧ RV w (Mc x.2) (setT a) vhx ∧ RV w (Mc x.2) (setT b) vhy) (e := fun x => [(5, vhx), (6, vhy), (7, .int .i64 (pairsN ((setT a).take x.1) (setT b) : Nat)), (8, .int .i64 x.1)]) (m := fun x => (setT a).length - x.1) (x₀ := (0, col1 C)) (body := F21.c11) (by kernel_rfl) (sub_cons 5 rfl rfl (sub_cons 6 rfl rfl (sub_cons 7 rfl rfl (sub_cons 8 rfl rfl (sub_nil _))))) ?_ ?_
  · exact ⟨Nat.zero_le _, hF, hT, hx, hy⟩
  intro ⟨i, C1⟩ w3 hI next
  obtain ⟨hi, hF, hT, hx, hy⟩ := hI
  try simp only at hi hF hT hx hy
  have next1 := next
  clear next
  show Run _ _ _ _ [(5, vhx), (6, vhy), (7, .int .i64 (pairsN ((setT a).take i) (setT b) : Nat)), (8, .int .i64 i)] _ _
  have hxl := setT_len_le a
  have hyl := setT_len_le b
  refine run_seq (x := F21.c12) (y := F21.c17) (by kernel_rfl) ?_
  refine run_seq (x := F21.c13) (y := F21.c14) (by kernel_rfl) ?_
  refine run_plain (id := 4) (ops := F21.o4) [(0, true), (1, true), (2, true), (3, true)] (by kernel_rfl) (by kernel_rfl) ?_
  refine yS (by kernel_rfl : opAt F21.o4 0 = some (some 14, .move (.tmp 8), none)) rfl rfl (fun w' hS => val_move rfl) ?_
  refine yS (by kernel_rfl : opAt F21.o4 1 = some (some 15, .move (.tmp 5), none)) rfl rfl (fun w' hS => val_move rfl) ?_
  refine yS (by kernel_rfl : opAt F21.o4 2 = some (some 16, .call { callee := .builtin .len, args := #[(.tmp 15)], argTypes := #[23] }, none)) rfl rfl (fun w' hS => hx.lenV rfl Try.underlying23 w' ) ?_
  refine yS (by kernel_rfl : opAt F21.o4 3 = some (some 17, .binOp .lss 3 (.tmp 14) (.tmp 16) 3, none)) rfl rfl (fun w' hS => val_lss rfl rfl) ?_
  refine Sch.nil ?_
  refine run_if (x := F21.c15) (y := F21.c16) (o := .tmp 17) (by kernel_rfl) rfl (fun h17 => ?_) (fun h17 => ?_)
  · skip
    have hil : i < (setT a).length := by omega
    refine run_skip (by kernel_rfl) ?_
    refine run_seq (x := F21.c18) (y := F21.c37) (by kernel_rfl) ?_
    refine run_block (x := F21.c19) (id := 1) (by kernel_rfl) ?_
    refine run_seq (x := F21.c20) (y := F21.c21) (by kernel_rfl) ?_
    refine run_plain (id := 6) (ops := F21.o6) [(0, true)] (by kernel_rfl) (by kernel_rfl) ?_
    refine yS (by kernel_rfl : opAt F21.o6 0 = some (some 9, .assign (.const (.int .i64 0)), none)) rfl rfl (fun w' hS => val_assign rfl) ?_
    refine Sch.nil ?_
    refine run_block (x := F21.c22) (id := 2) (by kernel_rfl) ?_
    
    refine run_loop (ι := Nat × (Nat → Nat)) (I := fun x w => x.1 ≤ (setT b).length ∧ Lim w x.2 ∧ Stp [2, 3, 4, 5, 6, 7, 8, 9] w₀ (col1 C) w x.2 ∧ RV w (Mc x.2) (setT a) vhx ∧ RV w (Mc x.2) (setT b) vhy) (e := fun x => [(5, vhx), (6, vhy), (7, .int .i64 ((pairsN ((setT a).take i) (setT b) + (((setT b).take x.1).countP fun c => decide ((setT a)[i] = c))) : Nat)), (8, .int .i64 i), (9, .int .i64 x.1)]) (m := fun x => (setT b).length - x.1) (x₀ := (0, C1)) (body := F21.c23) (by kernel_rfl) (sub_cons 5 rfl rfl (sub_cons 6 rfl rfl (sub_cons 7 rfl (eq_int (by simp)) (sub_cons 8 rfl rfl (sub_cons 9 rfl rfl (sub_nil _)))))) ?_ ?_
    · exact ⟨Nat.zero_le _, hF, hT, hx, hy⟩
    intro ⟨k, C2⟩ w4 hI next
    obtain ⟨hk, hF, hT, hx, hy⟩ := hI
    try simp only at hk hF hT hx hy
    have next2 := next
    clear next
    show Run _ _ _ _ [(5, vhx), (6, vhy), (7, .int .i64 ((pairsN ((setT a).take i) (setT b) + (((setT b).take k).countP fun c => decide ((setT a)[i] = c))) : Nat)), (8, .int .i64 i), (9, .int .i64 k)] _ _
    have hpp := pairsN_le ((setT a).take i) (setT b)
    have hpq : (((setT b).take k).countP fun c => decide ((setT a)[i] = c)) ≤ ((setT b).take k).length := List.countP_le_length
    have hpr := List.length_take_le k (setT b)
    have hps : ((setT a).take i).length * (setT b).length ≤ 2147483648 * 2147483648 := Nat.mul_le_mul (by have := List.length_take_le i (setT a); omega) (by omega)
    refine run_seq (x := F21.c24) (y := F21.c29) (by kernel_rfl) ?_
    refine run_seq (x := F21.c25) (y := F21.c26) (by kernel_rfl) ?_
    refine run_plain (id := 7) (ops := F21.o7) [(0, true), (1, true), (2, true), (3, true)] (by kernel_rfl) (by kernel_rfl) ?_
    refine yS (by kernel_rfl : opAt F21.o7 0 = some (some 20, .move (.tmp 9), none)) rfl rfl (fun w' hS => val_move rfl) ?_
    refine yS (by kernel_rfl : opAt F21.o7 1 = some (some 21, .move (.tmp 6), none)) rfl rfl (fun w' hS => val_move rfl) ?_
    refine yS (by kernel_rfl : opAt F21.o7 2 = some (some 22, .call { callee := .builtin .len, args := #[(.tmp 21)], argTypes := #[23] }, none)) rfl rfl (fun w' hS => hy.lenV rfl Try.underlying23 w' ) ?_
    refine yS (by kernel_rfl : opAt F21.o7 3 = some (some 23, .binOp .lss 3 (.tmp 20) (.tmp 22) 3, none)) rfl rfl (fun w' hS => val_lss rfl rfl) ?_
    refine Sch.nil ?_
    refine run_if (x := F21.c27) (y := F21.c28) (o := .tmp 23) (by kernel_rfl) rfl (fun h23 => ?_) (fun h23 => ?_)
    · skip
      have hkl : k < (setT b).length := by omega
      refine run_skip (by kernel_rfl) ?_
      refine run_seq (x := F21.c30) (y := F21.c36) (by kernel_rfl) ?_
      refine run_block (x := F21.c31) (id := 3) (by kernel_rfl) ?_
      refine run_seq (x := F21.c32) (y := F21.c33) (by kernel_rfl) ?_
      refine run_draw (id := 9) (ops := F21.o9) [] (C2) [(0, true), (1, true), (2, true), (3, true), (4, true), (5, true), (6, true), (7, true), (8, true)] Try_mixed (by kernel_rfl) (by kernel_rfl) (by kernel_rfl) ?_
      intro w5 hs
      replace hF := hF.st hs
      replace hT := hT.trans hs (by simp)
      replace hx := hx.st hs (by first | decide | (simp <;> omega))
      replace hy := hy.st hs (by first | decide | (simp <;> omega))
      refine yS (by kernel_rfl : opAt F21.o9 0 = some (some 26, .move (.tmp 5), none)) rfl rfl (fun w' hS => val_move rfl) ?_
      refine yS (by kernel_rfl : opAt F21.o9 1 = some (some 27, .move (.tmp 8), none)) rfl rfl (fun w' hS => val_move rfl) ?_
      refine iS (e := 9) (by kernel_rfl : opAt F21.o9 2 = some (some 28, .indexAddr 23 (.tmp 26) (.tmp 27), none)) rfl rfl hx rfl (by kernel_rfl) rfl (by omega) (by omega) ?_
      intro b28 o28 h28
      try simp only [Int.toNat_natCast] at h28
      refine lS (by kernel_rfl : opAt F21.o9 3 = some (some 29, .load 9 (.tmp 28), none)) rfl rfl (fun w' hS => h28.stay hS (by first | decide | (simp <;> omega))) h28 (by kernel_rfl) rfl rfl ?_
      intro v29 g29
      obtain ⟨rfl, hb29⟩ := rv_tx.1 g29
      refine yS (by kernel_rfl : opAt F21.o9 4 = some (some 30, .move (.tmp 6), none)) rfl rfl (fun w' hS => val_move rfl) ?_
      refine yS (by kernel_rfl : opAt F21.o9 5 = some (some 31, .move (.tmp 9), none)) rfl rfl (fun w' hS => val_move rfl) ?_
      refine iS (e := 9) (by kernel_rfl : opAt F21.o9 6 = some (some 32, .indexAddr 23 (.tmp 30) (.tmp 31), none)) rfl rfl hy rfl (by kernel_rfl) rfl (by omega) (by omega) ?_
      intro b32 o32 h32
      try simp only [Int.toNat_natCast] at h32
      refine lS (by kernel_rfl : opAt F21.o9 7 = some (some 33, .load 9 (.tmp 32), none)) rfl rfl (fun w' hS => h32.stay hS (by first | decide | (simp <;> omega))) h32 (by kernel_rfl) rfl rfl ?_
      intro v33 g33
      obtain ⟨rfl, hb33⟩ := rv_tx.1 g33
      refine yS (by kernel_rfl : opAt F21.o9 8 = some (some 34, .binOp .eql 9 (.tmp 29) (.tmp 33) 9, none)) rfl rfl (fun w' hS => val_eqT rfl rfl) ?_
      refine Sch.nil ?_
      refine run_if (x := F21.c34) (y := F21.c35) (o := .tmp 34) (by kernel_rfl) rfl (fun h34 => ?_) (fun h34 => ?_)
      · skip
        refine run_plain (id := 10) (ops := F21.o10) [(0, true), (1, true), (2, true)] (by kernel_rfl) (by kernel_rfl) ?_
        refine yS (by kernel_rfl : opAt F21.o10 0 = some (some 35, .move (.tmp 7), none)) rfl rfl (fun w' hS => val_move rfl) ?_
        refine yS (by kernel_rfl : opAt F21.o10 1 = some (some 36, .binOp .add 3 (.tmp 35) (.const (.int .i64 1)) 3, none)) rfl rfl (fun w' hS => val_addi rfl rfl (by omega) (by omega)) ?_
        refine yS (by kernel_rfl : opAt F21.o10 2 = some (some 7, .assign (.tmp 36), none)) rfl rfl (fun w' hS => val_assign rfl) ?_
        refine Sch.nil ?_
        refine run_inBlock ?_
        refine run_plain (id := 8) (ops := F21.o8) [(0, true), (1, true), (2, true)] (by kernel_rfl) (by kernel_rfl) ?_
        refine yS (by kernel_rfl : opAt F21.o8 0 = some (some 24, .move (.tmp 9), none)) rfl rfl (fun w' hS => val_move rfl) ?_
        refine yS (by kernel_rfl : opAt F21.o8 1 = some (some 25, .binOp .add 3 (.tmp 24) (.const (.int .i64 1)) 3, none)) rfl rfl (fun w' hS => val_addi rfl rfl (by omega) (by omega)) ?_
        refine yS (by kernel_rfl : opAt F21.o8 2 = some (some 9, .assign (.tmp 25), none)) rfl rfl (fun w' hS => val_assign rfl) ?_
        refine Sch.nil ?_
        have hct := countP_take (a := (setT a)[i]) hkl
        have heq : ((setT a)[i] = (setT b)[k]) := tx_ext h34
        rw [if_pos heq] at hct
        refine kp (sub_cons 5 rfl rfl (sub_cons 6 rfl rfl (sub_cons 7 rfl (eq_int (by simp only [hct]; omega)) (sub_cons 8 rfl rfl (sub_cons 9 rfl (eq_int (by simp)) (sub_nil _)))))) (next2 (k + 1, C2) _ ⟨(by first | omega | (simp only; omega)), hF, hT, hx, hy⟩ (by first | omega | (simp only; omega)))
      · skip
        refine run_skip (by kernel_rfl) ?_
        refine run_inBlock ?_
        refine run_plain (id := 8) (ops := F21.o8) [(0, true), (1, true), (2, true)] (by kernel_rfl) (by kernel_rfl) ?_
        refine yS (by kernel_rfl : opAt F21.o8 0 = some (some 24, .move (.tmp 9), none)) rfl rfl (fun w' hS => val_move rfl) ?_
        refine yS (by kernel_rfl : opAt F21.o8 1 = some (some 25, .binOp .add 3 (.tmp 24) (.const (.int .i64 1)) 3, none)) rfl rfl (fun w' hS => val_addi rfl rfl (by omega) (by omega)) ?_
        refine yS (by kernel_rfl : opAt F21.o8 2 = some (some 9, .assign (.tmp 25), none)) rfl rfl (fun w' hS => val_assign rfl) ?_
        refine Sch.nil ?_
        have hct := countP_take (a := (setT a)[i]) hkl
        have heq : (¬ (setT a)[i] = (setT b)[k]) := fun e => h34 (by rw [e])
        rw [if_neg heq] at hct
        refine kp (sub_cons 5 rfl rfl (sub_cons 6 rfl rfl (sub_cons 7 rfl (eq_int (by simp only [hct]; omega)) (sub_cons 8 rfl rfl (sub_cons 9 rfl (eq_int (by simp)) (sub_nil _)))))) (next2 (k + 1, C2) _ ⟨(by first | omega | (simp only; omega)), hF, hT, hx, hy⟩ (by first | omega | (simp only; omega)))
    · skip
      have hkl : k = (setT b).length := by omega
      refine run_exit (id := 2) (by kernel_rfl) rfl ?_
      refine run_inBlock ?_
      refine run_plain (id := 5) (ops := F21.o5) [(0, true), (1, true), (2, true)] (by kernel_rfl) (by kernel_rfl) ?_
      refine yS (by kernel_rfl : opAt F21.o5 0 = some (some 18, .move (.tmp 8), none)) rfl rfl (fun w' hS => val_move rfl) ?_
      refine yS (by kernel_rfl : opAt F21.o5 1 = some (some 19, .binOp .add 3 (.tmp 18) (.const (.int .i64 1)) 3, none)) rfl rfl (fun w' hS => val_addi rfl rfl (by omega) (by omega)) ?_
      refine yS (by kernel_rfl : opAt F21.o5 2 = some (some 8, .assign (.tmp 19), none)) rfl rfl (fun w' hS => val_assign rfl) ?_
      refine Sch.nil ?_
      refine kp (sub_cons 5 rfl rfl (sub_cons 6 rfl rfl (sub_cons 7 rfl (eq_int (by rw [pairsN_take hil, hkl, List.take_length])) (sub_cons 8 rfl (eq_int (by simp)) (sub_nil _))))) (next1 (i + 1, C2) _ ⟨(by first | omega | (simp only; omega)), hF, hT, hx, hy⟩ (by first | omega | (simp only; omega)))
  · skip
    have hil : i = (setT a).length := by omega
    refine run_exit (id := 0) (by kernel_rfl) rfl ?_
    refine run_seq (x := F21.c39) (y := F21.c40) (by kernel_rfl) ?_
    refine run_plain (id := 11) (ops := F21.o11) [(0, true), (1, true)] (by kernel_rfl) (by kernel_rfl) ?_
    refine yS (by kernel_rfl : opAt F21.o11 0 = some (some 37, .move (.tmp 7), none)) rfl rfl (fun w' hS => val_move rfl) ?_
    refine yS (by kernel_rfl : opAt F21.o11 1 = some (some 4, .assign (.tmp 37), none)) rfl rfl (fun w' hS => val_assign rfl) ?_
    refine Sch.nil ?_
    refine run_ret1 (by kernel_rfl) Try.func21 Try.results21 rfl ?_
    refine ⟨eq_int ?_, hT.out1 (by decide)⟩
    rw [hil, List.take_length, pairsN_set]
namespace F22
noncomputable def c0 : Code := bodyOf Try.f22
noncomputable def c1 : Code := cl c0
noncomputable def o0 : Array Oper := rops c1
noncomputable def c2 : Code := cr c0
noncomputable def c3 : Code := cl c2
noncomputable def o1 : Array Oper := rops c3
noncomputable def c4 : Code := cr c2
noncomputable def c5 : Code := cl c4
noncomputable def c6 : Code := cl c5
noncomputable def o2 : Array Oper := rops c6
noncomputable def c7 : Code := cr c5
noncomputable def c8 : Code := cl c7
noncomputable def c9 : Code := cl c8
noncomputable def o3 : Array Oper := rops c9
noncomputable def c10 : Code := cr c8
noncomputable def c11 : Code := cr c7
noncomputable def c12 : Code := cr c4
noncomputable def c13 : Code := cl c12
noncomputable def o4 : Array Oper := rops c13
noncomputable def c14 : Code := cr c12
end F22
/-- 'Dice'. -/
theorem dice_ok {w₀ : World} {C : Nat → Nat} {a b : List Tx} {va vb : Value} (hF : Lim w₀ C) (ha : RV w₀ (Mc C) a va) (hbb : RV w₀ (Mc C) b vb) (hla : a.length ≤ 4294967296) (hlb : b.length ≤ 4294967296) : Calls Try.prog 22 #[va, vb] w₀ (Ret fun v w' => v = .int .i64 (diceT a b) ∧ Stp [] w₀ C w' C) := by
  have hF0 := hF
  have hT := Stp.refl [2, 3, 4, 5, 6, 7, 8, 9] w₀ (col1 C)
  replace hF := hF.col1
  replace ha : RV w₀ (Mc (col1 C)) a va := by rw [Mc_col1]; exact ha
  replace hbb : RV w₀ (Mc (col1 C)) b vb := by rw [Mc_col1]; exact hbb
  refine calls_start (c := F22.c0) (N := 24) [va, vb] Try.func22 (by kernel_rfl) (by kernel_rfl) (by kernel_rfl) ?_
  show Run _ _ _ _ [(0, va), (1, vb)] _ _
  refine run_seq (x := F22.c1) (y := F22.c2) (by kernel_rfl) ?_
  refine run_plain (id := 0) (ops := F22.o0) [(0, true)] (by kernel_rfl) (by kernel_rfl) ?_
  refine yS (by kernel_rfl : opAt F22.o0 0 = some (some 4, .assign (.const (.int .i64 0)), none)) rfl rfl (fun w' hS => val_assign rfl) ?_
  refine Sch.nil ?_
  refine run_seq (x := F22.c3) (y := F22.c4) (by kernel_rfl) ?_
  refine run_plain (id := 1) (ops := F22.o1) [(0, true), (1, false), (2, false), (3, true), (4, false), (5, false), (6, true), (7, true)] (by kernel_rfl) (by kernel_rfl) ?_
  have hxl := setT_len_le a
  have hyl := setT_len_le b
  refine yS (by kernel_rfl : opAt F22.o1 0 = some (some 6, .move (.tmp 0), none)) rfl rfl (fun w' hS => val_move rfl) ?_
  refine cS (by kernel_rfl : opAt F22.o1 1 = some (some 7, .call { callee := .value (.func 35), args := #[(.tmp 6)], argTypes := #[23] }, none)) rfl rfl (ent Try.call35 rfl) (of_ok hF ha (by omega)) ?_
  rintro vhm w1 ⟨hs, hm⟩
  refine ⟨trivial, ?_⟩
  replace hF := hF.st hs
  replace hT := hT.trans hs (by simp)
  replace ha := ha.st hs (by first | decide | (simp <;> omega))
  replace hbb := hbb.st hs (by first | decide | (simp <;> omega))
  refine nS (by kernel_rfl : opAt F22.o1 2 = some (some 8, .call { callee := .builtin .len, args := #[(.tmp 7)], argTypes := #[51] }, none)) rfl rfl trivial (by exact hm.lenV rfl Try.underlying51) ?_
  rw [ofS_len]
  refine yS (by kernel_rfl : opAt F22.o1 3 = some (some 9, .move (.tmp 1), none)) rfl rfl (fun w' hS => val_move rfl) ?_
  refine cS (by kernel_rfl : opAt F22.o1 4 = some (some 10, .call { callee := .value (.func 35), args := #[(.tmp 9)], argTypes := #[23] }, none)) rfl rfl (ent Try.call35 rfl) (of_ok hF hbb (by omega)) ?_
  rintro vhn w2 ⟨hs, hn⟩
  refine ⟨trivial, ?_⟩
  replace hF := hF.st hs
  replace hT := hT.trans hs (by simp)
  replace ha := ha.st hs (by first | decide | (simp <;> omega))
  replace hbb := hbb.st hs (by first | decide | (simp <;> omega))
  replace hm := hm.st hs (by first | decide | (simp <;> omega))
  refine nS (by kernel_rfl : opAt F22.o1 5 = some (some 11, .call { callee := .builtin .len, args := #[(.tmp 10)], argTypes := #[51] }, none)) rfl rfl trivial (by exact hn.lenV rfl Try.underlying51) ?_
  rw [ofS_len]
  refine yS (by kernel_rfl : opAt F22.o1 6 = some (some 12, .binOp .add 3 (.tmp 8) (.tmp 11) 3, none)) rfl rfl (fun w' hS => val_addi rfl rfl (by omega) (by omega)) ?_
  refine yS (by kernel_rfl : opAt F22.o1 7 = some (some 5, .assign (.tmp 12), none)) rfl rfl (fun w' hS => val_assign rfl) ?_
  refine Sch.nil ?_
  refine run_seq (x := F22.c5) (y := F22.c12) (by kernel_rfl) ?_
  refine run_seq (x := F22.c6) (y := F22.c7) (by kernel_rfl) ?_
  refine run_plain (id := 2) (ops := F22.o2) [(0, true), (1, true)] (by kernel_rfl) (by kernel_rfl) ?_
  refine yS (by kernel_rfl : opAt F22.o2 0 = some (some 13, .move (.tmp 5), none)) rfl rfl (fun w' hS => val_move rfl) ?_
  refine yS (by kernel_rfl : opAt F22.o2 1 = some (some 14, .binOp .eql 3 (.tmp 13) (.const (.int .i64 0)) 3, none)) rfl rfl (fun w' hS => val_eql rfl rfl) ?_
  refine Sch.nil ?_
  refine run_if (x := F22.c8) (y := F22.c11) (o := .tmp 14) (by kernel_rfl) rfl (fun h14 => ?_) (fun h14 => ?_)
  · skip
    have hz : (setT a).length + (setT b).length = 0 := by omega
    refine run_seq (x := F22.c9) (y := F22.c10) (by kernel_rfl) ?_
    refine run_plain (id := 3) (ops := F22.o3) [(0, true)] (by kernel_rfl) (by kernel_rfl) ?_
    refine yS (by kernel_rfl : opAt F22.o3 0 = some (some 4, .assign (.const (.int .i64 0)), none)) rfl rfl (fun w' hS => val_assign rfl) ?_
    refine Sch.nil ?_
    refine run_ret1 (by kernel_rfl) Try.func22 Try.results22 rfl ?_
    exact ⟨by unfold diceT; rw [if_pos hz], hT.out1 (by decide)⟩
  · skip
    have hz : ¬ (setT a).length + (setT b).length = 0 := by omega
    have hcl := commonT_le_left a b
    refine run_skip (by kernel_rfl) ?_
    refine run_seq (x := F22.c13) (y := F22.c14) (by kernel_rfl) ?_
    refine run_plain (id := 4) (ops := F22.o4) [(0, true), (1, true), (2, false), (3, true), (4, true), (5, true), (6, true), (7, true), (8, true), (9, true)] (by kernel_rfl) (by kernel_rfl) ?_
    refine yS (by kernel_rfl : opAt F22.o4 0 = some (some 15, .move (.tmp 0), none)) rfl rfl (fun w' hS => val_move rfl) ?_
    refine yS (by kernel_rfl : opAt F22.o4 1 = some (some 16, .move (.tmp 1), none)) rfl rfl (fun w' hS => val_move rfl) ?_
    refine cS (by kernel_rfl : opAt F22.o4 2 = some (some 17, .call { callee := .value (.func 20), args := #[(.tmp 15), (.tmp 16)], argTypes := #[23, 23] }, none)) rfl rfl (ent Try.call20 rfl) (common_ok hF ha hbb hla hlb) ?_
    rintro vw3 w3 ⟨rfl, hs⟩
    refine ⟨trivial, ?_⟩
    replace hF := hF.st hs
    replace hT := hT.trans hs (by simp)
    replace ha := ha.st hs (by first | decide | (simp <;> omega))
    replace hbb := hbb.st hs (by first | decide | (simp <;> omega))
    replace hm := hm.st hs (by first | decide | (simp <;> omega))
    replace hn := hn.st hs (by first | decide | (simp <;> omega))
    refine yS (by kernel_rfl : opAt F22.o4 3 = some (some 18, .binOp .mul 3 (.const (.int .i64 4000)) (.tmp 17) 3, none)) rfl rfl (fun w' hS => val_muli rfl rfl (by omega) (by omega)) ?_
    refine yS (by kernel_rfl : opAt F22.o4 4 = some (some 19, .move (.tmp 5), none)) rfl rfl (fun w' hS => val_move rfl) ?_
    refine yS (by kernel_rfl : opAt F22.o4 5 = some (some 20, .binOp .add 3 (.tmp 18) (.tmp 19) 3, none)) rfl rfl (fun w' hS => val_addi rfl rfl (by omega) (by omega)) ?_
    refine yS (by kernel_rfl : opAt F22.o4 6 = some (some 21, .move (.tmp 5), none)) rfl rfl (fun w' hS => val_move rfl) ?_
    refine yS (by kernel_rfl : opAt F22.o4 7 = some (some 22, .binOp .mul 3 (.const (.int .i64 2)) (.tmp 21) 3, none)) rfl rfl (fun w' hS => val_muli rfl rfl (by omega) (by omega)) ?_
    refine yS (by kernel_rfl : opAt F22.o4 8 = some (some 23, .binOp .quo 3 (.tmp 20) (.tmp 22) 3, none)) rfl rfl (fun w' hS => val_divi rfl rfl (by omega) (by omega) (by omega)) ?_
    refine yS (by kernel_rfl : opAt F22.o4 9 = some (some 4, .assign (.tmp 23), none)) rfl rfl (fun w' hS => val_assign rfl) ?_
    refine Sch.nil ?_
    refine run_ret1 (by kernel_rfl) Try.func22 Try.results22 rfl ?_
    exact ⟨by unfold diceT; rw [if_neg hz]; exact eq_int (by rw [Int.natCast_add]), hT.out1 (by decide)⟩
namespace F36
noncomputable def c0 : Code := bodyOf Try.f36
noncomputable def c1 : Code := cl c0
noncomputable def o0 : Array Oper := rops c1
noncomputable def c2 : Code := cr c0
noncomputable def c3 : Code := cl c2
noncomputable def o1 : Array Oper := rops c3
noncomputable def c4 : Code := cr c2
end F36
theorem rounded_ok {x y : Int} (h0 : 0 ≤ x) (h1 : x ≤ 1099511627776000) (h2 : 1 ≤ y) (h3 : y ≤ 1099511627776) (w : World) : Calls Try.prog 36 #[.int .i64 x, .int .i64 y] w (Ret fun v w' => v = .int .i64 ((2 * x + y) / (2 * y)) ∧ w' = w) := by
  refine calls_start (c := F36.c0) (N := 12) [.int .i64 x, .int .i64 y] Try.func36 (by kernel_rfl) (by kernel_rfl) (by kernel_rfl) ?_
  show Run _ _ _ _ [(0, .int .i64 x), (1, .int .i64 y)] _ _
  refine run_seq (x := F36.c1) (y := F36.c2) (by kernel_rfl) ?_
  refine run_plain (id := 0) (ops := F36.o0) [(0, true)] (by kernel_rfl) (by kernel_rfl) ?_
  refine yS (by kernel_rfl : opAt F36.o0 0 = some (some 4, .assign (.const (.int .i64 0)), none)) rfl rfl (fun w' hS => val_assign rfl) ?_
  refine Sch.nil ?_
  refine run_seq (x := F36.c3) (y := F36.c4) (by kernel_rfl) ?_
  refine run_plain (id := 1) (ops := F36.o1) [(0, true), (1, true), (2, true), (3, true), (4, true), (5, true), (6, true), (7, true)] (by kernel_rfl) (by kernel_rfl) ?_
  refine yS (by kernel_rfl : opAt F36.o1 0 = some (some 5, .move (.tmp 0), none)) rfl rfl (fun w' hS => val_move rfl) ?_
  refine yS (by kernel_rfl : opAt F36.o1 1 = some (some 6, .binOp .mul 3 (.const (.int .i64 2)) (.tmp 5) 3, none)) rfl rfl (fun w' hS => val_muli rfl rfl (by omega) (by omega)) ?_
  refine yS (by kernel_rfl : opAt F36.o1 2 = some (some 7, .move (.tmp 1), none)) rfl rfl (fun w' hS => val_move rfl) ?_
  refine yS (by kernel_rfl : opAt F36.o1 3 = some (some 8, .binOp .add 3 (.tmp 6) (.tmp 7) 3, none)) rfl rfl (fun w' hS => val_addi rfl rfl (by omega) (by omega)) ?_
  refine yS (by kernel_rfl : opAt F36.o1 4 = some (some 9, .move (.tmp 1), none)) rfl rfl (fun w' hS => val_move rfl) ?_
  refine yS (by kernel_rfl : opAt F36.o1 5 = some (some 10, .binOp .mul 3 (.const (.int .i64 2)) (.tmp 9) 3, none)) rfl rfl (fun w' hS => val_muli rfl rfl (by omega) (by omega)) ?_
  refine yS (by kernel_rfl : opAt F36.o1 6 = some (some 11, .binOp .quo 3 (.tmp 8) (.tmp 10) 3, none)) rfl rfl (fun w' hS => val_divi rfl rfl (by omega) (by omega) (by omega)) ?_
  refine yS (by kernel_rfl : opAt F36.o1 7 = some (some 4, .assign (.tmp 11), none)) rfl rfl (fun w' hS => val_assign rfl) ?_
  refine Sch.nil ?_
  refine run_ret1 (by kernel_rfl) Try.func36 Try.results36 rfl ?_
  exact ⟨rfl, rfl⟩
namespace F23
noncomputable def c0 : Code := bodyOf Try.f23
noncomputable def c1 : Code := cl c0
noncomputable def o0 : Array Oper := rops c1
noncomputable def c2 : Code := cr c0
noncomputable def c3 : Code := cl c2
noncomputable def o1 : Array Oper := rops c3
noncomputable def c4 : Code := cr c2
noncomputable def c5 : Code := cl c4
noncomputable def c6 : Code := cl c5
noncomputable def o2 : Array Oper := rops c6
noncomputable def c7 : Code := cr c5
noncomputable def c8 : Code := cl c7
noncomputable def c9 : Code := cl c8
noncomputable def o3 : Array Oper := rops c9
noncomputable def c10 : Code := cr c8
noncomputable def c11 : Code := cr c7
noncomputable def c12 : Code := cr c4
noncomputable def c13 : Code := cl c12
noncomputable def o4 : Array Oper := rops c13
noncomputable def c14 : Code := cr c12
end F23
/-- The specification's 'Dice'. -/
theorem rdice_ok {w₀ : World} {C : Nat → Nat} {a b : List Tx} {va vb : Value} (hF : Lim w₀ C) (ha : RV w₀ (Mc C) a va) (hbb : RV w₀ (Mc C) b vb) (hla : a.length ≤ 2147483648) (hlb : b.length ≤ 2147483648) : Calls Try.prog 23 #[va, vb] w₀ (Ret fun v w' => v = .int .i64 (diceT a b) ∧ Stp [] w₀ C w' C) := by
  have hF0 := hF
  have hT := Stp.refl [2, 3, 4, 5, 6, 7, 8, 9] w₀ (col1 C)
  replace hF := hF.col1
  replace ha : RV w₀ (Mc (col1 C)) a va := by rw [Mc_col1]; exact ha
  replace hbb : RV w₀ (Mc (col1 C)) b vb := by rw [Mc_col1]; exact hbb
  refine calls_start (c := F23.c0) (N := 21) [va, vb] Try.func23 (by kernel_rfl) (by kernel_rfl) (by kernel_rfl) ?_
  show Run _ _ _ _ [(0, va), (1, vb)] _ _
  refine run_seq (x := F23.c1) (y := F23.c2) (by kernel_rfl) ?_
  refine run_plain (id := 0) (ops := F23.o0) [(0, true)] (by kernel_rfl) (by kernel_rfl) ?_
  refine yS (by kernel_rfl : opAt F23.o0 0 = some (some 4, .assign (.const (.int .i64 0)), none)) rfl rfl (fun w' hS => val_assign rfl) ?_
  refine Sch.nil ?_
  refine run_seq (x := F23.c3) (y := F23.c4) (by kernel_rfl) ?_
  refine run_plain (id := 1) (ops := F23.o1) [(0, true), (1, false), (2, true), (3, true), (4, false), (5, true), (6, true), (7, true)] (by kernel_rfl) (by kernel_rfl) ?_
  have hxl := setT_len_le a
  have hyl := setT_len_le b
  refine yS (by kernel_rfl : opAt F23.o1 0 = some (some 6, .move (.tmp 0), none)) rfl rfl (fun w' hS => val_move rfl) ?_
  refine cS (by kernel_rfl : opAt F23.o1 1 = some (some 7, .call { callee := .value (.func 25), args := #[(.tmp 6)], argTypes := #[23] }, none)) rfl rfl (ent Try.call25 rfl) (rset_ok hF ha (by omega)) ?_
  rintro vhx w1 ⟨hs, hx⟩
  refine ⟨trivial, ?_⟩
  replace hF := hF.st hs
  replace hT := hT.trans hs (by simp)
  replace ha := ha.st hs (by first | decide | (simp <;> omega))
  replace hbb := hbb.st hs (by first | decide | (simp <;> omega))
  refine yS (by kernel_rfl : opAt F23.o1 2 = some (some 8, .call { callee := .builtin .len, args := #[(.tmp 7)], argTypes := #[23] }, none)) rfl rfl (fun w' hS => hx.lenV rfl Try.underlying23 w' ) ?_
  refine yS (by kernel_rfl : opAt F23.o1 3 = some (some 9, .move (.tmp 1), none)) rfl rfl (fun w' hS => val_move rfl) ?_
  refine cS (by kernel_rfl : opAt F23.o1 4 = some (some 10, .call { callee := .value (.func 25), args := #[(.tmp 9)], argTypes := #[23] }, none)) rfl rfl (ent Try.call25 rfl) (rset_ok hF hbb (by omega)) ?_
  rintro vhy w2 ⟨hs, hy⟩
  refine ⟨trivial, ?_⟩
  replace hF := hF.st hs
  replace hT := hT.trans hs (by simp)
  replace ha := ha.st hs (by first | decide | (simp <;> omega))
  replace hbb := hbb.st hs (by first | decide | (simp <;> omega))
  replace hx := hx.st hs (by first | decide | (simp <;> omega))
  refine yS (by kernel_rfl : opAt F23.o1 5 = some (some 11, .call { callee := .builtin .len, args := #[(.tmp 10)], argTypes := #[23] }, none)) rfl rfl (fun w' hS => hy.lenV rfl Try.underlying23 w' ) ?_
  refine yS (by kernel_rfl : opAt F23.o1 6 = some (some 12, .binOp .add 3 (.tmp 8) (.tmp 11) 3, none)) rfl rfl (fun w' hS => val_addi rfl rfl (by omega) (by omega)) ?_
  refine yS (by kernel_rfl : opAt F23.o1 7 = some (some 5, .assign (.tmp 12), none)) rfl rfl (fun w' hS => val_assign rfl) ?_
  refine Sch.nil ?_
  refine run_seq (x := F23.c5) (y := F23.c12) (by kernel_rfl) ?_
  refine run_seq (x := F23.c6) (y := F23.c7) (by kernel_rfl) ?_
  refine run_plain (id := 2) (ops := F23.o2) [(0, true), (1, true)] (by kernel_rfl) (by kernel_rfl) ?_
  refine yS (by kernel_rfl : opAt F23.o2 0 = some (some 13, .move (.tmp 5), none)) rfl rfl (fun w' hS => val_move rfl) ?_
  refine yS (by kernel_rfl : opAt F23.o2 1 = some (some 14, .binOp .eql 3 (.tmp 13) (.const (.int .i64 0)) 3, none)) rfl rfl (fun w' hS => val_eql rfl rfl) ?_
  refine Sch.nil ?_
  refine run_if (x := F23.c8) (y := F23.c11) (o := .tmp 14) (by kernel_rfl) rfl (fun h14 => ?_) (fun h14 => ?_)
  · skip
    have hz : (setT a).length + (setT b).length = 0 := by omega
    refine run_seq (x := F23.c9) (y := F23.c10) (by kernel_rfl) ?_
    refine run_plain (id := 3) (ops := F23.o3) [(0, true)] (by kernel_rfl) (by kernel_rfl) ?_
    refine yS (by kernel_rfl : opAt F23.o3 0 = some (some 4, .assign (.const (.int .i64 0)), none)) rfl rfl (fun w' hS => val_assign rfl) ?_
    refine Sch.nil ?_
    refine run_ret1 (by kernel_rfl) Try.func23 Try.results23 rfl ?_
    exact ⟨by unfold diceT; rw [if_pos hz], hT.out1 (by decide)⟩
  · skip
    have hz : ¬ (setT a).length + (setT b).length = 0 := by omega
    have hcl := commonT_le_left a b
    refine run_skip (by kernel_rfl) ?_
    refine run_seq (x := F23.c13) (y := F23.c14) (by kernel_rfl) ?_
    refine run_plain (id := 4) (ops := F23.o4) [(0, true), (1, true), (2, false), (3, true), (4, true), (5, false), (6, true)] (by kernel_rfl) (by kernel_rfl) ?_
    refine yS (by kernel_rfl : opAt F23.o4 0 = some (some 15, .move (.tmp 0), none)) rfl rfl (fun w' hS => val_move rfl) ?_
    refine yS (by kernel_rfl : opAt F23.o4 1 = some (some 16, .move (.tmp 1), none)) rfl rfl (fun w' hS => val_move rfl) ?_
    refine cS (by kernel_rfl : opAt F23.o4 2 = some (some 17, .call { callee := .value (.func 21), args := #[(.tmp 15), (.tmp 16)], argTypes := #[23, 23] }, none)) rfl rfl (ent Try.call21 rfl) (rcommon_ok hF ha hbb hla hlb) ?_
    rintro vw3 w3 ⟨rfl, hs⟩
    refine ⟨trivial, ?_⟩
    replace hF := hF.st hs
    replace hT := hT.trans hs (by simp)
    replace ha := ha.st hs (by first | decide | (simp <;> omega))
    replace hbb := hbb.st hs (by first | decide | (simp <;> omega))
    replace hx := hx.st hs (by first | decide | (simp <;> omega))
    replace hy := hy.st hs (by first | decide | (simp <;> omega))
    refine yS (by kernel_rfl : opAt F23.o4 3 = some (some 18, .binOp .mul 3 (.const (.int .i64 2000)) (.tmp 17) 3, none)) rfl rfl (fun w' hS => val_muli rfl rfl (by omega) (by omega)) ?_
    refine yS (by kernel_rfl : opAt F23.o4 4 = some (some 19, .move (.tmp 5), none)) rfl rfl (fun w' hS => val_move rfl) ?_
    refine cS (by kernel_rfl : opAt F23.o4 5 = some (some 20, .call { callee := .value (.func 36), args := #[(.tmp 18), (.tmp 19)], argTypes := #[3, 3] }, none)) rfl rfl (ent Try.call36 rfl) (rounded_ok (by omega) (by omega) (by omega) (by omega) _) ?_
    rintro vw4 w4 ⟨rfl, rfl⟩
    refine ⟨trivial, ?_⟩
    refine yS (by kernel_rfl : opAt F23.o4 6 = some (some 4, .assign (.tmp 20), none)) rfl rfl (fun w' hS => val_assign rfl) ?_
    refine Sch.nil ?_
    refine run_ret1 (by kernel_rfl) Try.func23 Try.results23 rfl ?_
    exact ⟨by unfold diceT; rw [if_neg hz]; exact eq_int (by rw [Int.natCast_add, ← Int.mul_assoc]; rfl), hT.out1 (by decide)⟩
end Go.Proofs.Ythdkcbakiiokiaa
