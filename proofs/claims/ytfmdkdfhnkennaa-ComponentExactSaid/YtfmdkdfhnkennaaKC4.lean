/- Steps through functions of the program. -/
import Derived.Test.YtfmdkdfhnkennaaKC3
import Derived.Test.YtfmdkdfhnkennaaKCompF
set_option linter.unusedVariables false
set_option linter.unusedSimpArgs false
set_option maxRecDepth 100000
set_option maxHeartbeats 400000
namespace Go.Proofs.Ytfmdkdfhnkennaa
open Go.K Go.K.Rep

namespace F51
noncomputable def c0 : Code := bodyOf Try.f51
noncomputable def c1 : Code := cl c0
noncomputable def o0 : Array Oper := rops c1
noncomputable def c2 : Code := cr c0
noncomputable def c3 : Code := cl c2
noncomputable def c4 : Code := cl c3
noncomputable def o1 : Array Oper := rops c4
noncomputable def c5 : Code := cr c3
noncomputable def c6 : Code := cl c5
noncomputable def c7 : Code := cl c6
noncomputable def c8 : Code := cl c7
noncomputable def o2 : Array Oper := rops c8
noncomputable def c9 : Code := cr c7
noncomputable def c10 : Code := cl c9
noncomputable def c11 : Code := cl c10
noncomputable def c12 : Code := cr c10
noncomputable def c13 : Code := cr c9
noncomputable def c14 : Code := cl c13
noncomputable def c15 : Code := cl c14
noncomputable def c16 : Code := cl c15
noncomputable def o3 : Array Oper := rops c16
noncomputable def c17 : Code := cr c15
noncomputable def c18 : Code := cl c17
noncomputable def o4 : Array Oper := rops c18
noncomputable def c19 : Code := cr c17
noncomputable def c20 : Code := cl c19
noncomputable def c21 : Code := cl c20
noncomputable def o5 : Array Oper := rops c21
noncomputable def c22 : Code := cr c20
noncomputable def c23 : Code := cr c19
noncomputable def c24 : Code := cr c13
noncomputable def o6 : Array Oper := rops c24
noncomputable def c25 : Code := cr c2
noncomputable def c26 : Code := cl c25
noncomputable def o7 : Array Oper := rops c26
noncomputable def c27 : Code := cr c25
end F51
/-- 'slices.Index'. -/
theorem index_ok {w₀ : World} {C : Nat → Nat} {l : List Couple} {c : Couple} {vl : Value} (hF : Lim w₀ C) (hl : RV w₀ (Mc C) l vl) : Calls Try.prog 51 #[vl, .agg #[.int .i64 c.a, .int .i64 c.b]] w₀ (Ret fun v w' => v = .int .i64 (idxOf (fun x => decide (c = x)) l) ∧ Stp [] w₀ C w' C) := by
  have hF0 := hF
  have hT := Stp.refl [2, 3, 4, 5, 6, 7, 8, 9] w₀ (col1 C)
  replace hF := hF.col1
  replace hl : RV w₀ (Mc (col1 C)) l vl := by rw [Mc_col1]; exact hl
  refine calls_start (c := F51.c0) (N := 19) [vl, .agg #[.int .i64 c.a, .int .i64 c.b]] Try.func51 (by kernel_rfl) (by kernel_rfl) (by kernel_rfl) ?_
  show Run _ _ _ _ [(0, vl), (1, .agg #[.int .i64 c.a, .int .i64 c.b])] _ _
  refine run_seq (x := F51.c1) (y := F51.c2) (by kernel_rfl) ?_
  refine run_plain (id := 0) (ops := F51.o0) [(0, false), (1, true)] (by kernel_rfl) (by kernel_rfl) ?_
  refine aS (by kernel_rfl : opAt F51.o0 0 = some (some 3, .box 25 (.tmp 1), none)) rfl rfl (a_box (cs := [.int .i64 c.a, .int .i64 c.b]) hF 3 rfl rfl) ?_
  rintro _ w1 ⟨Cw1, bw1, rfl, hs, hx, hF⟩
  refine ⟨trivial, ?_⟩
  replace hT := hT.trans hs (by simp)
  replace hl := hl.st hs (by first | decide | (simp <;> omega))
  refine yS (by kernel_rfl : opAt F51.o0 1 = some (some 4, .assign (.const (.int .i64 0)), none)) rfl rfl (fun w' hS => val_assign rfl) ?_
  refine Sch.nil ?_
  refine run_seq (x := F51.c3) (y := F51.c25) (by kernel_rfl) ?_
  refine run_seq (x := F51.c4) (y := F51.c5) (by kernel_rfl) ?_
  refine run_plain (id := 1) (ops := F51.o1) [(0, true), (1, true), (2, true)] (by kernel_rfl) (by kernel_rfl) ?_
  refine yS (by kernel_rfl : opAt F51.o1 0 = some (some 6, .move (.tmp 0), none)) rfl rfl (fun w' hS => val_move rfl) ?_
  refine yS (by kernel_rfl : opAt F51.o1 1 = some (some 7, .call { callee := .builtin .len, args := #[(.tmp 6)], argTypes := #[38] }, none)) rfl rfl (fun w' hS => hl.lenV rfl Try.underlying38 w' ) ?_
  refine yS (by kernel_rfl : opAt F51.o1 2 = some (some 8, .move (.const (.int .i64 0)), none)) rfl rfl (fun w' hS => val_move rfl) ?_
  refine Sch.nil ?_
  refine run_block (x := F51.c6) (id := 0) (by kernel_rfl) ?_
  
  refine run_loop (ι := Nat × (Nat → Nat)) (I := fun x w => x.1 ≤ l.length ∧ (∀ i (hi : i < x.1) (hl : i < l.length), decide (c = l[i]) = false) ∧ Lim w x.2 ∧ Stp [2, 3, 4, 5, 6, 7, 8, 9] w₀ (col1 C) w x.2 ∧ RV w (Mc x.2) l vl ∧ OwnB w x.2 3 bw1 (.cells [.int .i64 c.a, .int .i64 c.b].toArray 25)) (e := fun x => [(0, vl), (3, .pointer (some ⟨bw1, 0, none⟩)), (7, .int .i64 l.length), (8, .int .i64 x.1)]) (m := fun x => l.length - x.1) (x₀ := (0, Cw1)) (body := F51.c7) (by kernel_rfl) (sub_cons 0 rfl rfl (sub_cons 3 rfl rfl (sub_cons 7 rfl rfl (sub_cons 8 rfl rfl (sub_nil _))))) ?_ ?_
  · exact ⟨Nat.zero_le _, fun i hi _ => by simp only at hi; omega, hF, hT, hl, hx⟩
  intro ⟨k, C1⟩ w2 hI next
  obtain ⟨hk, h0, hF, hT, hl, hx⟩ := hI
  try simp only at hk h0 hF hT hl hx
  have next1 := next
  clear next
  show Run _ _ _ _ [(0, vl), (3, .pointer (some ⟨bw1, 0, none⟩)), (7, .int .i64 l.length), (8, .int .i64 k)] _ _
  have hle := hl.le
  refine run_seq (x := F51.c8) (y := F51.c9) (by kernel_rfl) ?_
  refine run_plain (id := 2) (ops := F51.o2) [(0, true)] (by kernel_rfl) (by kernel_rfl) ?_
  refine yS (by kernel_rfl : opAt F51.o2 0 = some (some 9, .binOp .lss 3 (.tmp 8) (.tmp 7) 3, none)) rfl rfl (fun w' hS => val_lss rfl rfl) ?_
  refine Sch.nil ?_
  refine run_seq (x := F51.c10) (y := F51.c13) (by kernel_rfl) ?_
  refine run_if (x := F51.c11) (y := F51.c12) (o := .tmp 9) (by kernel_rfl) rfl (fun h9 => ?_) (fun h9 => ?_)
  · skip
    have hkl : k < l.length := by omega
    refine run_skip (by kernel_rfl) ?_
    refine run_seq (x := F51.c14) (y := F51.c24) (by kernel_rfl) ?_
    refine run_block (x := F51.c15) (id := 1) (by kernel_rfl) ?_
    refine run_seq (x := F51.c16) (y := F51.c17) (by kernel_rfl) ?_
    refine run_plain (id := 3) (ops := F51.o3) [(0, true), (1, true)] (by kernel_rfl) (by kernel_rfl) ?_
    refine yS (by kernel_rfl : opAt F51.o3 0 = some (some 10, .move (.tmp 8), none)) rfl rfl (fun w' hS => val_move rfl) ?_
    refine yS (by kernel_rfl : opAt F51.o3 1 = some (some 5, .assign (.tmp 10), none)) rfl rfl (fun w' hS => val_assign rfl) ?_
    refine Sch.nil ?_
    refine run_seq (x := F51.c18) (y := F51.c19) (by kernel_rfl) ?_
    refine run_draw (id := 4) (ops := F51.o4) [] (C1) [(0, true), (1, true), (2, true), (3, true), (4, true), (5, true)] Try_mixed (by kernel_rfl) (by kernel_rfl) (by kernel_rfl) ?_
    intro w3 hs
    replace hF := hF.st hs
    replace hT := hT.trans hs (by simp)
    replace hl := hl.st hs (by first | decide | (simp <;> omega))
    replace hx := hx.st hs (by first | decide | (simp <;> omega))
    refine yS (by kernel_rfl : opAt F51.o4 0 = some (some 11, .load 25 (.tmp 3), none)) rfl rfl (fun w' hS => val_loadOwnAgg (n := 2) (hx.stay hS (by decide)) (by kernel_rfl) (by kernel_rfl) rfl rfl rfl) ?_
    refine yS (by kernel_rfl : opAt F51.o4 1 = some (some 12, .move (.tmp 0), none)) rfl rfl (fun w' hS => val_move rfl) ?_
    refine yS (by kernel_rfl : opAt F51.o4 2 = some (some 13, .move (.tmp 5), none)) rfl rfl (fun w' hS => val_move rfl) ?_
    refine iS (e := 25) (by kernel_rfl : opAt F51.o4 3 = some (some 14, .indexAddr 38 (.tmp 12) (.tmp 13), none)) rfl rfl hl rfl (by kernel_rfl) rfl (by omega) (by omega) ?_
    intro b14 o14 h14
    try simp only [Int.toNat_natCast] at h14
    refine lSA (by kernel_rfl : opAt F51.o4 4 = some (some 15, .load 25 (.tmp 14), none)) rfl rfl (fun w' hS => h14.stay hS (by decide)) h14 (by kernel_rfl) (by kernel_rfl) rfl rfl ?_
    intro v15 g15
    obtain rfl := rv_couple.1 g15
    refine yS (by kernel_rfl : opAt F51.o4 5 = some (some 16, .binOp .eql 25 (.tmp 11) (.tmp 15) 25, none)) rfl rfl (fun w' hS => val_eqC (a := c) (b := _) Try.underlying25 (by decide) (by decide) (by kernel_rfl) Try.underlying3 rfl rfl) ?_
    refine Sch.nil ?_
    refine run_if (x := F51.c20) (y := F51.c23) (o := .tmp 16) (by kernel_rfl) rfl (fun h16 => ?_) (fun h16 => ?_)
    · skip
      refine run_seq (x := F51.c21) (y := F51.c22) (by kernel_rfl) ?_
      refine run_plain (id := 5) (ops := F51.o5) [(0, true), (1, true)] (by kernel_rfl) (by kernel_rfl) ?_
      refine yS (by kernel_rfl : opAt F51.o5 0 = some (some 17, .move (.tmp 5), none)) rfl rfl (fun w' hS => val_move rfl) ?_
      refine yS (by kernel_rfl : opAt F51.o5 1 = some (some 4, .assign (.tmp 17), none)) rfl rfl (fun w' hS => val_assign rfl) ?_
      refine Sch.nil ?_
      refine run_ret1 (by kernel_rfl) Try.func51 Try.results51 rfl ?_
      exact ⟨by rw [idxOf_at (p := fun x => decide (c = x)) hkl (fun i hi => h0 i hi (by omega)) (decide_eq_true h16)], hT.out1 (by decide)⟩
    · skip
      refine run_skip (by kernel_rfl) ?_
      refine run_inBlock ?_
      refine run_plain (id := 6) (ops := F51.o6) [(0, true), (1, true)] (by kernel_rfl) (by kernel_rfl) ?_
      refine yS (by kernel_rfl : opAt F51.o6 0 = some (some 18, .binOp .add 3 (.tmp 8) (.const (.int .i64 1)) 3, none)) rfl rfl (fun w' hS => val_addi rfl rfl (by omega) (by omega)) ?_
      refine yS (by kernel_rfl : opAt F51.o6 1 = some (some 8, .move (.tmp 18), none)) rfl rfl (fun w' hS => val_move rfl) ?_
      refine Sch.nil ?_
      refine kp (sub_cons 0 rfl rfl (sub_cons 3 rfl rfl (sub_cons 7 rfl rfl (sub_cons 8 rfl (eq_int (by simp)) (sub_nil _))))) (next1 (k + 1, C1) _ ⟨(by first | omega | (simp only; omega)), (fun i hi hl => by
          simp only at hi
          by_cases e : i = k
          · subst e; exact decide_eq_false h16
          · exact h0 i (by omega) hl), hF, hT, hl, hx⟩ (by first | omega | (simp only; omega)))
  · skip
    have hkl : k = l.length := by omega
    refine run_exit (id := 0) (by kernel_rfl) rfl ?_
    refine run_seq (x := F51.c26) (y := F51.c27) (by kernel_rfl) ?_
    refine run_plain (id := 7) (ops := F51.o7) [(0, true)] (by kernel_rfl) (by kernel_rfl) ?_
    refine yS (by kernel_rfl : opAt F51.o7 0 = some (some 4, .assign (.const (.int .i64 (-1))), none)) rfl rfl (fun w' hS => val_assign rfl) ?_
    refine Sch.nil ?_
    refine run_ret1 (by kernel_rfl) Try.func51 Try.results51 rfl ?_
    exact ⟨by rw [idxOf_none (p := fun x => decide (c = x)) (fun i hi => h0 i (by omega) hi)], hT.out1 (by decide)⟩
namespace F43
noncomputable def c0 : Code := bodyOf Try.f43
noncomputable def c1 : Code := cl c0
noncomputable def o0 : Array Oper := rops c1
noncomputable def c2 : Code := cr c0
noncomputable def c3 : Code := cl c2
noncomputable def o1 : Array Oper := rops c3
noncomputable def c4 : Code := cr c2
end F43
theorem contains_ok {w₀ : World} {C : Nat → Nat} {l : List Couple} {c : Couple} {vl : Value} (hF : Lim w₀ C) (hl : RV w₀ (Mc C) l vl) : Calls Try.prog 43 #[vl, .agg #[.int .i64 c.a, .int .i64 c.b]] w₀ (Ret fun v w' => v = .bool (l.any fun x => decide (c = x)) ∧ Stp [] w₀ C w' C) := by
  have hF0 := hF
  have hT := Stp.refl [2, 3, 4, 5, 6, 7, 8, 9] w₀ (col1 C)
  replace hF := hF.col1
  replace hl : RV w₀ (Mc (col1 C)) l vl := by rw [Mc_col1]; exact hl
  refine calls_start (c := F43.c0) (N := 9) [vl, .agg #[.int .i64 c.a, .int .i64 c.b]] Try.func43 (by kernel_rfl) (by kernel_rfl) (by kernel_rfl) ?_
  show Run _ _ _ _ [(0, vl), (1, .agg #[.int .i64 c.a, .int .i64 c.b])] _ _
  refine run_seq (x := F43.c1) (y := F43.c2) (by kernel_rfl) ?_
  refine run_plain (id := 0) (ops := F43.o0) [(0, false), (1, true)] (by kernel_rfl) (by kernel_rfl) ?_
  refine aS (by kernel_rfl : opAt F43.o0 0 = some (some 3, .box 25 (.tmp 1), none)) rfl rfl (a_box (cs := [.int .i64 c.a, .int .i64 c.b]) hF 3 rfl rfl) ?_
  rintro _ w1 ⟨Cw1, bw1, rfl, hs, hx, hF⟩
  refine ⟨trivial, ?_⟩
  replace hT := hT.trans hs (by simp)
  replace hl := hl.st hs (by first | decide | (simp <;> omega))
  refine yS (by kernel_rfl : opAt F43.o0 1 = some (some 4, .assign (.const (.bool false)), none)) rfl rfl (fun w' hS => val_assign rfl) ?_
  refine Sch.nil ?_
  refine run_seq (x := F43.c3) (y := F43.c4) (by kernel_rfl) ?_
  refine run_plain (id := 1) (ops := F43.o1) [(0, true), (1, false), (2, false), (3, true), (4, true)] (by kernel_rfl) (by kernel_rfl) ?_
  refine yS (by kernel_rfl : opAt F43.o1 0 = some (some 5, .move (.tmp 0), none)) rfl rfl (fun w' hS => val_move rfl) ?_
  refine nS (by kernel_rfl : opAt F43.o1 1 = some (some 6, .load 25 (.tmp 3), none)) rfl rfl trivial (val_loadOwnAgg (n := 2) (vs := encR c) hx.at_ (by kernel_rfl) (by kernel_rfl) rfl rfl rfl) ?_
  refine cS (by kernel_rfl : opAt F43.o1 2 = some (some 7, .call { callee := .value (.func 51), args := #[(.tmp 5), (.tmp 6)], argTypes := #[38, 25] }, none)) rfl rfl (ent Try.call51 rfl) (index_ok hF hl) ?_
  rintro vw2 w2 ⟨rfl, hs⟩
  refine ⟨trivial, ?_⟩
  replace hF := hF.st hs
  replace hT := hT.trans hs (by simp)
  replace hl := hl.st hs (by first | decide | (simp <;> omega))
  replace hx := hx.st hs (by first | decide | (simp <;> omega))
  refine yS (by kernel_rfl : opAt F43.o1 3 = some (some 8, .binOp .geq 3 (.tmp 7) (.const (.int .i64 0)) 3, none)) rfl rfl (fun w' hS => val_geq rfl rfl) ?_
  refine yS (by kernel_rfl : opAt F43.o1 4 = some (some 4, .assign (.tmp 8), none)) rfl rfl (fun w' hS => val_assign rfl) ?_
  refine Sch.nil ?_
  refine run_ret1 (by kernel_rfl) Try.func43 Try.results43 rfl ?_
  exact ⟨by rw [idxOf_ge], hT.out1 (by decide)⟩
namespace F42
noncomputable def c0 : Code := bodyOf Try.f42
noncomputable def c1 : Code := cl c0
noncomputable def o0 : Array Oper := rops c1
noncomputable def c2 : Code := cr c0
noncomputable def c3 : Code := cl c2
noncomputable def o1 : Array Oper := rops c3
noncomputable def c4 : Code := cr c2
end F42
theorem findIn_ok {w₀ : World} {C : Nat → Nat} {l : List Couple} {c : Couple} {vl : Value} {b j : Nat} (hj : j ≠ 0) (hF : Lim w₀ C) (hx : OwnB w₀ C j b (.cells [.int .i64 c.a, .int .i64 c.b].toArray 25)) (hl : RV w₀ (Mc C) l vl) : Calls Try.prog 42 #[vl, .pointer (some ⟨b, 0, none⟩)] w₀ (Ret fun v w' => v = .bool (l.any fun x => decide (c = x)) ∧ Stp [] w₀ C w' C) := by
  have hF0 := hF
  have hT := Stp.refl [2, 3, 4, 5, 6, 7, 8, 9] w₀ (col1 C)
  replace hF := hF.col1
  replace hx : OwnB w₀ (col1 C) 1 b (.cells [.int .i64 c.a, .int .i64 c.b].toArray 25) := ⟨by unfold K.col1; rw [if_neg (by rw [hx.col]; exact hj)], hx.at_⟩
  replace hl : RV w₀ (Mc (col1 C)) l vl := by rw [Mc_col1]; exact hl
  refine calls_start (c := F42.c0) (N := 7) [vl, .pointer (some ⟨b, 0, none⟩)] Try.func42 (by kernel_rfl) (by kernel_rfl) (by kernel_rfl) ?_
  show Run _ _ _ _ [(0, vl), (1, .pointer (some ⟨b, 0, none⟩))] _ _
  refine run_seq (x := F42.c1) (y := F42.c2) (by kernel_rfl) ?_
  refine run_plain (id := 0) (ops := F42.o0) [(0, true)] (by kernel_rfl) (by kernel_rfl) ?_
  refine yS (by kernel_rfl : opAt F42.o0 0 = some (some 3, .assign (.const (.bool false)), none)) rfl rfl (fun w' hS => val_assign rfl) ?_
  refine Sch.nil ?_
  refine run_seq (x := F42.c3) (y := F42.c4) (by kernel_rfl) ?_
  refine run_plain (id := 1) (ops := F42.o1) [(0, true), (1, false), (2, false), (3, true)] (by kernel_rfl) (by kernel_rfl) ?_
  refine yS (by kernel_rfl : opAt F42.o1 0 = some (some 4, .move (.tmp 0), none)) rfl rfl (fun w' hS => val_move rfl) ?_
  refine nS (by kernel_rfl : opAt F42.o1 1 = some (some 5, .load 25 (.tmp 1), none)) rfl rfl trivial (val_loadOwnAgg (n := 2) (vs := encR c) hx.at_ (by kernel_rfl) (by kernel_rfl) rfl rfl rfl) ?_
  refine cS (by kernel_rfl : opAt F42.o1 2 = some (some 6, .call { callee := .value (.func 43), args := #[(.tmp 4), (.tmp 5)], argTypes := #[38, 25] }, none)) rfl rfl (ent Try.call43 rfl) (contains_ok hF hl) ?_
  rintro vw1 w1 ⟨rfl, hs⟩
  refine ⟨trivial, ?_⟩
  replace hF := hF.st hs
  replace hT := hT.trans hs (by simp)
  replace hl := hl.st hs (by first | decide | (simp <;> omega))
  replace hx := hx.st hs (by first | decide | (simp <;> omega))
  refine yS (by kernel_rfl : opAt F42.o1 3 = some (some 3, .assign (.tmp 6), none)) rfl rfl (fun w' hS => val_assign rfl) ?_
  refine Sch.nil ?_
  refine run_ret1 (by kernel_rfl) Try.func42 Try.results42 rfl ?_
  exact ⟨rfl, hT.out1 (by decide)⟩
namespace F41
noncomputable def c0 : Code := bodyOf Try.f41
noncomputable def c1 : Code := cl c0
noncomputable def o0 : Array Oper := rops c1
noncomputable def c2 : Code := cr c0
noncomputable def c3 : Code := cl c2
noncomputable def c4 : Code := cl c3
noncomputable def o1 : Array Oper := rops c4
noncomputable def c5 : Code := cr c3
noncomputable def c6 : Code := cl c5
noncomputable def c7 : Code := cl c6
noncomputable def c8 : Code := cl c7
noncomputable def o2 : Array Oper := rops c8
noncomputable def c9 : Code := cr c7
noncomputable def c10 : Code := cl c9
noncomputable def c11 : Code := cl c10
noncomputable def c12 : Code := cr c10
noncomputable def c13 : Code := cr c9
noncomputable def c14 : Code := cl c13
noncomputable def c15 : Code := cl c14
noncomputable def c16 : Code := cl c15
noncomputable def o3 : Array Oper := rops c16
noncomputable def c17 : Code := cr c15
noncomputable def c18 : Code := cl c17
noncomputable def o4 : Array Oper := rops c18
noncomputable def c19 : Code := cr c17
noncomputable def c20 : Code := cl c19
noncomputable def c21 : Code := cl c20
noncomputable def o5 : Array Oper := rops c21
noncomputable def c22 : Code := cr c20
noncomputable def c23 : Code := cr c19
noncomputable def c24 : Code := cr c13
noncomputable def o6 : Array Oper := rops c24
noncomputable def c25 : Code := cr c2
noncomputable def c26 : Code := cl c25
noncomputable def o7 : Array Oper := rops c26
noncomputable def c27 : Code := cr c25
end F41
theorem indexFunc_ok {w₀ : World} {C : Nat → Nat} {l : List (List Couple)} {c : Couple} {vl : Value} {b j : Nat} (hj : j ≠ 0) (hF : Lim w₀ C) (hx : OwnB w₀ C j b (.cells [.int .i64 c.a, .int .i64 c.b].toArray 25)) (hl : RV w₀ (Mc C) l vl) : Calls Try.prog 41 #[vl, .func (.func 42) #[] #[.pointer (some ⟨b, 0, none⟩)]] w₀ (Ret fun v w' => v = .int .i64 (findS l c) ∧ Stp [] w₀ C w' C) := by
  have hF0 := hF
  have hT := Stp.refl [2, 3, 4, 5, 6, 7, 8, 9] w₀ (col1 C)
  replace hF := hF.col1
  replace hx : OwnB w₀ (col1 C) 1 b (.cells [.int .i64 c.a, .int .i64 c.b].toArray 25) := ⟨by unfold K.col1; rw [if_neg (by rw [hx.col]; exact hj)], hx.at_⟩
  replace hl : RV w₀ (Mc (col1 C)) l vl := by rw [Mc_col1]; exact hl
  refine calls_start (c := F41.c0) (N := 19) [vl, .func (.func 42) #[] #[.pointer (some ⟨b, 0, none⟩)]] Try.func41 (by kernel_rfl) (by kernel_rfl) (by kernel_rfl) ?_
  show Run _ _ _ _ [(0, vl), (1, .func (.func 42) #[] #[.pointer (some ⟨b, 0, none⟩)])] _ _
  refine run_seq (x := F41.c1) (y := F41.c2) (by kernel_rfl) ?_
  refine run_plain (id := 0) (ops := F41.o0) [(0, true)] (by kernel_rfl) (by kernel_rfl) ?_
  refine yS (by kernel_rfl : opAt F41.o0 0 = some (some 4, .assign (.const (.int .i64 0)), none)) rfl rfl (fun w' hS => val_assign rfl) ?_
  refine Sch.nil ?_
  refine run_seq (x := F41.c3) (y := F41.c25) (by kernel_rfl) ?_
  refine run_seq (x := F41.c4) (y := F41.c5) (by kernel_rfl) ?_
  refine run_plain (id := 1) (ops := F41.o1) [(0, true), (1, true), (2, true)] (by kernel_rfl) (by kernel_rfl) ?_
  refine yS (by kernel_rfl : opAt F41.o1 0 = some (some 6, .move (.tmp 0), none)) rfl rfl (fun w' hS => val_move rfl) ?_
  refine yS (by kernel_rfl : opAt F41.o1 1 = some (some 7, .call { callee := .builtin .len, args := #[(.tmp 6)], argTypes := #[26] }, none)) rfl rfl (fun w' hS => hl.lenV rfl Try.underlying26 w' ) ?_
  refine yS (by kernel_rfl : opAt F41.o1 2 = some (some 8, .move (.const (.int .i64 0)), none)) rfl rfl (fun w' hS => val_move rfl) ?_
  refine Sch.nil ?_
  refine run_block (x := F41.c6) (id := 0) (by kernel_rfl) ?_
  
  refine run_loop (ι := Nat × (Nat → Nat)) (I := fun x w => x.1 ≤ l.length ∧ (∀ i (hi : i < x.1) (hl : i < l.length), (l[i].any fun x => decide (c = x)) = false) ∧ Lim w x.2 ∧ Stp [2, 3, 4, 5, 6, 7, 8, 9] w₀ (col1 C) w x.2 ∧ RV w (Mc x.2) l vl ∧ OwnB w x.2 1 b (.cells [.int .i64 c.a, .int .i64 c.b].toArray 25)) (e := fun x => [(0, vl), (1, .func (.func 42) #[] #[.pointer (some ⟨b, 0, none⟩)]), (7, .int .i64 l.length), (8, .int .i64 x.1)]) (m := fun x => l.length - x.1) (x₀ := (0, col1 C)) (body := F41.c7) (by kernel_rfl) (sub_cons 0 rfl rfl (sub_cons 1 rfl rfl (sub_cons 7 rfl rfl (sub_cons 8 rfl rfl (sub_nil _))))) ?_ ?_
  · exact ⟨Nat.zero_le _, fun i hi _ => by simp only at hi; omega, hF, hT, hl, hx⟩
  intro ⟨k, C1⟩ w1 hI next
  obtain ⟨hk, h0, hF, hT, hl, hx⟩ := hI
  try simp only at hk h0 hF hT hl hx
  have next1 := next
  clear next
  show Run _ _ _ _ [(0, vl), (1, .func (.func 42) #[] #[.pointer (some ⟨b, 0, none⟩)]), (7, .int .i64 l.length), (8, .int .i64 k)] _ _
  have hle := hl.le
  refine run_seq (x := F41.c8) (y := F41.c9) (by kernel_rfl) ?_
  refine run_plain (id := 2) (ops := F41.o2) [(0, true)] (by kernel_rfl) (by kernel_rfl) ?_
  refine yS (by kernel_rfl : opAt F41.o2 0 = some (some 9, .binOp .lss 3 (.tmp 8) (.tmp 7) 3, none)) rfl rfl (fun w' hS => val_lss rfl rfl) ?_
  refine Sch.nil ?_
  refine run_seq (x := F41.c10) (y := F41.c13) (by kernel_rfl) ?_
  refine run_if (x := F41.c11) (y := F41.c12) (o := .tmp 9) (by kernel_rfl) rfl (fun h9 => ?_) (fun h9 => ?_)
  · skip
    have hkl : k < l.length := by omega
    refine run_skip (by kernel_rfl) ?_
    refine run_seq (x := F41.c14) (y := F41.c24) (by kernel_rfl) ?_
    refine run_block (x := F41.c15) (id := 1) (by kernel_rfl) ?_
    refine run_seq (x := F41.c16) (y := F41.c17) (by kernel_rfl) ?_
    refine run_plain (id := 3) (ops := F41.o3) [(0, true), (1, true)] (by kernel_rfl) (by kernel_rfl) ?_
    refine yS (by kernel_rfl : opAt F41.o3 0 = some (some 10, .move (.tmp 8), none)) rfl rfl (fun w' hS => val_move rfl) ?_
    refine yS (by kernel_rfl : opAt F41.o3 1 = some (some 5, .assign (.tmp 10), none)) rfl rfl (fun w' hS => val_assign rfl) ?_
    refine Sch.nil ?_
    refine run_seq (x := F41.c18) (y := F41.c19) (by kernel_rfl) ?_
    refine run_plain (id := 4) (ops := F41.o4) [(0, true), (1, true), (2, true), (3, true), (4, false), (5, false)] (by kernel_rfl) (by kernel_rfl) ?_
    refine yS (by kernel_rfl : opAt F41.o4 0 = some (some 11, .move (.tmp 1), none)) rfl rfl (fun w' hS => val_move rfl) ?_
    refine yS (by kernel_rfl : opAt F41.o4 1 = some (some 12, .move (.tmp 0), none)) rfl rfl (fun w' hS => val_move rfl) ?_
    refine yS (by kernel_rfl : opAt F41.o4 2 = some (some 13, .move (.tmp 5), none)) rfl rfl (fun w' hS => val_move rfl) ?_
    refine iS (e := 38) (by kernel_rfl : opAt F41.o4 3 = some (some 14, .indexAddr 26 (.tmp 12) (.tmp 13), none)) rfl rfl hl rfl (by kernel_rfl) rfl (by omega) (by omega) ?_
    intro b14 o14 h14
    try simp only [Int.toNat_natCast] at h14
    refine lN (by kernel_rfl : opAt F41.o4 4 = some (some 15, .load 38 (.tmp 14), none)) rfl rfl trivial h14 (by kernel_rfl) rfl rfl ?_
    intro v15 g15
    refine cS (by kernel_rfl : opAt F41.o4 5 = some (some 16, .call { callee := .value (.tmp 11), args := #[(.tmp 15)], argTypes := #[38] }, none)) rfl rfl (enters_func Try.call42 rfl rfl) (findIn_ok (by decide) hF hx g15) ?_
    rintro vw2 w2 ⟨rfl, hs⟩
    refine ⟨trivial, ?_⟩
    replace hF := hF.st hs
    replace hT := hT.trans hs (by simp)
    replace hl := hl.st hs (by first | decide | (simp <;> omega))
    replace hx := hx.st hs (by first | decide | (simp <;> omega))
    replace h14 := h14.st hs (by first | decide | (simp <;> omega))
    replace g15 := g15.st hs (by first | decide | (simp <;> omega))
    refine Sch.nil ?_
    refine run_cond (x := F41.c20) (y := F41.c23) (o := .tmp 16) (by kernel_rfl) rfl (fun h16 => ?_) (fun h16 => ?_)
    · skip
      refine run_seq (x := F41.c21) (y := F41.c22) (by kernel_rfl) ?_
      refine run_plain (id := 5) (ops := F41.o5) [(0, true), (1, true)] (by kernel_rfl) (by kernel_rfl) ?_
      refine yS (by kernel_rfl : opAt F41.o5 0 = some (some 17, .move (.tmp 5), none)) rfl rfl (fun w' hS => val_move rfl) ?_
      refine yS (by kernel_rfl : opAt F41.o5 1 = some (some 4, .assign (.tmp 17), none)) rfl rfl (fun w' hS => val_assign rfl) ?_
      refine Sch.nil ?_
      refine run_ret1 (by kernel_rfl) Try.func41 Try.results41 rfl ?_
      exact ⟨by unfold findS; rw [idxOf_at hkl (fun i hi => h0 i hi (by omega)) h16], hT.out1 (by decide)⟩
    · skip
      refine run_skip (by kernel_rfl) ?_
      refine run_inBlock ?_
      refine run_plain (id := 6) (ops := F41.o6) [(0, true), (1, true)] (by kernel_rfl) (by kernel_rfl) ?_
      refine yS (by kernel_rfl : opAt F41.o6 0 = some (some 18, .binOp .add 3 (.tmp 8) (.const (.int .i64 1)) 3, none)) rfl rfl (fun w' hS => val_addi rfl rfl (by omega) (by omega)) ?_
      refine yS (by kernel_rfl : opAt F41.o6 1 = some (some 8, .move (.tmp 18), none)) rfl rfl (fun w' hS => val_move rfl) ?_
      refine Sch.nil ?_
      refine kp (sub_cons 0 rfl rfl (sub_cons 1 rfl rfl (sub_cons 7 rfl rfl (sub_cons 8 rfl (eq_int (by simp)) (sub_nil _))))) (next1 (k + 1, C1) _ ⟨(by first | omega | (simp only; omega)), (fun i hi hl => by
          simp only at hi
          by_cases e : i = k
          · subst e; exact h16
          · exact h0 i (by omega) hl), hF, hT, hl, hx⟩ (by first | omega | (simp only; omega)))
  · skip
    have hkl : k = l.length := by omega
    refine run_exit (id := 0) (by kernel_rfl) rfl ?_
    refine run_seq (x := F41.c26) (y := F41.c27) (by kernel_rfl) ?_
    refine run_plain (id := 7) (ops := F41.o7) [(0, true)] (by kernel_rfl) (by kernel_rfl) ?_
    refine yS (by kernel_rfl : opAt F41.o7 0 = some (some 4, .assign (.const (.int .i64 (-1))), none)) rfl rfl (fun w' hS => val_assign rfl) ?_
    refine Sch.nil ?_
    refine run_ret1 (by kernel_rfl) Try.func41 Try.results41 rfl ?_
    exact ⟨by unfold findS; rw [idxOf_none (fun i hi => h0 i (by omega) hi)], hT.out1 (by decide)⟩
namespace F22
noncomputable def c0 : Code := bodyOf Try.f22
noncomputable def c1 : Code := cl c0
noncomputable def o0 : Array Oper := rops c1
noncomputable def c2 : Code := cr c0
noncomputable def c3 : Code := cl c2
noncomputable def o1 : Array Oper := rops c3
noncomputable def c4 : Code := cr c2
end F22
/-- 'Find'. -/
theorem find_ok {w₀ : World} {C : Nat → Nat} {l : List (List Couple)} {c : Couple} {vl : Value} (hF : Lim w₀ C) (hl : RV w₀ (Mc C) l vl) : Calls Try.prog 22 #[vl, .agg #[.int .i64 c.a, .int .i64 c.b]] w₀ (Ret fun v w' => v = .int .i64 (findS l c) ∧ Stp [] w₀ C w' C) := by
  have hF0 := hF
  have hT := Stp.refl [2, 3, 4, 5, 6, 7, 8, 9] w₀ (col1 C)
  replace hF := hF.col1
  replace hl : RV w₀ (Mc (col1 C)) l vl := by rw [Mc_col1]; exact hl
  refine calls_start (c := F22.c0) (N := 8) [vl, .agg #[.int .i64 c.a, .int .i64 c.b]] Try.func22 (by kernel_rfl) (by kernel_rfl) (by kernel_rfl) ?_
  show Run _ _ _ _ [(0, vl), (1, .agg #[.int .i64 c.a, .int .i64 c.b])] _ _
  refine run_seq (x := F22.c1) (y := F22.c2) (by kernel_rfl) ?_
  refine run_plain (id := 0) (ops := F22.o0) [(0, false), (1, true)] (by kernel_rfl) (by kernel_rfl) ?_
  refine aS (by kernel_rfl : opAt F22.o0 0 = some (some 3, .box 25 (.tmp 1), none)) rfl rfl (a_box (cs := [.int .i64 c.a, .int .i64 c.b]) hF 3 rfl rfl) ?_
  rintro _ w1 ⟨Cw1, bw1, rfl, hs, hx, hF⟩
  refine ⟨trivial, ?_⟩
  replace hT := hT.trans hs (by simp)
  replace hl := hl.st hs (by first | decide | (simp <;> omega))
  refine yS (by kernel_rfl : opAt F22.o0 1 = some (some 4, .assign (.const (.int .i64 0)), none)) rfl rfl (fun w' hS => val_assign rfl) ?_
  refine Sch.nil ?_
  refine run_seq (x := F22.c3) (y := F22.c4) (by kernel_rfl) ?_
  refine run_plain (id := 1) (ops := F22.o1) [(0, true), (1, true), (2, false), (3, true)] (by kernel_rfl) (by kernel_rfl) ?_
  refine yS (by kernel_rfl : opAt F22.o1 0 = some (some 5, .move (.tmp 0), none)) rfl rfl (fun w' hS => val_move rfl) ?_
  refine yS (by kernel_rfl : opAt F22.o1 1 = some (some 6, .makeFunc (.func 42) #[] #[(.tmp 3)], none)) rfl rfl (fun w' hS => val_makeFunc rfl rfl) ?_
  refine cS (by kernel_rfl : opAt F22.o1 2 = some (some 7, .call { callee := .value (.func 41), args := #[(.tmp 5), (.tmp 6)], argTypes := #[26, 75] }, none)) rfl rfl (ent Try.call41 rfl) (indexFunc_ok (by decide) hF hx hl) ?_
  rintro vw2 w2 ⟨rfl, hs⟩
  refine ⟨trivial, ?_⟩
  replace hF := hF.st hs
  replace hT := hT.trans hs (by simp)
  replace hl := hl.st hs (by first | decide | (simp <;> omega))
  replace hx := hx.st hs (by first | decide | (simp <;> omega))
  refine yS (by kernel_rfl : opAt F22.o1 3 = some (some 4, .assign (.tmp 7), none)) rfl rfl (fun w' hS => val_assign rfl) ?_
  refine Sch.nil ?_
  refine run_ret1 (by kernel_rfl) Try.func22 Try.results22 rfl ?_
  exact ⟨rfl, hT.out1 (by decide)⟩
end Go.Proofs.Ytfmdkdfhnkennaa

