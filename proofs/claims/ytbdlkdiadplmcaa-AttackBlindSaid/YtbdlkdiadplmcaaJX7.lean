/- Steps through functions of the program. -/
import Derived.Test.YtbdlkdiadplmcaaJX6
set_option linter.unusedVariables false
set_option linter.unusedSimpArgs false
set_option maxRecDepth 100000
set_option maxHeartbeats 4000000
namespace Go.Proofs.Ytbdlkdiadplmcaa
open Go.K Go.K.Rep

namespace F44
noncomputable def c0 : Code := bodyOf Try.f44
noncomputable def c1 : Code := cl c0
noncomputable def o0 : Array Oper := rops c1
noncomputable def c2 : Code := cr c0
noncomputable def c3 : Code := cl c2
noncomputable def c4 : Code := cl c3
noncomputable def o1 : Array Oper := rops c4
noncomputable def c5 : Code := cr c3
noncomputable def c6 : Code := cl c5
noncomputable def c7 : Code := cl c6
noncomputable def o2 : Array Oper := rops c7
noncomputable def c8 : Code := cr c6
noncomputable def c9 : Code := cr c5
noncomputable def c10 : Code := cr c2
noncomputable def c11 : Code := cl c10
noncomputable def o3 : Array Oper := rops c11
noncomputable def c12 : Code := cr c10
end F44
theorem cloneB_ok {w₀ : World} {C : Nat → Nat} {xs : List Bits} {px : Value} (hF : Lim w₀ C) (hw : RV w₀ (Mc C) xs px) (hne : xs ≠ []) (hlen : xs.length ≤ 1000000) (j : Nat) (hj : j ≠ 0) : Calls Try.prog 44 #[px] w₀ (Ret fun v w' => ∃ C', Stp [] w₀ C w' C' ∧ Lim w' C' ∧ OwnL w' C' j 33 v xs) := by
  have hF0 := hF
  have hT := Stp.refl [2, 3, 4, 5, 6, 7, 8, 9] w₀ (col1 C)
  replace hF := hF.col1
  replace hw : RV w₀ (Mc (col1 C)) xs px := by rw [Mc_col1]; exact hw
  obtain ⟨a0, c0, he0, _, _, hs0⟩ := rv_list.1 hw
  obtain ⟨b0, rfl⟩ : ∃ b, a0 = some b := by
    rcases hs0 with h | ⟨b, o, rfl, _⟩
    · exact absurd h hne
    · exact ⟨_, rfl⟩
  clear hs0
  refine calls_start (c := F44.c0) (N := 8) [px] Try.func44 (by kernel_rfl) (by kernel_rfl) (by kernel_rfl) ?_
  show Run _ _ _ _ [(0, px)] _ _
  refine run_seq (x := F44.c1) (y := F44.c2) (by kernel_rfl) ?_
  refine run_plain (id := 0) (ops := F44.o0) [(0, true)] (by kernel_rfl) (by kernel_rfl) ?_
  refine yS (by kernel_rfl : opAt F44.o0 0 = some (some 2, .assign (.const (.slice none 0 0)), none)) rfl rfl (fun w' hS => val_assign rfl) ?_
  refine Sch.nil ?_
  refine run_seq (x := F44.c3) (y := F44.c10) (by kernel_rfl) ?_
  refine run_seq (x := F44.c4) (y := F44.c5) (by kernel_rfl) ?_
  refine run_plain (id := 1) (ops := F44.o1) [(0, true), (1, true)] (by kernel_rfl) (by kernel_rfl) ?_
  refine yS (by kernel_rfl : opAt F44.o1 0 = some (some 3, .move (.tmp 0), none)) rfl rfl (fun w' hS => val_move rfl) ?_
  refine yS (by kernel_rfl : opAt F44.o1 1 = some (some 4, .binOp .eql 27 (.tmp 3) (.const (.slice none 0 0)) 27, none)) rfl rfl (fun w' hS => val_eqNilS ((show _ = some px from rfl).trans (congrArg some he0)) Try.underlying27) ?_
  refine Sch.nil ?_
  refine run_cond (x := F44.c6) (y := F44.c9) (o := .tmp 4) (b := false) (by kernel_rfl) rfl (fun h => by cases h) (fun _ => ?_)
  refine run_skip (by kernel_rfl) ?_
  refine run_seq (x := F44.c11) (y := F44.c12) (by kernel_rfl) ?_
  refine run_plain (id := 3) (ops := F44.o3) [(0, false), (1, true), (2, false), (3, true)] (by kernel_rfl) (by kernel_rfl) ?_
  refine aS (by kernel_rfl : opAt F44.o3 0 = some (some 5, .buildSlice 27 0 #[], none)) rfl rfl (a_buildEmptyN (n := 2) (e := 33) (bytes := 32) hF (by kernel_rfl)) ?_
  rintro _ w1 ⟨⟨a5, rfl⟩, hs, hF⟩
  refine ⟨trivial, ?_⟩
  replace hT := hT.trans hs (by simp)
  replace hw := hw.st hs (by first | decide | (simp <;> omega))
  refine yS (by kernel_rfl : opAt F44.o3 1 = some (some 6, .move (.tmp 0), none)) rfl rfl (fun w' hS => val_move rfl) ?_
  refine aS (by kernel_rfl : opAt F44.o3 2 = some (some 7, .call { callee := .builtin .append, args := #[(.tmp 5), (.tmp 6)], argTypes := #[27, 27] }, none)) rfl rfl (a_appendR (j := 5) (e := 33) (bytes := 32) (ys := ([] : List Bits)) hF (by decide) rfl rfl (by kernel_rfl) (by decide) rv_empty hw hne (by simp only [List.length_nil]; omega) (by simp only [List.length_nil]; omega)) ?_
  rintro v7 w2 ⟨Cw2, hs, hn, hF⟩
  refine ⟨trivial, ?_⟩
  replace hT := hT.trans hs (by simp)
  replace hw := hw.st hs (by first | decide | (simp <;> omega))
  refine yS (by kernel_rfl : opAt F44.o3 3 = some (some 2, .assign (.tmp 7), none)) rfl rfl (fun w' hS => val_assign rfl) ?_
  refine Sch.nil ?_
  simp only [List.nil_append] at hn
  refine run_ret1 (by kernel_rfl) Try.func44 Try.results44 rfl ?_
  obtain ⟨Cg, hcg, hFg, hMg, hog⟩ := hn.give hT hF0 (Mc_col1 C) (fun b _ => col1_lt C (by decide) b) (by decide) j hj
  exact ⟨Cg, (hT.out1 (by decide)).give hcg, hFg, hog⟩
namespace F45
noncomputable def c0 : Code := bodyOf Try.f45
noncomputable def c1 : Code := cl c0
noncomputable def o0 : Array Oper := rops c1
noncomputable def c2 : Code := cr c0
noncomputable def c3 : Code := cl c2
noncomputable def o1 : Array Oper := rops c3
noncomputable def c4 : Code := cr c2
end F45
theorem notValid_ok {w₀ : World} {C : Nat → Nat} {x : Bits} {u : Value} (hF : Lim w₀ C) (hw : RV w₀ (Mc C) x.words u) : Calls Try.prog 45 #[.agg #[.int .i64 x.len, u]] w₀ (Ret fun v w' => v = .bool (!validB x) ∧ Stp [] w₀ C w' C) := by
  have hF0 := hF
  have hT := Stp.refl [2, 3, 4, 5, 6, 7, 8, 9] w₀ (col1 C)
  replace hF := hF.col1
  replace hw : RV w₀ (Mc (col1 C)) x.words u := by rw [Mc_col1]; exact hw
  refine calls_start (c := F45.c0) (N := 6) [.agg #[.int .i64 x.len, u]] Try.func45 (by kernel_rfl) (by kernel_rfl) (by kernel_rfl) ?_
  show Run _ _ _ _ [(0, .agg #[.int .i64 x.len, u])] _ _
  refine run_seq (x := F45.c1) (y := F45.c2) (by kernel_rfl) ?_
  refine run_plain (id := 0) (ops := F45.o0) [(0, false), (1, true)] (by kernel_rfl) (by kernel_rfl) ?_
  refine aS (by kernel_rfl : opAt F45.o0 0 = some (some 1, .box 33 (.tmp 0), none)) rfl rfl (a_box (cs := [.int .i64 x.len, u]) hF 3 rfl rfl) ?_
  rintro _ w1 ⟨Cw1, bw1, rfl, hs, hx, hF⟩
  refine ⟨trivial, ?_⟩
  replace hT := hT.trans hs (by simp)
  replace hw := hw.st hs (by first | decide | (simp <;> omega))
  refine yS (by kernel_rfl : opAt F45.o0 1 = some (some 2, .assign (.const (.bool false)), none)) rfl rfl (fun w' hS => val_assign rfl) ?_
  refine Sch.nil ?_
  refine run_seq (x := F45.c3) (y := F45.c4) (by kernel_rfl) ?_
  refine run_plain (id := 1) (ops := F45.o1) [(0, false), (1, false), (2, true), (3, true)] (by kernel_rfl) (by kernel_rfl) ?_
  refine nS (by kernel_rfl : opAt F45.o1 0 = some (some 3, .load 33 (.tmp 1), none)) rfl rfl trivial (val_loadOwnAgg (n := 2) (vs := [.int .i64 x.len, u]) hx.at_ (by kernel_rfl) (by kernel_rfl) rfl rfl rfl) ?_
  refine cS (by kernel_rfl : opAt F45.o1 1 = some (some 4, .call { callee := .value (.func 29), args := #[(.tmp 3)], argTypes := #[33] }, none)) rfl rfl (ent Try.call29 rfl) (valid_ok hF hw) ?_
  rintro vw2 w2 ⟨rfl, hs⟩
  refine ⟨trivial, ?_⟩
  replace hF := hF.st hs
  replace hT := hT.trans hs (by simp)
  replace hw := hw.st hs (by first | decide | (simp <;> omega))
  replace hx := hx.st hs (by first | decide | (simp <;> omega))
  refine yS (by kernel_rfl : opAt F45.o1 2 = some (some 5, .unOp .not 4 (.tmp 4), none)) rfl rfl (fun w' hS => val_not rfl) ?_
  refine yS (by kernel_rfl : opAt F45.o1 3 = some (some 2, .assign (.tmp 5), none)) rfl rfl (fun w' hS => val_assign rfl) ?_
  refine Sch.nil ?_
  refine run_ret1 (by kernel_rfl) Try.func45 Try.results45 rfl ?_
  exact ⟨rfl, hT.out1 (by decide)⟩
namespace F57
noncomputable def c0 : Code := bodyOf Try.f57
noncomputable def c1 : Code := cl c0
noncomputable def o0 : Array Oper := rops c1
noncomputable def c2 : Code := cr c0
noncomputable def c3 : Code := cl c2
noncomputable def c4 : Code := cl c3
noncomputable def o1 : Array Oper := rops c4
noncomputable def c5 : Code := cr c3
noncomputable def c6 : Code := cl c5
noncomputable def c7 : Code := cl c6
noncomputable def c8 : Code := cl c7
noncomputable def o2 : Array Oper := rops c8
noncomputable def c9 : Code := cr c7
noncomputable def c10 : Code := cl c9
noncomputable def c11 : Code := cl c10
noncomputable def c12 : Code := cr c10
noncomputable def c13 : Code := cr c9
noncomputable def c14 : Code := cl c13
noncomputable def c15 : Code := cl c14
noncomputable def c16 : Code := cl c15
noncomputable def o3 : Array Oper := rops c16
noncomputable def c17 : Code := cr c15
noncomputable def c18 : Code := cl c17
noncomputable def o4 : Array Oper := rops c18
noncomputable def c19 : Code := cr c17
noncomputable def c20 : Code := cl c19
noncomputable def c21 : Code := cl c20
noncomputable def o5 : Array Oper := rops c21
noncomputable def c22 : Code := cr c20
noncomputable def c23 : Code := cr c19
noncomputable def c24 : Code := cr c13
noncomputable def o6 : Array Oper := rops c24
noncomputable def c25 : Code := cr c2
noncomputable def c26 : Code := cl c25
noncomputable def o7 : Array Oper := rops c26
noncomputable def c27 : Code := cr c25
end F57
theorem findBad_ok {w₀ : World} {C : Nat → Nat} {cl : List Bits} {vl : Value} (hF : Lim w₀ C) (hl : RV w₀ (Mc C) cl vl) : Calls Try.prog 57 #[vl, .func (.func 45) #[] #[]] w₀ (Ret fun v w' => ∃ k : Int, v = .int .i64 k ∧ Stp [] w₀ C w' C ∧ (k = -1 ∧ (∀ i (hi : i < cl.length), validB cl[i] = true) ∨ ∃ i : Nat, k = i ∧ ∃ hi : i < cl.length, validB cl[i] = false ∧ ∀ q (hq : q < cl.length), q < i → validB cl[q] = true)) := by
  have hF0 := hF
  have hT := Stp.refl [2, 3, 4, 5, 6, 7, 8, 9] w₀ (col1 C)
  replace hF := hF.col1
  replace hl : RV w₀ (Mc (col1 C)) cl vl := by rw [Mc_col1]; exact hl
  refine calls_start (c := F57.c0) (N := 19) [vl, .func (.func 45) #[] #[]] Try.func57 (by kernel_rfl) (by kernel_rfl) (by kernel_rfl) ?_
  show Run _ _ _ _ [(0, vl), (1, .func (.func 45) #[] #[])] _ _
  refine run_seq (x := F57.c1) (y := F57.c2) (by kernel_rfl) ?_
  refine run_plain (id := 0) (ops := F57.o0) [(0, true)] (by kernel_rfl) (by kernel_rfl) ?_
  refine yS (by kernel_rfl : opAt F57.o0 0 = some (some 4, .assign (.const (.int .i64 0)), none)) rfl rfl (fun w' hS => val_assign rfl) ?_
  refine Sch.nil ?_
  refine run_seq (x := F57.c3) (y := F57.c25) (by kernel_rfl) ?_
  refine run_seq (x := F57.c4) (y := F57.c5) (by kernel_rfl) ?_
  refine run_plain (id := 1) (ops := F57.o1) [(0, true), (1, true), (2, true)] (by kernel_rfl) (by kernel_rfl) ?_
  refine yS (by kernel_rfl : opAt F57.o1 0 = some (some 6, .move (.tmp 0), none)) rfl rfl (fun w' hS => val_move rfl) ?_
  refine yS (by kernel_rfl : opAt F57.o1 1 = some (some 7, .call { callee := .builtin .len, args := #[(.tmp 6)], argTypes := #[27] }, none)) rfl rfl (fun w' hS => hl.lenV rfl Try.underlying27 w' ) ?_
  refine yS (by kernel_rfl : opAt F57.o1 2 = some (some 8, .move (.const (.int .i64 0)), none)) rfl rfl (fun w' hS => val_move rfl) ?_
  refine Sch.nil ?_
  refine run_block (x := F57.c6) (id := 0) (by kernel_rfl) ?_
  
  refine run_loop (ι := Nat × (Nat → Nat)) (I := fun x w => x.1 ≤ cl.length ∧ (∀ i (hi : i < cl.length), i < x.1 → validB cl[i] = true) ∧ Lim w x.2 ∧ Stp [2, 3, 4, 5, 6, 7, 8, 9] w₀ (col1 C) w x.2 ∧ RV w (Mc x.2) cl vl) (e := fun x => [(0, vl), (1, .func (.func 45) #[] #[]), (7, .int .i64 cl.length), (8, .int .i64 x.1)]) (m := fun x => cl.length - x.1) (x₀ := (0, col1 C)) (body := F57.c7) (by kernel_rfl) (sub_cons 0 rfl rfl (sub_cons 1 rfl rfl (sub_cons 7 rfl rfl (sub_cons 8 rfl rfl (sub_nil _))))) ?_ ?_
  · exact ⟨Nat.zero_le _, (fun i hi hh => by first | omega | (simp only at hh; omega)), hF, hT, hl⟩
  intro ⟨k, C1⟩ w1 hI next
  obtain ⟨hk, h0, hF, hT, hl⟩ := hI
  try simp only at hk h0 hF hT hl
  have next1 := next
  clear next
  show Run _ _ _ _ [(0, vl), (1, .func (.func 45) #[] #[]), (7, .int .i64 cl.length), (8, .int .i64 k)] _ _
  have hle := hl.le
  refine run_seq (x := F57.c8) (y := F57.c9) (by kernel_rfl) ?_
  refine run_plain (id := 2) (ops := F57.o2) [(0, true)] (by kernel_rfl) (by kernel_rfl) ?_
  refine yS (by kernel_rfl : opAt F57.o2 0 = some (some 9, .binOp .lss 3 (.tmp 8) (.tmp 7) 3, none)) rfl rfl (fun w' hS => val_lss rfl rfl) ?_
  refine Sch.nil ?_
  refine run_seq (x := F57.c10) (y := F57.c13) (by kernel_rfl) ?_
  refine run_if (x := F57.c11) (y := F57.c12) (o := .tmp 9) (by kernel_rfl) rfl (fun h9 => ?_) (fun h9 => ?_)
  · skip
    have hkl : k < cl.length := by omega
    refine run_skip (by kernel_rfl) ?_
    refine run_seq (x := F57.c14) (y := F57.c24) (by kernel_rfl) ?_
    refine run_block (x := F57.c15) (id := 1) (by kernel_rfl) ?_
    refine run_seq (x := F57.c16) (y := F57.c17) (by kernel_rfl) ?_
    refine run_plain (id := 3) (ops := F57.o3) [(0, true), (1, true)] (by kernel_rfl) (by kernel_rfl) ?_
    refine yS (by kernel_rfl : opAt F57.o3 0 = some (some 10, .move (.tmp 8), none)) rfl rfl (fun w' hS => val_move rfl) ?_
    refine yS (by kernel_rfl : opAt F57.o3 1 = some (some 5, .assign (.tmp 10), none)) rfl rfl (fun w' hS => val_assign rfl) ?_
    refine Sch.nil ?_
    refine run_seq (x := F57.c18) (y := F57.c19) (by kernel_rfl) ?_
    refine run_plain (id := 4) (ops := F57.o4) [(0, true), (1, true), (2, true), (3, true), (4, false), (5, false)] (by kernel_rfl) (by kernel_rfl) ?_
    refine yS (by kernel_rfl : opAt F57.o4 0 = some (some 11, .move (.tmp 1), none)) rfl rfl (fun w' hS => val_move rfl) ?_
    refine yS (by kernel_rfl : opAt F57.o4 1 = some (some 12, .move (.tmp 0), none)) rfl rfl (fun w' hS => val_move rfl) ?_
    refine yS (by kernel_rfl : opAt F57.o4 2 = some (some 13, .move (.tmp 5), none)) rfl rfl (fun w' hS => val_move rfl) ?_
    refine iS (e := 33) (by kernel_rfl : opAt F57.o4 3 = some (some 14, .indexAddr 27 (.tmp 12) (.tmp 13), none)) rfl rfl hl rfl (by kernel_rfl) rfl (by omega) (by omega) ?_
    intro b14 o14 h14
    try simp only [Int.toNat_natCast] at h14
    refine lNA (by kernel_rfl : opAt F57.o4 4 = some (some 15, .load 33 (.tmp 14), none)) rfl rfl trivial h14 (by kernel_rfl) (by kernel_rfl) rfl rfl ?_
    intro v15 g15
    obtain ⟨u, rfl, hw⟩ := rv_bits.1 g15
    refine cS (by kernel_rfl : opAt F57.o4 5 = some (some 16, .call { callee := .value (.tmp 11), args := #[(.tmp 15)], argTypes := #[33] }, none)) rfl rfl (enters_func Try.call45 rfl rfl) (notValid_ok hF hw) ?_
    rintro vw2 w2 ⟨rfl, hs⟩
    refine ⟨trivial, ?_⟩
    replace hF := hF.st hs
    replace hT := hT.trans hs (by simp)
    replace hl := hl.st hs (by first | decide | (simp <;> omega))
    replace h14 := h14.st hs (by first | decide | (simp <;> omega))
    replace g15 := g15.st hs (by first | decide | (simp <;> omega))
    refine Sch.nil ?_
    refine run_cond (x := F57.c20) (y := F57.c23) (o := .tmp 16) (by kernel_rfl) rfl (fun h16 => ?_) (fun h16 => ?_)
    · skip
      refine run_seq (x := F57.c21) (y := F57.c22) (by kernel_rfl) ?_
      refine run_plain (id := 5) (ops := F57.o5) [(0, true), (1, true)] (by kernel_rfl) (by kernel_rfl) ?_
      refine yS (by kernel_rfl : opAt F57.o5 0 = some (some 17, .move (.tmp 5), none)) rfl rfl (fun w' hS => val_move rfl) ?_
      refine yS (by kernel_rfl : opAt F57.o5 1 = some (some 4, .assign (.tmp 17), none)) rfl rfl (fun w' hS => val_assign rfl) ?_
      refine Sch.nil ?_
      refine run_ret1 (by kernel_rfl) Try.func57 Try.results57 rfl ?_
      exact ⟨_, rfl, hT.out1 (by decide), .inr ⟨k, rfl, hkl, by simpa using h16, fun i hi hh => h0 i hi hh⟩⟩
    · skip
      refine run_skip (by kernel_rfl) ?_
      refine run_inBlock ?_
      refine run_plain (id := 6) (ops := F57.o6) [(0, true), (1, true)] (by kernel_rfl) (by kernel_rfl) ?_
      refine yS (by kernel_rfl : opAt F57.o6 0 = some (some 18, .binOp .add 3 (.tmp 8) (.const (.int .i64 1)) 3, none)) rfl rfl (fun w' hS => val_addi rfl rfl (by omega) (by omega)) ?_
      refine yS (by kernel_rfl : opAt F57.o6 1 = some (some 8, .move (.tmp 18), none)) rfl rfl (fun w' hS => val_move rfl) ?_
      refine Sch.nil ?_
      refine kp (sub_cons 0 rfl rfl (sub_cons 1 rfl rfl (sub_cons 7 rfl rfl (sub_cons 8 rfl (eq_int (by simp)) (sub_nil _))))) (next1 (k + 1, C1) _ ⟨(by first | omega | (simp only; omega)), (fun i hi hh => by
          try simp only at hh
          by_cases e : i = k
          · subst e; simpa using h16
          · exact h0 i hi (by omega)), hF, hT, hl⟩ (by first | omega | (simp only; omega)))
  · skip
    have hkl : k = cl.length := by omega
    refine run_exit (id := 0) (by kernel_rfl) rfl ?_
    refine run_seq (x := F57.c26) (y := F57.c27) (by kernel_rfl) ?_
    refine run_plain (id := 7) (ops := F57.o7) [(0, true)] (by kernel_rfl) (by kernel_rfl) ?_
    refine yS (by kernel_rfl : opAt F57.o7 0 = some (some 4, .assign (.const (.int .i64 (-1))), none)) rfl rfl (fun w' hS => val_assign rfl) ?_
    refine Sch.nil ?_
    refine run_ret1 (by kernel_rfl) Try.func57 Try.results57 rfl ?_
    exact ⟨_, rfl, hT.out1 (by decide), .inl ⟨rfl, fun i hi => h0 i hi (by omega)⟩⟩
namespace F43
noncomputable def c0 : Code := bodyOf Try.f43
noncomputable def c1 : Code := cl c0
noncomputable def o0 : Array Oper := rops c1
noncomputable def c2 : Code := cr c0
noncomputable def c3 : Code := cl c2
noncomputable def o1 : Array Oper := rops c3
noncomputable def c4 : Code := cr c2
noncomputable def c5 : Code := cl c4
noncomputable def c6 : Code := cl c5
noncomputable def o2 : Array Oper := rops c6
noncomputable def c7 : Code := cr c5
noncomputable def c8 : Code := cl c7
noncomputable def c9 : Code := cl c8
noncomputable def o3 : Array Oper := rops c9
noncomputable def c10 : Code := cr c8
noncomputable def c11 : Code := cr c7
noncomputable def c12 : Code := cr c4
noncomputable def c13 : Code := cl c12
noncomputable def c14 : Code := cl c13
noncomputable def o4 : Array Oper := rops c14
noncomputable def c15 : Code := cr c13
noncomputable def c16 : Code := cl c15
noncomputable def c17 : Code := cl c16
noncomputable def c18 : Code := cl c17
noncomputable def c19 : Code := cl c18
noncomputable def o5 : Array Oper := rops c19
noncomputable def c20 : Code := cr c18
noncomputable def c21 : Code := cl c20
noncomputable def c22 : Code := cr c20
noncomputable def c23 : Code := cr c17
noncomputable def c24 : Code := cl c23
noncomputable def c25 : Code := cl c24
noncomputable def c26 : Code := cl c25
noncomputable def o7 : Array Oper := rops c26
noncomputable def c27 : Code := cr c25
noncomputable def c28 : Code := cl c27
noncomputable def o8 : Array Oper := rops c28
noncomputable def c29 : Code := cr c27
noncomputable def c30 : Code := cl c29
noncomputable def c31 : Code := cl c30
noncomputable def o9 : Array Oper := rops c31
noncomputable def c32 : Code := cr c30
noncomputable def o10 : Array Oper := rops c32
noncomputable def c33 : Code := cr c29
noncomputable def c34 : Code := cr c23
noncomputable def o6 : Array Oper := rops c34
noncomputable def c35 : Code := cr c12
noncomputable def c36 : Code := cl c35
noncomputable def o11 : Array Oper := rops c36
noncomputable def c37 : Code := cr c35
noncomputable def c38 : Code := cl c37
noncomputable def o12 : Array Oper := rops c38
noncomputable def c39 : Code := cr c37
end F43
theorem delete_ok {w₀ : World} {C : Nat → Nat} {cl : List Bits} {v : Value} (hF : Lim w₀ C) (ho : OwnL w₀ C 5 33 v cl) (hlen : cl.length ≤ 1000000) : Calls Try.prog 43 #[v, .func (.func 45) #[] #[]] w₀ (Ret fun u w' => Stp [3, 4, 5, 6] w₀ C w' C ∧ OwnL w' C 5 33 u (cl.filter validB)) := by
  have hF0 := hF
  have ho0 := ho
  have hT := Stp.refl [3, 4, 5, 6, 7] w₀ (colE C)
  replace hF := hF.colE
  replace ho := ho.colE (by decide)
  refine calls_start (c := F43.c0) (N := 42) [v, .func (.func 45) #[] #[]] Try.func43 (by kernel_rfl) (by kernel_rfl) (by kernel_rfl) ?_
  show Run _ _ _ _ [(0, v), (1, .func (.func 45) #[] #[])] _ _
  refine run_seq (x := F43.c1) (y := F43.c2) (by kernel_rfl) ?_
  refine run_plain (id := 0) (ops := F43.o0) [(0, true)] (by kernel_rfl) (by kernel_rfl) ?_
  refine yS (by kernel_rfl : opAt F43.o0 0 = some (some 4, .assign (.const (.slice none 0 0)), none)) rfl rfl (fun w' hS => val_assign rfl) ?_
  refine Sch.nil ?_
  refine run_seq (x := F43.c3) (y := F43.c4) (by kernel_rfl) ?_
  refine run_plain (id := 1) (ops := F43.o1) [(0, true), (1, true), (2, false), (3, true)] (by kernel_rfl) (by kernel_rfl) ?_
  refine yS (by kernel_rfl : opAt F43.o1 0 = some (some 8, .move (.tmp 0), none)) rfl rfl (fun w' hS => val_move rfl) ?_
  refine yS (by kernel_rfl : opAt F43.o1 1 = some (some 9, .move (.tmp 1), none)) rfl rfl (fun w' hS => val_move rfl) ?_
  refine cS (by kernel_rfl : opAt F43.o1 2 = some (some 10, .call { callee := .value (.func 57), args := #[(.tmp 8), (.tmp 9)], argTypes := #[27, 37] }, none)) rfl rfl (ent Try.call57 rfl) (findBad_ok (C := fun _ => 0) (fun b hb => absurd rfl hb) (ho.own.read (fun b _ hb => absurd rfl hb) (by omega))) ?_
  rintro vw1 w1 ⟨k0, rfl, hs0, hk0⟩
  have hs := hs0.unfrz (colE C)
  refine ⟨trivial, ?_⟩
  replace hF := hF.st hs
  replace hT := hT.trans hs (by simp)
  replace ho := ho.st hs (by first | decide | (simp <;> omega)) (by first | decide | (simp <;> omega))
  refine yS (by kernel_rfl : opAt F43.o1 3 = some (some 5, .assign (.tmp 10), none)) rfl rfl (fun w' hS => val_assign rfl) ?_
  refine Sch.nil ?_
  refine run_seq (x := F43.c5) (y := F43.c12) (by kernel_rfl) ?_
  refine run_seq (x := F43.c6) (y := F43.c7) (by kernel_rfl) ?_
  refine run_plain (id := 2) (ops := F43.o2) [(0, true), (1, true)] (by kernel_rfl) (by kernel_rfl) ?_
  refine yS (by kernel_rfl : opAt F43.o2 0 = some (some 11, .move (.tmp 5), none)) rfl rfl (fun w' hS => val_move rfl) ?_
  refine yS (by kernel_rfl : opAt F43.o2 1 = some (some 12, .binOp .eql 3 (.tmp 11) (.const (.int .i64 (-1))) 3, none)) rfl rfl (fun w' hS => val_eql rfl rfl) ?_
  refine Sch.nil ?_
  refine run_if (x := F43.c8) (y := F43.c11) (o := .tmp 12) (by kernel_rfl) rfl (fun h12 => ?_) (fun h12 => ?_)
  · skip
    have hall : ∀ i (hi : i < cl.length), validB cl[i] = true := by
      rcases hk0 with ⟨_, h⟩ | ⟨i, h, _⟩
      · exact h
      · omega
    refine run_seq (x := F43.c9) (y := F43.c10) (by kernel_rfl) ?_
    refine run_plain (id := 3) (ops := F43.o3) [(0, true), (1, true)] (by kernel_rfl) (by kernel_rfl) ?_
    refine yS (by kernel_rfl : opAt F43.o3 0 = some (some 13, .move (.tmp 0), none)) rfl rfl (fun w' hS => val_move rfl) ?_
    refine yS (by kernel_rfl : opAt F43.o3 1 = some (some 4, .assign (.tmp 13), none)) rfl rfl (fun w' hS => val_assign rfl) ?_
    refine Sch.nil ?_
    refine run_ret1 (by kernel_rfl) Try.func43 Try.results43 rfl ?_
    exact ⟨hT.outE, by rw [delS.all hall]; exact ho.back ho0 hT hF0⟩
  · skip
    obtain ⟨i0, rfl, hi0, hv0, hb0⟩ : ∃ i : Nat, k0 = i ∧ ∃ hi : i < cl.length, validB cl[i] = false ∧ ∀ q (hq : q < cl.length), q < i → validB cl[q] = true := by
      rcases hk0 with ⟨h, _⟩ | h
      · exact absurd h h12
      · exact h
    have hD := delS.start hi0 hb0 hv0
    refine run_skip (by kernel_rfl) ?_
    refine run_seq (x := F43.c13) (y := F43.c35) (by kernel_rfl) ?_
    refine run_seq (x := F43.c14) (y := F43.c15) (by kernel_rfl) ?_
    refine run_plain (id := 4) (ops := F43.o4) [(0, true), (1, true), (2, true)] (by kernel_rfl) (by kernel_rfl) ?_
    refine yS (by kernel_rfl : opAt F43.o4 0 = some (some 14, .move (.tmp 5), none)) rfl rfl (fun w' hS => val_move rfl) ?_
    refine yS (by kernel_rfl : opAt F43.o4 1 = some (some 15, .binOp .add 3 (.tmp 14) (.const (.int .i64 1)) 3, none)) rfl rfl (fun w' hS => val_addi rfl rfl (by omega) (by omega)) ?_
    refine yS (by kernel_rfl : opAt F43.o4 2 = some (some 6, .assign (.tmp 15), none)) rfl rfl (fun w' hS => val_assign rfl) ?_
    refine Sch.nil ?_
    refine run_block (x := F43.c16) (id := 0) (by kernel_rfl) ?_
    
    refine run_loop (ι := Nat × Nat × (List Bits) × (Nat → Nat)) (I := fun x w => x.2.1 ≤ cl.length ∧ delS x.2.2.1 cl x.1 x.2.1 ∧ x.1 < x.2.1 ∧ Lim w x.2.2.2 ∧ Stp [3, 4, 5, 6, 7] w₀ (colE C) w x.2.2.2 ∧ OwnL w x.2.2.2 5 33 v x.2.2.1) (e := fun x => [(0, v), (1, .func (.func 45) #[] #[]), (5, .int .i64 x.1), (6, .int .i64 x.2.1)]) (m := fun x => cl.length - x.2.1) (x₀ := (i0, i0 + 1, cl, colE C)) (body := F43.c17) (by kernel_rfl) (sub_cons 0 rfl rfl (sub_cons 1 rfl rfl (sub_cons 5 rfl rfl (sub_cons 6 rfl rfl (sub_nil _))))) ?_ ?_
    · exact ⟨by first | omega | (simp only; omega), hD, by first | omega | (simp only; omega), hF, hT, ho⟩
    intro ⟨i, k, ys, C1⟩ w2 hI next
    obtain ⟨hk, hD, hik, hF, hT, ho⟩ := hI
    try simp only at hk hD hik hF hT ho
    have next1 := next
    clear next
    show Run _ _ _ _ [(0, v), (1, .func (.func 45) #[] #[]), (5, .int .i64 i), (6, .int .i64 k)] _ _
    have hyl := hD.1
    refine run_seq (x := F43.c18) (y := F43.c23) (by kernel_rfl) ?_
    refine run_seq (x := F43.c19) (y := F43.c20) (by kernel_rfl) ?_
    refine run_plain (id := 5) (ops := F43.o5) [(0, true), (1, true), (2, true), (3, true)] (by kernel_rfl) (by kernel_rfl) ?_
    refine yS (by kernel_rfl : opAt F43.o5 0 = some (some 16, .move (.tmp 6), none)) rfl rfl (fun w' hS => val_move rfl) ?_
    refine yS (by kernel_rfl : opAt F43.o5 1 = some (some 17, .move (.tmp 0), none)) rfl rfl (fun w' hS => val_move rfl) ?_
    refine yS (by kernel_rfl : opAt F43.o5 2 = some (some 18, .call { callee := .builtin .len, args := #[(.tmp 17)], argTypes := #[27] }, none)) rfl rfl (fun w' hS => ho.lenV rfl Try.underlying27 w' ) ?_
    refine yS (by kernel_rfl : opAt F43.o5 3 = some (some 19, .binOp .lss 3 (.tmp 16) (.tmp 18) 3, none)) rfl rfl (fun w' hS => val_lss rfl rfl) ?_
    refine Sch.nil ?_
    refine run_if (x := F43.c21) (y := F43.c22) (o := .tmp 19) (by kernel_rfl) rfl (fun h19 => ?_) (fun h19 => ?_)
    · skip
      have hkl : k < cl.length := by omega
      refine run_skip (by kernel_rfl) ?_
      refine run_seq (x := F43.c24) (y := F43.c34) (by kernel_rfl) ?_
      refine run_block (x := F43.c25) (id := 1) (by kernel_rfl) ?_
      refine run_seq (x := F43.c26) (y := F43.c27) (by kernel_rfl) ?_
      refine run_plain (id := 7) (ops := F43.o7) [(0, true), (1, true), (2, true), (3, false), (4, false), (5, false)] (by kernel_rfl) (by kernel_rfl) ?_
      refine yS (by kernel_rfl : opAt F43.o7 0 = some (some 22, .move (.tmp 0), none)) rfl rfl (fun w' hS => val_move rfl) ?_
      refine yS (by kernel_rfl : opAt F43.o7 1 = some (some 23, .move (.tmp 6), none)) rfl rfl (fun w' hS => val_move rfl) ?_
      refine oI (e' := 33) (by kernel_rfl : opAt F43.o7 2 = some (some 24, .indexAddr 27 (.tmp 22) (.tmp 23), none)) rfl rfl ho rfl (by kernel_rfl) rfl (by omega) (by omega) ?_
      intro g24 hg24
      try simp only [Int.toNat_natCast]
      refine oNA (by kernel_rfl : opAt F43.o7 3 = some (some 25, .load 33 (.tmp 24), none)) rfl rfl trivial ho hg24 (by omega) (by kernel_rfl) (by kernel_rfl) rfl rfl ?_
      intro v25 g25
      try simp only [Int.toNat_natCast] at g25
      have hg25 := g25
      rw [hD.2.2.2 k (by omega) hkl (Nat.le_refl _)] at hg25
      obtain ⟨u, rfl, hw⟩ := rv_bits.1 hg25
      clear hg25 g25
      refine aS (by kernel_rfl : opAt F43.o7 4 = some (some 7, .alloc 33, none)) rfl rfl (a_alloc (cs := [.int .i64 0, .slice none 0 0]) hF 7 (by kernel_rfl)) ?_
      rintro _ w3 ⟨Cw3, bw3, rfl, hs, hx, hF⟩
      refine ⟨trivial, ?_⟩
      replace hT := hT.trans hs (by simp)
      replace ho := ho.st hs (by first | decide | (simp <;> omega)) (by first | decide | (simp <;> omega))
      replace hw := hw.st hs (by first | decide | (simp <;> omega))
      refine aN (by kernel_rfl : opAt F43.o7 5 = some (none, .store 33 (.tmp 7) (.tmp 25), none)) rfl (a_storeAll (vs := [.int .i64 cl[k].len, u]) (n := 2) rfl rfl (by kernel_rfl) rfl rfl (by intro z hz; simp only [List.mem_cons, List.not_mem_nil, or_false] at hz; rcases hz with rfl | rfl <;> first | rfl | exact (hw.one rfl).2) hx rfl) ?_
      rintro _ w4 ⟨rfl, hs, hx⟩
      refine ⟨trivial, ?_⟩
      replace hF := hF.st hs
      replace hT := hT.trans hs (by simp)
      replace ho := ho.st hs (by first | decide | (simp <;> omega)) (by first | decide | (simp <;> omega))
      replace hw := hw.st hs (by first | decide | (simp <;> omega))
      refine Sch.nil ?_
      refine run_seq (x := F43.c28) (y := F43.c29) (by kernel_rfl) ?_
      refine run_plain (id := 8) (ops := F43.o8) [(0, true), (1, false), (2, false), (3, true)] (by kernel_rfl) (by kernel_rfl) ?_
      refine yS (by kernel_rfl : opAt F43.o8 0 = some (some 26, .move (.tmp 1), none)) rfl rfl (fun w' hS => val_move rfl) ?_
      refine nS (by kernel_rfl : opAt F43.o8 1 = some (some 27, .load 33 (.tmp 7), none)) rfl rfl trivial (val_loadOwnAgg (n := 2) (vs := [.int .i64 cl[k].len, u]) hx.at_ (by kernel_rfl) (by kernel_rfl) rfl rfl rfl) ?_
      refine cS (by kernel_rfl : opAt F43.o8 2 = some (some 28, .call { callee := .value (.tmp 26), args := #[(.tmp 27)], argTypes := #[33] }, none)) rfl rfl (enters_func Try.call45 rfl rfl) (notValid_ok (x := cl[k]) hF hw) ?_
      rintro vw5 w5 ⟨rfl, hs⟩
      refine ⟨trivial, ?_⟩
      replace hF := hF.st hs
      replace hT := hT.trans hs (by simp)
      replace ho := ho.st hs (by first | decide | (simp <;> omega)) (by first | decide | (simp <;> omega))
      replace hw := hw.st hs (by first | decide | (simp <;> omega))
      replace hx := hx.st hs (by first | decide | (simp <;> omega))
      refine yS (by kernel_rfl : opAt F43.o8 3 = some (some 29, .unOp .not 4 (.tmp 28), none)) rfl rfl (fun w' hS => val_not rfl) ?_
      refine Sch.nil ?_
      refine run_cond (x := F43.c30) (y := F43.c33) (o := .tmp 29) (by kernel_rfl) rfl (fun h29 => ?_) (fun h29 => ?_)
      · skip
        have hv : validB cl[k] = true := by simpa using h29
        refine run_seq (x := F43.c31) (y := F43.c32) (by kernel_rfl) ?_
        refine run_plain (id := 9) (ops := F43.o9) [(0, true), (1, true), (2, false), (3, true), (4, false)] (by kernel_rfl) (by kernel_rfl) ?_
        refine yS (by kernel_rfl : opAt F43.o9 0 = some (some 30, .move (.tmp 0), none)) rfl rfl (fun w' hS => val_move rfl) ?_
        refine yS (by kernel_rfl : opAt F43.o9 1 = some (some 31, .move (.tmp 5), none)) rfl rfl (fun w' hS => val_move rfl) ?_
        refine nS (by kernel_rfl : opAt F43.o9 2 = some (some 32, .load 33 (.tmp 7), none)) rfl rfl trivial (val_loadOwnAgg (n := 2) (vs := [.int .i64 cl[k].len, u]) hx.at_ (by kernel_rfl) (by kernel_rfl) rfl rfl rfl) ?_
        refine oI (e' := 33) (by kernel_rfl : opAt F43.o9 3 = some (some 33, .indexAddr 27 (.tmp 30) (.tmp 31), none)) rfl rfl ho rfl (by kernel_rfl) rfl (by omega) (by omega) ?_
        intro g33 hg33
        try simp only [Int.toNat_natCast]
        refine aN (by kernel_rfl : opAt F43.o9 4 = some (none, .store 33 (.tmp 33) (.tmp 32), none)) rfl (a_storeO ho hg33 (by omega) rfl rfl (by kernel_rfl) (x0 := cl[k]) (rv_bits.2 ⟨u, rfl, hw⟩)) ?_
        rintro _ w6 ⟨rfl, hs, ho⟩
        refine ⟨trivial, ?_⟩
        replace hF := hF.st hs
        replace hT := hT.trans hs (by simp)
        replace hw := hw.st hs (by first | decide | (simp <;> omega))
        replace hx := hx.st hs (by first | decide | (simp <;> omega))
        refine Sch.nil ?_
        refine run_plain (id := 10) (ops := F43.o10) [(0, true), (1, true), (2, true)] (by kernel_rfl) (by kernel_rfl) ?_
        refine yS (by kernel_rfl : opAt F43.o10 0 = some (some 34, .move (.tmp 5), none)) rfl rfl (fun w' hS => val_move rfl) ?_
        refine yS (by kernel_rfl : opAt F43.o10 1 = some (some 35, .binOp .add 3 (.tmp 34) (.const (.int .i64 1)) 3, none)) rfl rfl (fun w' hS => val_addi rfl rfl (by omega) (by omega)) ?_
        refine yS (by kernel_rfl : opAt F43.o10 2 = some (some 5, .assign (.tmp 35), none)) rfl rfl (fun w' hS => val_assign rfl) ?_
        refine Sch.nil ?_
        refine run_inBlock ?_
        refine run_plain (id := 6) (ops := F43.o6) [(0, true), (1, true), (2, true)] (by kernel_rfl) (by kernel_rfl) ?_
        refine yS (by kernel_rfl : opAt F43.o6 0 = some (some 20, .move (.tmp 6), none)) rfl rfl (fun w' hS => val_move rfl) ?_
        refine yS (by kernel_rfl : opAt F43.o6 1 = some (some 21, .binOp .add 3 (.tmp 20) (.const (.int .i64 1)) 3, none)) rfl rfl (fun w' hS => val_addi rfl rfl (by omega) (by omega)) ?_
        refine yS (by kernel_rfl : opAt F43.o6 2 = some (some 6, .assign (.tmp 21), none)) rfl rfl (fun w' hS => val_assign rfl) ?_
        refine Sch.nil ?_
        refine kp (sub_cons 0 rfl rfl (sub_cons 1 rfl rfl (sub_cons 5 rfl (eq_int (by simp)) (sub_cons 6 rfl (eq_int (by simp)) (sub_nil _))))) (next1 (i + 1, k + 1, ys.set i cl[k], Cw3) _ ⟨(by first | omega | (simp only; omega)), (hD.keep hkl hv), (by first | omega | (simp only; omega)), hF, hT, ho⟩ (by first | omega | (simp only; omega)))
      · skip
        have hv : validB cl[k] = false := by simpa using h29
        refine run_skip (by kernel_rfl) ?_
        refine run_inBlock ?_
        refine run_plain (id := 6) (ops := F43.o6) [(0, true), (1, true), (2, true)] (by kernel_rfl) (by kernel_rfl) ?_
        refine yS (by kernel_rfl : opAt F43.o6 0 = some (some 20, .move (.tmp 6), none)) rfl rfl (fun w' hS => val_move rfl) ?_
        refine yS (by kernel_rfl : opAt F43.o6 1 = some (some 21, .binOp .add 3 (.tmp 20) (.const (.int .i64 1)) 3, none)) rfl rfl (fun w' hS => val_addi rfl rfl (by omega) (by omega)) ?_
        refine yS (by kernel_rfl : opAt F43.o6 2 = some (some 6, .assign (.tmp 21), none)) rfl rfl (fun w' hS => val_assign rfl) ?_
        refine Sch.nil ?_
        refine kp (sub_cons 0 rfl rfl (sub_cons 1 rfl rfl (sub_cons 5 rfl rfl (sub_cons 6 rfl (eq_int (by simp)) (sub_nil _))))) (next1 (i, k + 1, ys, Cw3) _ ⟨(by first | omega | (simp only; omega)), (hD.drop hkl hv), (by first | omega | (simp only; omega)), hF, hT, ho⟩ (by first | omega | (simp only; omega)))
    · skip
      have hkl : k = cl.length := by omega
      refine run_exit (id := 0) (by kernel_rfl) rfl ?_
      refine run_seq (x := F43.c36) (y := F43.c37) (by kernel_rfl) ?_
      refine run_plain (id := 11) (ops := F43.o11) [(0, true), (1, true), (2, true), (3, false)] (by kernel_rfl) (by kernel_rfl) ?_
      refine yS (by kernel_rfl : opAt F43.o11 0 = some (some 36, .move (.tmp 0), none)) rfl rfl (fun w' hS => val_move rfl) ?_
      refine yS (by kernel_rfl : opAt F43.o11 1 = some (some 37, .move (.tmp 5), none)) rfl rfl (fun w' hS => val_move rfl) ?_
      refine sFO (e' := 33) (by kernel_rfl : opAt F43.o11 2 = some (some 38, .slice 27 (.tmp 36) (some (.tmp 37)) none none, none)) rfl rfl ho rfl (by kernel_rfl) rfl (by omega) (by omega) ?_
      intro v38 h38
      try simp only [Int.toNat_natCast] at h38
      obtain ⟨gg38, hgg38⟩ := ho.ob_ex (by omega)
      refine aN (by kernel_rfl : opAt F43.o11 3 = some (none, .call { callee := .builtin .clear, args := #[(.tmp 38)], argTypes := #[27] }, none)) rfl (a_clear (x0 := (⟨0, []⟩ : Bits)) (zs := [.int .i64 0, .slice none 0 0]) ho h38 (by omega) (by omega) Try.underlying27 (by kernel_rfl) (fun h M => zero_bits) rfl) ?_
      rintro _ wc ⟨hs, ho⟩
      refine ⟨trivial, ?_⟩
      replace hF := hF.st hs
      replace hT := hT.trans hs (by simp)
      refine Sch.nil ?_
      refine run_seq (x := F43.c38) (y := F43.c39) (by kernel_rfl) ?_
      refine run_plain (id := 12) (ops := F43.o12) [(0, true), (1, true), (2, true), (3, true)] (by kernel_rfl) (by kernel_rfl) ?_
      refine yS (by kernel_rfl : opAt F43.o12 0 = some (some 39, .move (.tmp 0), none)) rfl rfl (fun w' hS => val_move rfl) ?_
      refine yS (by kernel_rfl : opAt F43.o12 1 = some (some 40, .move (.tmp 5), none)) rfl rfl (fun w' hS => val_move rfl) ?_
      have hyl2 : (ys.take i ++ List.replicate (ys.length - i) (⟨0, []⟩ : Bits)).length = cl.length := by simp; omega
      have hoC := ho.back ho0 hT hF0
      refine sTO (e' := 33) (by kernel_rfl : opAt F43.o12 2 = some (some 41, .slice 27 (.tmp 39) none (some (.tmp 40)) none, none)) rfl rfl hoC rfl (by kernel_rfl) rfl (by omega) (by omega) (by omega) ?_
      intro v41 h41
      try simp only [Int.toNat_natCast] at h41
      refine yS (by kernel_rfl : opAt F43.o12 3 = some (some 4, .assign (.tmp 41), none)) rfl rfl (fun w' hS => val_assign rfl) ?_
      refine Sch.nil ?_
      refine run_ret1 (by kernel_rfl) Try.func43 Try.results43 rfl ?_
      rw [List.take_left' (by rw [List.length_take]; omega), hD.2.2.1, hkl, List.take_length] at h41
      exact ⟨hT.outE, h41⟩
end Go.Proofs.Ytbdlkdiadplmcaa
