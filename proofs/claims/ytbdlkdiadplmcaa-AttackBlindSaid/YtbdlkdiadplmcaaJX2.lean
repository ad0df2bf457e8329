/- Steps through functions of the program. -/
import Derived.Test.YtbdlkdiadplmcaaJX1
import Derived.Test.YtbdlkdiadplmcaaL1
set_option linter.unusedVariables false
set_option linter.unusedSimpArgs false
set_option maxRecDepth 100000
set_option maxHeartbeats 4000000
namespace Go.Proofs.Ytbdlkdiadplmcaa
open Go.K Go.K.Rep

namespace F33
noncomputable def c0 : Code := bodyOf Try.f33
noncomputable def c1 : Code := cl c0
noncomputable def o0 : Array Oper := rops c1
noncomputable def c2 : Code := cr c0
noncomputable def c3 : Code := cl c2
noncomputable def c4 : Code := cl c3
noncomputable def o1 : Array Oper := rops c4
noncomputable def c5 : Code := cr c3
noncomputable def c6 : Code := cl c5
noncomputable def c7 : Code := cl c6
noncomputable def o2 : Array Oper := rops c7
noncomputable def c8 : Code := cr c6
noncomputable def c9 : Code := cr c5
noncomputable def c10 : Code := cr c2
noncomputable def c11 : Code := cl c10
noncomputable def o3 : Array Oper := rops c11
noncomputable def c12 : Code := cr c10
end F33
theorem clone_ok {w₀ : World} {C : Nat → Nat} {xs : List U64} {px : Value} (hF : Lim w₀ C) (hw : RV w₀ (Mc C) xs px) (hne : xs ≠ []) (hlen : xs.length ≤ 1000000) : Calls Try.prog 33 #[px] w₀ (Ret fun v w' => Stp [] w₀ C w' C ∧ RV w' (Mc C) xs v) := by
  have hF0 := hF
  have hT := Stp.refl [2, 3, 4, 5, 6, 7, 8, 9] w₀ (col1 C)
  replace hF := hF.col1
  replace hw : RV w₀ (Mc (col1 C)) xs px := by rw [Mc_col1]; exact hw
  obtain ⟨a0, c0, he0, _, _, hs0⟩ := rv_list.1 hw
  obtain ⟨b0, rfl⟩ : ∃ b, a0 = some b := by
    rcases hs0 with h | ⟨b, o, rfl, _⟩
    · exact absurd h hne
    · exact ⟨_, rfl⟩
  clear hs0
  refine calls_start (c := F33.c0) (N := 8) [px] Try.func33 (by kernel_rfl) (by kernel_rfl) (by kernel_rfl) ?_
  show Run _ _ _ _ [(0, px)] _ _
  refine run_seq (x := F33.c1) (y := F33.c2) (by kernel_rfl) ?_
  refine run_plain (id := 0) (ops := F33.o0) [(0, true)] (by kernel_rfl) (by kernel_rfl) ?_
  refine yS (by kernel_rfl : opAt F33.o0 0 = some (some 2, .assign (.const (.slice none 0 0)), none)) rfl rfl (fun w' hS => val_assign rfl) ?_
  refine Sch.nil ?_
  refine run_seq (x := F33.c3) (y := F33.c10) (by kernel_rfl) ?_
  refine run_seq (x := F33.c4) (y := F33.c5) (by kernel_rfl) ?_
  refine run_plain (id := 1) (ops := F33.o1) [(0, true), (1, true)] (by kernel_rfl) (by kernel_rfl) ?_
  refine yS (by kernel_rfl : opAt F33.o1 0 = some (some 3, .move (.tmp 0), none)) rfl rfl (fun w' hS => val_move rfl) ?_
  refine yS (by kernel_rfl : opAt F33.o1 1 = some (some 4, .binOp .eql 31 (.tmp 3) (.const (.slice none 0 0)) 31, none)) rfl rfl (fun w' hS => val_eqNilS ((show _ = some px from rfl).trans (congrArg some he0)) Try.underlying31) ?_
  refine Sch.nil ?_
  refine run_cond (x := F33.c6) (y := F33.c9) (o := .tmp 4) (b := false) (by kernel_rfl) rfl (fun h => by cases h) (fun _ => ?_)
  refine run_skip (by kernel_rfl) ?_
  refine run_seq (x := F33.c11) (y := F33.c12) (by kernel_rfl) ?_
  refine run_plain (id := 3) (ops := F33.o3) [(0, false), (1, true), (2, false), (3, true)] (by kernel_rfl) (by kernel_rfl) ?_
  refine aS (by kernel_rfl : opAt F33.o3 0 = some (some 5, .buildSlice 31 0 #[], none)) rfl rfl (a_buildEmpty (e := 59) (bytes := 8) hF (by kernel_rfl)) ?_
  rintro _ w1 ⟨⟨a5, rfl⟩, hs, hF⟩
  refine ⟨trivial, ?_⟩
  replace hT := hT.trans hs (by simp)
  replace hw := hw.st hs (by first | decide | (simp <;> omega))
  refine yS (by kernel_rfl : opAt F33.o3 1 = some (some 6, .move (.tmp 0), none)) rfl rfl (fun w' hS => val_move rfl) ?_
  refine aS (by kernel_rfl : opAt F33.o3 2 = some (some 7, .call { callee := .builtin .append, args := #[(.tmp 5), (.tmp 6)], argTypes := #[31, 31] }, none)) rfl rfl (a_appendR (j := 5) (e := 59) (bytes := 8) (ys := ([] : List U64)) hF (by decide) rfl rfl (by kernel_rfl) (by decide) rv_empty hw hne (by simp only [List.length_nil]; omega) (by simp only [List.length_nil]; omega)) ?_
  rintro v7 w2 ⟨Cw2, hs, hn, hF⟩
  refine ⟨trivial, ?_⟩
  replace hT := hT.trans hs (by simp)
  replace hw := hw.st hs (by first | decide | (simp <;> omega))
  refine yS (by kernel_rfl : opAt F33.o3 3 = some (some 2, .assign (.tmp 7), none)) rfl rfl (fun w' hS => val_assign rfl) ?_
  refine Sch.nil ?_
  simp only [List.nil_append] at hn
  refine run_ret1 (by kernel_rfl) Try.func33 Try.results33 rfl ?_
  exact ⟨hT.out1 (by decide), hn.out hT hF0 (Mc_col1 C) (fun b _ => col1_lt C (by decide) b) (by omega)⟩
namespace F31
noncomputable def c0 : Code := bodyOf Try.f31
noncomputable def c1 : Code := cl c0
noncomputable def o0 : Array Oper := rops c1
noncomputable def c2 : Code := cr c0
noncomputable def c3 : Code := cl c2
noncomputable def o1 : Array Oper := rops c3
noncomputable def c4 : Code := cr c2
end F31
theorem isArr_ok {w₀ : World} {C : Nat → Nat} {gr : Grp} {x : Bits} {u m : Value} {bx : Nat} (hF : Lim w₀ C) (hw : RV w₀ (Mc C) gr.arr.words u) (hx : RA w₀ (Mc C) x bx 0) : Calls Try.prog 31 #[.agg #[.int .i64 gr.arr.len, u, m], .pointer (some ⟨bx, 0, none⟩)] w₀ (Ret fun v w' => v = .bool (decide (gr.arr = x)) ∧ Stp [] w₀ C w' C) := by
  have hF0 := hF
  have hT := Stp.refl [2, 3, 4, 5, 6, 7, 8, 9] w₀ (col1 C)
  replace hF := hF.col1
  replace hw : RV w₀ (Mc (col1 C)) gr.arr.words u := by rw [Mc_col1]; exact hw
  replace hx : RA w₀ (Mc (col1 C)) x bx 0 := by rw [Mc_col1]; exact hx
  refine calls_start (c := F31.c0) (N := 10) [.agg #[.int .i64 gr.arr.len, u, m], .pointer (some ⟨bx, 0, none⟩)] Try.func31 (by kernel_rfl) (by kernel_rfl) (by kernel_rfl) ?_
  show Run _ _ _ _ [(0, .agg #[.int .i64 gr.arr.len, u, m]), (1, .pointer (some ⟨bx, 0, none⟩))] _ _
  refine run_seq (x := F31.c1) (y := F31.c2) (by kernel_rfl) ?_
  refine run_plain (id := 0) (ops := F31.o0) [(0, false), (1, true)] (by kernel_rfl) (by kernel_rfl) ?_
  refine aS (by kernel_rfl : opAt F31.o0 0 = some (some 2, .box 69 (.tmp 0), none)) rfl rfl (a_box (cs := [.int .i64 gr.arr.len, u, m]) hF 3 rfl rfl) ?_
  rintro _ w1 ⟨Cw1, bw1, rfl, hs, hg, hF⟩
  refine ⟨trivial, ?_⟩
  replace hT := hT.trans hs (by simp)
  replace hw := hw.st hs (by first | decide | (simp <;> omega))
  replace hx := hx.st hs (by first | decide | (simp <;> omega))
  refine yS (by kernel_rfl : opAt F31.o0 1 = some (some 3, .assign (.const (.bool false)), none)) rfl rfl (fun w' hS => val_assign rfl) ?_
  refine Sch.nil ?_
  refine run_seq (x := F31.c3) (y := F31.c4) (by kernel_rfl) ?_
  refine run_plain (id := 1) (ops := F31.o1) [(0, true), (1, true), (2, false), (3, false), (4, false), (5, true), (6, true)] (by kernel_rfl) (by kernel_rfl) ?_
  refine yS (by kernel_rfl : opAt F31.o1 0 = some (some 4, .fieldAddr 69 (.tmp 2) 0, none)) rfl rfl (fun w' hS => val_fieldAddr (off := 0) (by kernel_rfl) rfl) ?_
  refine yS (by kernel_rfl : opAt F31.o1 1 = some (some 5, .fieldAddr 35 (.tmp 4) 0, none)) rfl rfl (fun w' hS => val_fieldAddr (off := 0) (by kernel_rfl) rfl) ?_
  refine nS (by kernel_rfl : opAt F31.o1 2 = some (some 6, .load 33 (.tmp 5), none)) rfl rfl trivial (val_loadOwnAgg (n := 2) (vs := [.int .i64 gr.arr.len, u]) hg.at_ (by kernel_rfl) (by kernel_rfl) rfl rfl rfl) ?_
  refine lNA (by kernel_rfl : opAt F31.o1 3 = some (some 7, .load 33 (.tmp 1), none)) rfl rfl trivial hx (by kernel_rfl) (by kernel_rfl) rfl rfl ?_
  intro v7 g7
  obtain ⟨u2, rfl, hwx⟩ := rv_bits.1 g7
  refine cS (by kernel_rfl : opAt F31.o1 4 = some (some 8, .call { callee := .value (.func 32), args := #[(.tmp 6), (.tmp 7)], argTypes := #[33, 33] }, none)) rfl rfl (ent Try.call32 rfl) (bitsCmp_ok hF hw hwx) ?_
  rintro vw2 w2 ⟨c, rfl, hc, hs⟩
  refine ⟨trivial, ?_⟩
  replace hF := hF.st hs
  replace hT := hT.trans hs (by simp)
  replace hw := hw.st hs (by first | decide | (simp <;> omega))
  replace hx := hx.st hs (by first | decide | (simp <;> omega))
  replace hg := hg.st hs (by first | decide | (simp <;> omega))
  replace g7 := g7.st hs (by first | decide | (simp <;> omega))
  refine yS (by kernel_rfl : opAt F31.o1 5 = some (some 9, .binOp .eql 3 (.tmp 8) (.const (.int .i64 0)) 3, none)) rfl rfl (fun w' hS => val_eql rfl rfl) ?_
  refine yS (by kernel_rfl : opAt F31.o1 6 = some (some 3, .assign (.tmp 9), none)) rfl rfl (fun w' hS => val_assign rfl) ?_
  refine Sch.nil ?_
  refine run_ret1 (by kernel_rfl) Try.func31 Try.results31 rfl ?_
  exact ⟨by congr 1; exact decide_eq_decide.2 hc, hT.out1 (by decide)⟩
namespace F30
noncomputable def c0 : Code := bodyOf Try.f30
noncomputable def c1 : Code := cl c0
noncomputable def o0 : Array Oper := rops c1
noncomputable def c2 : Code := cr c0
noncomputable def c3 : Code := cl c2
noncomputable def c4 : Code := cl c3
noncomputable def o1 : Array Oper := rops c4
noncomputable def c5 : Code := cr c3
noncomputable def c6 : Code := cl c5
noncomputable def c7 : Code := cl c6
noncomputable def c8 : Code := cl c7
noncomputable def o2 : Array Oper := rops c8
noncomputable def c9 : Code := cr c7
noncomputable def c10 : Code := cl c9
noncomputable def c11 : Code := cl c10
noncomputable def c12 : Code := cr c10
noncomputable def c13 : Code := cr c9
noncomputable def c14 : Code := cl c13
noncomputable def c15 : Code := cl c14
noncomputable def c16 : Code := cl c15
noncomputable def o3 : Array Oper := rops c16
noncomputable def c17 : Code := cr c15
noncomputable def c18 : Code := cl c17
noncomputable def o4 : Array Oper := rops c18
noncomputable def c19 : Code := cr c17
noncomputable def c20 : Code := cl c19
noncomputable def c21 : Code := cl c20
noncomputable def o5 : Array Oper := rops c21
noncomputable def c22 : Code := cr c20
noncomputable def c23 : Code := cr c19
noncomputable def c24 : Code := cr c13
noncomputable def o6 : Array Oper := rops c24
noncomputable def c25 : Code := cr c2
noncomputable def c26 : Code := cl c25
noncomputable def o7 : Array Oper := rops c26
noncomputable def c27 : Code := cr c25
end F30
theorem findGrp_ok {w₀ : World} {C : Nat → Nat} {gs : List Grp} {y : Bits} {vl : Value} {bx : Nat} (hF : Lim w₀ C) (hl : RV w₀ (Mc C) gs vl) (hx : RA w₀ (Mc C) y bx 0) : Calls Try.prog 30 #[vl, .func (.func 31) #[] #[.pointer (some ⟨bx, 0, none⟩)]] w₀ (Ret fun v w' => ∃ k : Int, v = .int .i64 k ∧ Stp [] w₀ C w' C ∧ (k = -1 ∧ (∀ i (hi : i < gs.length), gs[i].arr ≠ y) ∨ ∃ i : Nat, k = i ∧ ∃ hi : i < gs.length, gs[i].arr = y)) := by
  have hF0 := hF
  have hT := Stp.refl [2, 3, 4, 5, 6, 7, 8, 9] w₀ (col1 C)
  replace hF := hF.col1
  replace hl : RV w₀ (Mc (col1 C)) gs vl := by rw [Mc_col1]; exact hl
  replace hx : RA w₀ (Mc (col1 C)) y bx 0 := by rw [Mc_col1]; exact hx
  refine calls_start (c := F30.c0) (N := 19) [vl, .func (.func 31) #[] #[.pointer (some ⟨bx, 0, none⟩)]] Try.func30 (by kernel_rfl) (by kernel_rfl) (by kernel_rfl) ?_
  show Run _ _ _ _ [(0, vl), (1, .func (.func 31) #[] #[.pointer (some ⟨bx, 0, none⟩)])] _ _
  refine run_seq (x := F30.c1) (y := F30.c2) (by kernel_rfl) ?_
  refine run_plain (id := 0) (ops := F30.o0) [(0, true)] (by kernel_rfl) (by kernel_rfl) ?_
  refine yS (by kernel_rfl : opAt F30.o0 0 = some (some 4, .assign (.const (.int .i64 0)), none)) rfl rfl (fun w' hS => val_assign rfl) ?_
  refine Sch.nil ?_
  refine run_seq (x := F30.c3) (y := F30.c25) (by kernel_rfl) ?_
  refine run_seq (x := F30.c4) (y := F30.c5) (by kernel_rfl) ?_
  refine run_plain (id := 1) (ops := F30.o1) [(0, true), (1, true), (2, true)] (by kernel_rfl) (by kernel_rfl) ?_
  refine yS (by kernel_rfl : opAt F30.o1 0 = some (some 6, .move (.tmp 0), none)) rfl rfl (fun w' hS => val_move rfl) ?_
  refine yS (by kernel_rfl : opAt F30.o1 1 = some (some 7, .call { callee := .builtin .len, args := #[(.tmp 6)], argTypes := #[66] }, none)) rfl rfl (fun w' hS => hl.lenV rfl Try.underlying66 w' ) ?_
  refine yS (by kernel_rfl : opAt F30.o1 2 = some (some 8, .move (.const (.int .i64 0)), none)) rfl rfl (fun w' hS => val_move rfl) ?_
  refine Sch.nil ?_
  refine run_block (x := F30.c6) (id := 0) (by kernel_rfl) ?_
  
  refine run_loop (ι := Nat × (Nat → Nat)) (I := fun x w => x.1 ≤ gs.length ∧ (∀ i (hi : i < gs.length), i < x.1 → gs[i].arr ≠ y) ∧ Lim w x.2 ∧ Stp [2, 3, 4, 5, 6, 7, 8, 9] w₀ (col1 C) w x.2 ∧ RV w (Mc x.2) gs vl ∧ RA w (Mc x.2) y bx 0) (e := fun x => [(0, vl), (1, .func (.func 31) #[] #[.pointer (some ⟨bx, 0, none⟩)]), (7, .int .i64 gs.length), (8, .int .i64 x.1)]) (m := fun x => gs.length - x.1) (x₀ := (0, col1 C)) (body := F30.c7) (by kernel_rfl) (sub_cons 0 rfl rfl (sub_cons 1 rfl rfl (sub_cons 7 rfl rfl (sub_cons 8 rfl rfl (sub_nil _))))) ?_ ?_
  · exact ⟨Nat.zero_le _, (fun i hi hh => by first | omega | (simp only at hh; omega)), hF, hT, hl, hx⟩
  intro ⟨k, C1⟩ w1 hI next
  obtain ⟨hk, h0, hF, hT, hl, hx⟩ := hI
  try simp only at hk h0 hF hT hl hx
  have next1 := next
  clear next
  show Run _ _ _ _ [(0, vl), (1, .func (.func 31) #[] #[.pointer (some ⟨bx, 0, none⟩)]), (7, .int .i64 gs.length), (8, .int .i64 k)] _ _
  have hle := hl.le
  refine run_seq (x := F30.c8) (y := F30.c9) (by kernel_rfl) ?_
  refine run_plain (id := 2) (ops := F30.o2) [(0, true)] (by kernel_rfl) (by kernel_rfl) ?_
  refine yS (by kernel_rfl : opAt F30.o2 0 = some (some 9, .binOp .lss 3 (.tmp 8) (.tmp 7) 3, none)) rfl rfl (fun w' hS => val_lss rfl rfl) ?_
  refine Sch.nil ?_
  refine run_seq (x := F30.c10) (y := F30.c13) (by kernel_rfl) ?_
  refine run_if (x := F30.c11) (y := F30.c12) (o := .tmp 9) (by kernel_rfl) rfl (fun h9 => ?_) (fun h9 => ?_)
  · skip
    have hkl : k < gs.length := by omega
    refine run_skip (by kernel_rfl) ?_
    refine run_seq (x := F30.c14) (y := F30.c24) (by kernel_rfl) ?_
    refine run_block (x := F30.c15) (id := 1) (by kernel_rfl) ?_
    refine run_seq (x := F30.c16) (y := F30.c17) (by kernel_rfl) ?_
    refine run_plain (id := 3) (ops := F30.o3) [(0, true), (1, true)] (by kernel_rfl) (by kernel_rfl) ?_
    refine yS (by kernel_rfl : opAt F30.o3 0 = some (some 10, .move (.tmp 8), none)) rfl rfl (fun w' hS => val_move rfl) ?_
    refine yS (by kernel_rfl : opAt F30.o3 1 = some (some 5, .assign (.tmp 10), none)) rfl rfl (fun w' hS => val_assign rfl) ?_
    refine Sch.nil ?_
    refine run_seq (x := F30.c18) (y := F30.c19) (by kernel_rfl) ?_
    refine run_plain (id := 4) (ops := F30.o4) [(0, true), (1, true), (2, true), (3, true), (4, false), (5, false)] (by kernel_rfl) (by kernel_rfl) ?_
    refine yS (by kernel_rfl : opAt F30.o4 0 = some (some 11, .move (.tmp 1), none)) rfl rfl (fun w' hS => val_move rfl) ?_
    refine yS (by kernel_rfl : opAt F30.o4 1 = some (some 12, .move (.tmp 0), none)) rfl rfl (fun w' hS => val_move rfl) ?_
    refine yS (by kernel_rfl : opAt F30.o4 2 = some (some 13, .move (.tmp 5), none)) rfl rfl (fun w' hS => val_move rfl) ?_
    refine iS (e := 69) (by kernel_rfl : opAt F30.o4 3 = some (some 14, .indexAddr 66 (.tmp 12) (.tmp 13), none)) rfl rfl hl rfl (by kernel_rfl) rfl (by omega) (by omega) ?_
    intro b14 o14 h14
    try simp only [Int.toNat_natCast] at h14
    refine lNA (by kernel_rfl : opAt F30.o4 4 = some (some 15, .load 69 (.tmp 14), none)) rfl rfl trivial h14 (by kernel_rfl) (by kernel_rfl) rfl rfl ?_
    intro v15 g15
    obtain ⟨u, m, rfl, hw, hm⟩ := rv_grp.1 g15
    refine cS (by kernel_rfl : opAt F30.o4 5 = some (some 16, .call { callee := .value (.tmp 11), args := #[(.tmp 15)], argTypes := #[69] }, none)) rfl rfl (enters_func Try.call31 rfl rfl) (isArr_ok (gr := gs[k]) hF hw hx) ?_
    rintro vw2 w2 ⟨rfl, hs⟩
    refine ⟨trivial, ?_⟩
    replace hF := hF.st hs
    replace hT := hT.trans hs (by simp)
    replace hl := hl.st hs (by first | decide | (simp <;> omega))
    replace hx := hx.st hs (by first | decide | (simp <;> omega))
    replace h14 := h14.st hs (by first | decide | (simp <;> omega))
    replace g15 := g15.st hs (by first | decide | (simp <;> omega))
    refine Sch.nil ?_
    refine run_if (x := F30.c20) (y := F30.c23) (o := .tmp 16) (by kernel_rfl) rfl (fun h16 => ?_) (fun h16 => ?_)
    · skip
      refine run_seq (x := F30.c21) (y := F30.c22) (by kernel_rfl) ?_
      refine run_plain (id := 5) (ops := F30.o5) [(0, true), (1, true)] (by kernel_rfl) (by kernel_rfl) ?_
      refine yS (by kernel_rfl : opAt F30.o5 0 = some (some 17, .move (.tmp 5), none)) rfl rfl (fun w' hS => val_move rfl) ?_
      refine yS (by kernel_rfl : opAt F30.o5 1 = some (some 4, .assign (.tmp 17), none)) rfl rfl (fun w' hS => val_assign rfl) ?_
      refine Sch.nil ?_
      refine run_ret1 (by kernel_rfl) Try.func30 Try.results30 rfl ?_
      exact ⟨_, rfl, hT.out1 (by decide), .inr ⟨k, rfl, hkl, h16⟩⟩
    · skip
      refine run_skip (by kernel_rfl) ?_
      refine run_inBlock ?_
      refine run_plain (id := 6) (ops := F30.o6) [(0, true), (1, true)] (by kernel_rfl) (by kernel_rfl) ?_
      refine yS (by kernel_rfl : opAt F30.o6 0 = some (some 18, .binOp .add 3 (.tmp 8) (.const (.int .i64 1)) 3, none)) rfl rfl (fun w' hS => val_addi rfl rfl (by omega) (by omega)) ?_
      refine yS (by kernel_rfl : opAt F30.o6 1 = some (some 8, .move (.tmp 18), none)) rfl rfl (fun w' hS => val_move rfl) ?_
      refine Sch.nil ?_
      refine kp (sub_cons 0 rfl rfl (sub_cons 1 rfl rfl (sub_cons 7 rfl rfl (sub_cons 8 rfl (eq_int (by simp)) (sub_nil _))))) (next1 (k + 1, C1) _ ⟨(by first | omega | (simp only; omega)), (fun i hi hh => by
          try simp only at hh
          by_cases e : i = k
          · subst e; exact h16
          · exact h0 i hi (by omega)), hF, hT, hl, hx⟩ (by first | omega | (simp only; omega)))
  · skip
    have hkl : k = gs.length := by omega
    refine run_exit (id := 0) (by kernel_rfl) rfl ?_
    refine run_seq (x := F30.c26) (y := F30.c27) (by kernel_rfl) ?_
    refine run_plain (id := 7) (ops := F30.o7) [(0, true)] (by kernel_rfl) (by kernel_rfl) ?_
    refine yS (by kernel_rfl : opAt F30.o7 0 = some (some 4, .assign (.const (.int .i64 (-1))), none)) rfl rfl (fun w' hS => val_assign rfl) ?_
    refine Sch.nil ?_
    refine run_ret1 (by kernel_rfl) Try.func30 Try.results30 rfl ?_
    exact ⟨_, rfl, hT.out1 (by decide), .inl ⟨rfl, fun i hi => h0 i hi (by omega)⟩⟩
namespace F35
noncomputable def c0 : Code := bodyOf Try.f35
noncomputable def c1 : Code := cl c0
noncomputable def o0 : Array Oper := rops c1
noncomputable def c2 : Code := cr c0
noncomputable def c3 : Code := cl c2
noncomputable def o1 : Array Oper := rops c3
noncomputable def c4 : Code := cr c2
end F35
theorem grpCmp_ok {w₀ : World} {C : Nat → Nat} {x y : Grp} {u m u2 m2 : Value} (hF : Lim w₀ C) (hm : RV w₀ (Mc C) x.mem m) (hm2 : RV w₀ (Mc C) y.mem m2) (h1 : 0 < x.mem.length) (h2 : 0 < y.mem.length) : Calls Try.prog 35 #[.agg #[.int .i64 x.arr.len, u, m], .agg #[.int .i64 y.arr.len, u2, m2]] w₀ (Ret fun v w' => v = .int .i64 (cmpI (x.mem.headD 0) (y.mem.headD 0)) ∧ Stp [] w₀ C w' C) := by
  have hF0 := hF
  have hT := Stp.refl [2, 3, 4, 5, 6, 7, 8, 9] w₀ (col1 C)
  replace hF := hF.col1
  replace hm : RV w₀ (Mc (col1 C)) x.mem m := by rw [Mc_col1]; exact hm
  replace hm2 : RV w₀ (Mc (col1 C)) y.mem m2 := by rw [Mc_col1]; exact hm2
  refine calls_start (c := F35.c0) (N := 16) [.agg #[.int .i64 x.arr.len, u, m], .agg #[.int .i64 y.arr.len, u2, m2]] Try.func35 (by kernel_rfl) (by kernel_rfl) (by kernel_rfl) ?_
  show Run _ _ _ _ [(0, .agg #[.int .i64 x.arr.len, u, m]), (1, .agg #[.int .i64 y.arr.len, u2, m2])] _ _
  refine run_seq (x := F35.c1) (y := F35.c2) (by kernel_rfl) ?_
  refine run_plain (id := 0) (ops := F35.o0) [(0, false), (1, false), (2, true)] (by kernel_rfl) (by kernel_rfl) ?_
  refine aS (by kernel_rfl : opAt F35.o0 0 = some (some 2, .box 69 (.tmp 0), none)) rfl rfl (a_box (cs := [.int .i64 x.arr.len, u, m]) hF 3 rfl rfl) ?_
  rintro _ w1 ⟨Cw1, bw1, rfl, hs, hg, hF⟩
  refine ⟨trivial, ?_⟩
  replace hT := hT.trans hs (by simp)
  replace hm := hm.st hs (by first | decide | (simp <;> omega))
  replace hm2 := hm2.st hs (by first | decide | (simp <;> omega))
  refine aS (by kernel_rfl : opAt F35.o0 1 = some (some 3, .box 69 (.tmp 1), none)) rfl rfl (a_box (cs := [.int .i64 y.arr.len, u2, m2]) hF 3 rfl rfl) ?_
  rintro _ w2 ⟨Cw2, bw2, rfl, hs, hk, hF⟩
  refine ⟨trivial, ?_⟩
  replace hT := hT.trans hs (by simp)
  replace hm := hm.st hs (by first | decide | (simp <;> omega))
  replace hm2 := hm2.st hs (by first | decide | (simp <;> omega))
  replace hg := hg.st hs (by first | decide | (simp <;> omega))
  refine yS (by kernel_rfl : opAt F35.o0 2 = some (some 4, .assign (.const (.int .i64 0)), none)) rfl rfl (fun w' hS => val_assign rfl) ?_
  refine Sch.nil ?_
  refine run_seq (x := F35.c3) (y := F35.c4) (by kernel_rfl) ?_
  refine run_draw (id := 1) (ops := F35.o1) [] (Cw2) [(0, true), (1, true), (2, true), (3, true), (4, true), (5, true), (6, true), (7, true), (8, true), (9, true), (10, false), (11, true)] Try_mixed (by kernel_rfl) (by kernel_rfl) (by kernel_rfl) ?_
  intro w3 hs
  replace hF := hF.st hs
  replace hT := hT.trans hs (by simp)
  replace hm := hm.st hs (by first | decide | (simp <;> omega))
  replace hm2 := hm2.st hs (by first | decide | (simp <;> omega))
  replace hg := hg.st hs (by first | decide | (simp <;> omega))
  replace hk := hk.st hs (by first | decide | (simp <;> omega))
  have hR := Stp.refl [] w3 (Cw2)
  refine yS (by kernel_rfl : opAt F35.o1 0 = some (some 5, .fieldAddr 69 (.tmp 2) 0, none)) rfl rfl (fun w' hS => val_fieldAddr (off := 0) (by kernel_rfl) rfl) ?_
  refine yS (by kernel_rfl : opAt F35.o1 1 = some (some 6, .fieldAddr 35 (.tmp 5) 1, none)) rfl rfl (fun w' hS => val_fieldAddr (off := 2) (by kernel_rfl) rfl) ?_
  refine yS (by kernel_rfl : opAt F35.o1 2 = some (some 7, .load 22 (.tmp 6), none)) rfl rfl (fun w' hS => val_loadOwn (hg.stay hS (by decide)) (by kernel_rfl) rfl rfl) ?_
  refine iS (e := 3) (by kernel_rfl : opAt F35.o1 3 = some (some 8, .indexAddr 22 (.tmp 7) (.const (.int .i64 0)), none)) rfl rfl hm rfl (by kernel_rfl) rfl (by omega) (by omega) ?_
  intro b8 o8 h8
  try simp only [Int.toNat_natCast] at h8
  refine lS (by kernel_rfl : opAt F35.o1 4 = some (some 9, .load 3 (.tmp 8), none)) rfl rfl (fun w' hS => h8.stay hS (by first | decide | (simp <;> omega))) h8 (by kernel_rfl) rfl rfl ?_
  intro v9 g9
  first | (obtain rfl := rv_nat.1 g9) | (obtain rfl := rv_int.1 g9)
  rw [head_at]
  refine yS (by kernel_rfl : opAt F35.o1 5 = some (some 10, .fieldAddr 69 (.tmp 3) 0, none)) rfl rfl (fun w' hS => val_fieldAddr (off := 0) (by kernel_rfl) rfl) ?_
  refine yS (by kernel_rfl : opAt F35.o1 6 = some (some 11, .fieldAddr 35 (.tmp 10) 1, none)) rfl rfl (fun w' hS => val_fieldAddr (off := 2) (by kernel_rfl) rfl) ?_
  refine yS (by kernel_rfl : opAt F35.o1 7 = some (some 12, .load 22 (.tmp 11), none)) rfl rfl (fun w' hS => val_loadOwn (hk.stay hS (by decide)) (by kernel_rfl) rfl rfl) ?_
  refine iS (e := 3) (by kernel_rfl : opAt F35.o1 8 = some (some 13, .indexAddr 22 (.tmp 12) (.const (.int .i64 0)), none)) rfl rfl hm2 rfl (by kernel_rfl) rfl (by omega) (by omega) ?_
  intro b13 o13 h13
  try simp only [Int.toNat_natCast] at h13
  refine lS (by kernel_rfl : opAt F35.o1 9 = some (some 14, .load 3 (.tmp 13), none)) rfl rfl (fun w' hS => h13.stay hS (by first | decide | (simp <;> omega))) h13 (by kernel_rfl) rfl rfl ?_
  intro v14 g14
  first | (obtain rfl := rv_nat.1 g14) | (obtain rfl := rv_int.1 g14)
  rw [head_at]
  refine cS (by kernel_rfl : opAt F35.o1 10 = some (some 15, .call { callee := .value (.func 51), args := #[(.tmp 9), (.tmp 14)], argTypes := #[3, 3] }, none)) rfl rfl (ent Try.call51 rfl) (cmpI_ok _ _ _) ?_
  rintro vw4 w4 ⟨rfl, rfl⟩
  refine ⟨hR.ext, ?_⟩
  refine yS (by kernel_rfl : opAt F35.o1 11 = some (some 4, .assign (.tmp 15), none)) rfl rfl (fun w' hS => val_assign rfl) ?_
  refine Sch.nil ?_
  refine run_ret1 (by kernel_rfl) Try.func35 Try.results35 rfl ?_
  exact ⟨rfl, hT.out1 (by decide)⟩
end Go.Proofs.Ytbdlkdiadplmcaa
