/- Steps through functions of the program. -/
import Derived.Test.YtejbklahkkjmhaaRows
import Derived.Test.YtejbklahkkjmhaaL1
set_option linter.unusedVariables false
set_option linter.unusedSimpArgs false
set_option maxRecDepth 100000
set_option maxHeartbeats 400000
namespace Go.Proofs.Ytejbklahkkjmhaa
open Go.K Go.K.Rep

theorem Try_mixed : Try.prog.follows .mixedOrders = true := Try.checked.mixed

namespace F9
noncomputable def c0 : Code := bodyOf Try.f9
noncomputable def c1 : Code := cl c0
noncomputable def o0 : Array Oper := rops c1
noncomputable def c2 : Code := cr c0
noncomputable def c3 : Code := cl c2
noncomputable def o1 : Array Oper := rops c3
noncomputable def c4 : Code := cr c2
end F9
theorem few_ok (a : Option Addr) (l c : Nat) (w : World) : Calls Try.prog 9 #[.slice a l c] w (Ret fun v w' => v = .bool (decide ((l : Int) ≤ 400)) ∧ w' = w) := by
  refine calls_start (c := F9.c0) (N := 6) [.slice a l c] Try.func9 (by kernel_rfl) (by kernel_rfl) (by kernel_rfl) ?_
  show Run _ _ _ _ [(0, .slice a l c)] _ _
  refine run_seq (x := F9.c1) (y := F9.c2) (by kernel_rfl) ?_
  refine run_plain (id := 0) (ops := F9.o0) [(0, true)] (by kernel_rfl) (by kernel_rfl) ?_
  refine yS (by kernel_rfl : opAt F9.o0 0 = some (some 2, .assign (.const (.bool false)), none)) rfl rfl (fun w' hS => val_assign rfl) ?_
  refine Sch.nil ?_
  refine run_seq (x := F9.c3) (y := F9.c4) (by kernel_rfl) ?_
  refine run_plain (id := 1) (ops := F9.o1) [(0, true), (1, true), (2, true), (3, true)] (by kernel_rfl) (by kernel_rfl) ?_
  refine yS (by kernel_rfl : opAt F9.o1 0 = some (some 3, .move (.tmp 0), none)) rfl rfl (fun w' hS => val_move rfl) ?_
  refine yS (by kernel_rfl : opAt F9.o1 1 = some (some 4, .call { callee := .builtin .len, args := #[(.tmp 3)], argTypes := #[22] }, none)) rfl rfl (fun w' hS => val_len_slice rfl Try.underlying22) ?_
  refine yS (by kernel_rfl : opAt F9.o1 2 = some (some 5, .binOp .leq 3 (.tmp 4) (.const (.int .i64 400)) 3, none)) rfl rfl (fun w' hS => val_leq rfl rfl) ?_
  refine yS (by kernel_rfl : opAt F9.o1 3 = some (some 2, .assign (.tmp 5), none)) rfl rfl (fun w' hS => val_assign rfl) ?_
  refine Sch.nil ?_
  refine run_ret1 (by kernel_rfl) Try.func9 Try.results9 rfl ?_
  exact ⟨rfl, rfl⟩
namespace F10
noncomputable def c0 : Code := bodyOf Try.f10
noncomputable def c1 : Code := cl c0
noncomputable def o0 : Array Oper := rops c1
noncomputable def c2 : Code := cr c0
noncomputable def c3 : Code := cl c2
noncomputable def o1 : Array Oper := rops c3
noncomputable def c4 : Code := cr c2
end F10
/-- A new deck; it bears colour 3, which nobody else may bear. -/
theorem new_ok {w : World} {C : Nat → Nat} {l : List Int} {vl : Value} (hF : Lim w C) (hl : RV w (Mc C) l vl) : Calls Try.prog 10 #[vl] w (Ret fun v w' => ∃ C' b, v = .pointer (some ⟨b, 0, none⟩) ∧ Stp [] w C w' C' ∧ Lim w' C' ∧ DeckAt 55 w' C' 3 b ⟨l, 0, 11400714819323198485⟩) := by
  have hT := Stp.refl [] w C
  refine calls_start (c := F10.c0) (N := 6) [vl] Try.func10 (by kernel_rfl) (by kernel_rfl) (by kernel_rfl) ?_
  show Run _ _ _ _ [(0, vl)] _ _
  refine run_seq (x := F10.c1) (y := F10.c2) (by kernel_rfl) ?_
  refine run_plain (id := 0) (ops := F10.o0) [(0, true)] (by kernel_rfl) (by kernel_rfl) ?_
  refine yS (by kernel_rfl : opAt F10.o0 0 = some (some 2, .assign (.const (.pointer none)), none)) rfl rfl (fun w' hS => val_assign rfl) ?_
  refine Sch.nil ?_
  refine run_seq (x := F10.c3) (y := F10.c4) (by kernel_rfl) ?_
  refine run_plain (id := 1) (ops := F10.o1) [(0, true), (1, true), (2, false), (3, true)] (by kernel_rfl) (by kernel_rfl) ?_
  refine yS (by kernel_rfl : opAt F10.o1 0 = some (some 3, .move (.tmp 0), none)) rfl rfl (fun w' hS => val_move rfl) ?_
  refine yS (by kernel_rfl : opAt F10.o1 1 = some (some 4, .build 55 #[(0, (.tmp 3)), (2, (.const (.int .u64 11400714819323198485)))], none)) rfl rfl (fun w' hS => val_build (zs := [.slice none 0 0, .int .i64 0, .int .u64 0]) (ps := [(0, 1), (1, 1), (2, 1)]) (qs := [(0, [vl]), (2, [.int .u64 11400714819323198485])]) (cs := [vl, .int .i64 0, .int .u64 11400714819323198485]) (by kernel_rfl) (by kernel_rfl) ⟨rfl, ⟨_, rfl, (hl.one rfl).1⟩, rfl, ⟨_, rfl, rfl⟩, trivial⟩ rfl) ?_
  refine aS (by kernel_rfl : opAt F10.o1 2 = some (some 5, .box 55 (.tmp 4), none)) rfl rfl (a_box (cs := [vl, .int .i64 0, .int .u64 11400714819323198485]) hF 3 rfl rfl) ?_
  rintro _ w1 ⟨Cw1, bw1, rfl, hs, hb, hF⟩
  refine ⟨trivial, ?_⟩
  replace hl := hl.st hs (by first | decide | (simp <;> omega))
  replace hT := hT.trans hs (by simp)
  refine yS (by kernel_rfl : opAt F10.o1 3 = some (some 2, .assign (.tmp 5), none)) rfl rfl (fun w' hS => val_assign rfl) ?_
  refine Sch.nil ?_
  refine run_ret1 (by kernel_rfl) Try.func10 Try.results10 rfl ?_
  exact ⟨_, _, rfl, hT, hF, Nat.zero_le _, vl, hl, hb⟩
namespace F30
noncomputable def c0 : Code := bodyOf Try.f30
noncomputable def c1 : Code := cl c0
noncomputable def o0 : Array Oper := rops c1
noncomputable def c2 : Code := cr c0
noncomputable def c3 : Code := cl c2
noncomputable def o1 : Array Oper := rops c3
noncomputable def c4 : Code := cr c2
noncomputable def c5 : Code := cl c4
noncomputable def c6 : Code := cl c5
noncomputable def o2 : Array Oper := rops c6
noncomputable def c7 : Code := cr c5
noncomputable def c8 : Code := cl c7
noncomputable def c9 : Code := cl c8
noncomputable def o3 : Array Oper := rops c9
noncomputable def c10 : Code := cr c8
noncomputable def o4 : Array Oper := rops c10
noncomputable def c11 : Code := cr c7
noncomputable def c12 : Code := cr c4
noncomputable def c13 : Code := cl c12
noncomputable def o5 : Array Oper := rops c13
noncomputable def c14 : Code := cr c12
noncomputable def c15 : Code := cl c14
noncomputable def o6 : Array Oper := rops c15
noncomputable def c16 : Code := cr c14
noncomputable def c17 : Code := cl c16
noncomputable def o7 : Array Oper := rops c17
noncomputable def c18 : Code := cr c16
noncomputable def c19 : Code := cl c18
noncomputable def o8 : Array Oper := rops c19
noncomputable def c20 : Code := cr c18
end F30
/-- A word is dealt. -/
theorem word_ok {w : World} {C : Nat → Nat} {i b : Nat} {d : Dk} (hF : Lim w C) (hi : i ≠ 0) (hd : DeckAt 55 w C i b d) (hlen : d.list.length ≤ 9223372036854775807) : Calls Try.prog 30 #[.pointer (some ⟨b, 0, none⟩)] w (Ret fun v w' => v = .int .u64 d.word ∧ Stp [i] w C w' C ∧ DeckAt 55 w' C i b d.next) := by
  obtain ⟨hat, vl, hl, hb⟩ := hd.col2 hi
  have hbc : C b = i := by obtain ⟨_, _, _, h⟩ := hd; exact h.col
  have hF0 := hF
  replace hF := hF.col2 i
  have hT := Stp.refl [2, 3, 4, 5, 6, 7, 8, 9] w (col2 C i)
  refine calls_start (c := F30.c0) (N := 60) [.pointer (some ⟨b, 0, none⟩)] Try.func30 (by kernel_rfl) (by kernel_rfl) (by kernel_rfl) ?_
  show Run _ _ _ _ [(0, .pointer (some ⟨b, 0, none⟩))] _ _
  refine run_seq (x := F30.c1) (y := F30.c2) (by kernel_rfl) ?_
  refine run_plain (id := 0) (ops := F30.o0) [(0, true)] (by kernel_rfl) (by kernel_rfl) ?_
  refine yS (by kernel_rfl : opAt F30.o0 0 = some (some 2, .assign (.const (.int .u64 0)), none)) rfl rfl (fun w' hS => val_assign rfl) ?_
  refine Sch.nil ?_
  refine run_seq (x := F30.c3) (y := F30.c4) (by kernel_rfl) ?_
  refine run_plain (id := 1) (ops := F30.o1) [(0, true)] (by kernel_rfl) (by kernel_rfl) ?_
  refine yS (by kernel_rfl : opAt F30.o1 0 = some (some 3, .assign (.const (.int .u64 0)), none)) rfl rfl (fun w' hS => val_assign rfl) ?_
  refine Sch.nil ?_
  refine run_seq (x := F30.c5) (y := F30.c12) (by kernel_rfl) ?_
  refine run_seq (x := F30.c6) (y := F30.c7) (by kernel_rfl) ?_
  refine run_draw (id := 2) (ops := F30.o2) [] (col2 C i) [(0, true), (1, true), (2, true), (3, true), (4, true), (5, true), (6, true), (7, true), (8, true), (9, true)] Try_mixed (by kernel_rfl) (by kernel_rfl) (by kernel_rfl) ?_
  intro w1 hs
  replace hl := hl.st hs (by first | decide | (simp <;> omega))
  replace hb := hb.st hs (by first | decide | (simp <;> omega))
  replace hF := hF.st hs
  replace hT := hT.trans hs (by simp)
  refine yS (by kernel_rfl : opAt F30.o2 0 = some (some 5, .move (.tmp 0), none)) rfl rfl (fun w' hS => val_move rfl) ?_
  refine yS (by kernel_rfl : opAt F30.o2 1 = some (some 6, .nilCheck (.tmp 5), none)) rfl rfl (fun w' hS => val_nilCheck rfl) ?_
  refine yS (by kernel_rfl : opAt F30.o2 2 = some (some 7, .fieldAddr 55 (.tmp 6) 1, none)) rfl rfl (fun w' hS => val_fieldAddr (off := 1) (by kernel_rfl) rfl) ?_
  refine yS (by kernel_rfl : opAt F30.o2 3 = some (some 8, .load 3 (.tmp 7), none)) rfl rfl (fun w' hS => val_loadOwn (hb.stay hS (by decide)) (by kernel_rfl) rfl rfl) ?_
  refine yS (by kernel_rfl : opAt F30.o2 4 = some (some 9, .move (.tmp 0), none)) rfl rfl (fun w' hS => val_move rfl) ?_
  refine yS (by kernel_rfl : opAt F30.o2 5 = some (some 10, .nilCheck (.tmp 9), none)) rfl rfl (fun w' hS => val_nilCheck rfl) ?_
  refine yS (by kernel_rfl : opAt F30.o2 6 = some (some 11, .fieldAddr 55 (.tmp 10) 0, none)) rfl rfl (fun w' hS => val_fieldAddr (off := 0) (by kernel_rfl) rfl) ?_
  refine yS (by kernel_rfl : opAt F30.o2 7 = some (some 12, .load 22 (.tmp 11), none)) rfl rfl (fun w' hS => val_loadOwn (hb.stay hS (by decide)) (by kernel_rfl) rfl rfl) ?_
  refine yS (by kernel_rfl : opAt F30.o2 8 = some (some 13, .call { callee := .builtin .len, args := #[(.tmp 12)], argTypes := #[22] }, none)) rfl rfl (fun w' hS => hl.lenV rfl Try.underlying22 w' ) ?_
  refine yS (by kernel_rfl : opAt F30.o2 9 = some (some 14, .binOp .lss 3 (.tmp 8) (.tmp 13) 3, none)) rfl rfl (fun w' hS => val_lss rfl rfl) ?_
  refine Sch.nil ?_
  refine run_if (x := F30.c8) (y := F30.c11) (o := .tmp 14) (by kernel_rfl) rfl (fun h14 => ?_) (fun h14 => ?_)
  · skip
    have hx : d.x = IntKind.u64.wrap d.list[d.at_] := by unfold Dk.x; rw [dif_pos (by omega)]
    have hn : d.next = ⟨d.list, d.at_ + 1, mix d.state d.x⟩ := by unfold Dk.next; rw [if_pos (by omega)]
    refine run_seq (x := F30.c9) (y := F30.c10) (by kernel_rfl) ?_
    refine run_draw (id := 3) (ops := F30.o3) [] (col2 C i) [(0, true), (1, true), (2, true), (3, true), (4, true), (5, true), (6, true), (7, true), (8, true), (9, true), (10, true), (11, true)] Try_mixed (by kernel_rfl) (by kernel_rfl) (by kernel_rfl) ?_
    intro w2 hs
    replace hl := hl.st hs (by first | decide | (simp <;> omega))
    replace hb := hb.st hs (by first | decide | (simp <;> omega))
    replace hF := hF.st hs
    replace hT := hT.trans hs (by simp)
    refine yS (by kernel_rfl : opAt F30.o3 0 = some (some 15, .move (.tmp 0), none)) rfl rfl (fun w' hS => val_move rfl) ?_
    refine yS (by kernel_rfl : opAt F30.o3 1 = some (some 16, .nilCheck (.tmp 15), none)) rfl rfl (fun w' hS => val_nilCheck rfl) ?_
    refine yS (by kernel_rfl : opAt F30.o3 2 = some (some 17, .fieldAddr 55 (.tmp 16) 0, none)) rfl rfl (fun w' hS => val_fieldAddr (off := 0) (by kernel_rfl) rfl) ?_
    refine yS (by kernel_rfl : opAt F30.o3 3 = some (some 18, .load 22 (.tmp 17), none)) rfl rfl (fun w' hS => val_loadOwn (hb.stay hS (by decide)) (by kernel_rfl) rfl rfl) ?_
    refine yS (by kernel_rfl : opAt F30.o3 4 = some (some 19, .move (.tmp 0), none)) rfl rfl (fun w' hS => val_move rfl) ?_
    refine yS (by kernel_rfl : opAt F30.o3 5 = some (some 20, .nilCheck (.tmp 19), none)) rfl rfl (fun w' hS => val_nilCheck rfl) ?_
    refine yS (by kernel_rfl : opAt F30.o3 6 = some (some 21, .fieldAddr 55 (.tmp 20) 1, none)) rfl rfl (fun w' hS => val_fieldAddr (off := 1) (by kernel_rfl) rfl) ?_
    refine yS (by kernel_rfl : opAt F30.o3 7 = some (some 22, .load 3 (.tmp 21), none)) rfl rfl (fun w' hS => val_loadOwn (hb.stay hS (by decide)) (by kernel_rfl) rfl rfl) ?_
    refine iS (e := 3) (by kernel_rfl : opAt F30.o3 8 = some (some 23, .indexAddr 22 (.tmp 18) (.tmp 22), none)) rfl rfl hl rfl (by kernel_rfl) rfl (by omega) (by omega) ?_
    intro b23 o23 h23
    try simp only [Int.toNat_natCast] at h23
    refine lS (by kernel_rfl : opAt F30.o3 9 = some (some 24, .load 3 (.tmp 23), none)) rfl rfl (fun w' hS => h23.stay hS (by first | decide | (simp <;> omega))) h23 (by kernel_rfl) rfl rfl ?_
    intro v24 g24
    first | (obtain rfl := rv_nat.1 g24) | (obtain rfl := rv_int.1 g24)
    refine yS (by kernel_rfl : opAt F30.o3 10 = some (some 25, .convert 3 42 (.tmp 24), none)) rfl rfl (fun w' hS => val_conv_int rfl ⟨_, Try.underlying3⟩ Try.underlying42) ?_
    refine yS (by kernel_rfl : opAt F30.o3 11 = some (some 3, .assign (.tmp 25), none)) rfl rfl (fun w' hS => val_assign rfl) ?_
    refine Sch.nil ?_
    refine run_plain (id := 4) (ops := F30.o4) [(0, true), (1, true), (2, true), (3, false), (4, true), (5, true), (6, true), (7, false)] (by kernel_rfl) (by kernel_rfl) ?_
    refine yS (by kernel_rfl : opAt F30.o4 0 = some (some 26, .move (.tmp 0), none)) rfl rfl (fun w' hS => val_move rfl) ?_
    refine yS (by kernel_rfl : opAt F30.o4 1 = some (some 27, .nilCheck (.tmp 26), none)) rfl rfl (fun w' hS => val_nilCheck rfl) ?_
    refine yS (by kernel_rfl : opAt F30.o4 2 = some (some 28, .fieldAddr 55 (.tmp 27) 1, none)) rfl rfl (fun w' hS => val_fieldAddr (off := 1) (by kernel_rfl) rfl) ?_
    refine nS (by kernel_rfl : opAt F30.o4 3 = some (some 29, .load 3 (.tmp 28), none)) rfl rfl trivial (val_loadOwn hb.at_ (by kernel_rfl) rfl rfl) ?_
    refine yS (by kernel_rfl : opAt F30.o4 4 = some (some 30, .binOp .add 3 (.tmp 29) (.const (.int .i64 1)) 3, none)) rfl rfl (fun w' hS => val_addi rfl rfl (by omega) (by omega)) ?_
    refine yS (by kernel_rfl : opAt F30.o4 5 = some (some 31, .nilCheck (.tmp 26), none)) rfl rfl (fun w' hS => val_nilCheck rfl) ?_
    refine yS (by kernel_rfl : opAt F30.o4 6 = some (some 32, .fieldAddr 55 (.tmp 31) 1, none)) rfl rfl (fun w' hS => val_fieldAddr (off := 1) (by kernel_rfl) rfl) ?_
    refine aN (by kernel_rfl : opAt F30.o4 7 = some (none, .store 3 (.tmp 32) (.tmp 30), none)) rfl (a_store1 rfl rfl (by kernel_rfl) rfl rfl hb (by simp)) ?_
    rintro _ w3 ⟨rfl, hs, hb⟩
    refine ⟨trivial, ?_⟩
    replace hl := hl.st hs (by first | decide | (simp <;> omega))
    replace hF := hF.st hs
    replace hT := hT.trans hs (by simp)
    replace h23 := h23.st hs (by first | decide | (simp <;> omega))
    refine Sch.nil ?_
    refine run_seq (x := F30.c13) (y := F30.c14) (by kernel_rfl) ?_
    refine run_plain (id := 5) (ops := F30.o5) [(0, true), (1, true), (2, true), (3, true), (4, false), (5, true), (6, true), (7, true), (8, true), (9, true), (10, true), (11, false)] (by kernel_rfl) (by kernel_rfl) ?_
    refine yS (by kernel_rfl : opAt F30.o5 0 = some (some 33, .move (.tmp 0), none)) rfl rfl (fun w' hS => val_move rfl) ?_
    refine yS (by kernel_rfl : opAt F30.o5 1 = some (some 34, .move (.tmp 0), none)) rfl rfl (fun w' hS => val_move rfl) ?_
    refine yS (by kernel_rfl : opAt F30.o5 2 = some (some 35, .nilCheck (.tmp 34), none)) rfl rfl (fun w' hS => val_nilCheck rfl) ?_
    refine yS (by kernel_rfl : opAt F30.o5 3 = some (some 36, .fieldAddr 55 (.tmp 35) 2, none)) rfl rfl (fun w' hS => val_fieldAddr (off := 2) (by kernel_rfl) rfl) ?_
    refine nS (by kernel_rfl : opAt F30.o5 4 = some (some 37, .load 42 (.tmp 36), none)) rfl rfl trivial (val_loadOwn hb.at_ (by kernel_rfl) rfl rfl) ?_
    refine yS (by kernel_rfl : opAt F30.o5 5 = some (some 38, .move (.tmp 3), none)) rfl rfl (fun w' hS => val_move rfl) ?_
    refine yS (by kernel_rfl : opAt F30.o5 6 = some (some 39, .binOp .add 42 (.tmp 37) (.tmp 38) 42, none)) rfl rfl (fun w' hS => val_add rfl rfl) ?_
    refine yS (by kernel_rfl : opAt F30.o5 7 = some (some 40, .binOp .mul 42 (.tmp 39) (.const (.int .u64 6364136223846793005)) 42, none)) rfl rfl (fun w' hS => val_mul rfl rfl) ?_
    refine yS (by kernel_rfl : opAt F30.o5 8 = some (some 41, .binOp .add 42 (.tmp 40) (.const (.int .u64 1442695040888963407)) 42, none)) rfl rfl (fun w' hS => val_add rfl rfl) ?_
    refine yS (by kernel_rfl : opAt F30.o5 9 = some (some 42, .nilCheck (.tmp 33), none)) rfl rfl (fun w' hS => val_nilCheck rfl) ?_
    refine yS (by kernel_rfl : opAt F30.o5 10 = some (some 43, .fieldAddr 55 (.tmp 42) 2, none)) rfl rfl (fun w' hS => val_fieldAddr (off := 2) (by kernel_rfl) rfl) ?_
    refine aN (by kernel_rfl : opAt F30.o5 11 = some (none, .store 42 (.tmp 43) (.tmp 41), none)) rfl (a_store1 rfl rfl (by kernel_rfl) rfl rfl hb (by simp)) ?_
    rintro _ w4 ⟨rfl, hs, hb⟩
    refine ⟨trivial, ?_⟩
    replace hl := hl.st hs (by first | decide | (simp <;> omega))
    replace hF := hF.st hs
    replace hT := hT.trans hs (by simp)
    replace h23 := h23.st hs (by first | decide | (simp <;> omega))
    refine Sch.nil ?_
    refine run_seq (x := F30.c15) (y := F30.c16) (by kernel_rfl) ?_
    refine run_draw (id := 6) (ops := F30.o6) [] (col2 C i) [(0, true), (1, true), (2, true), (3, true), (4, true), (5, true), (6, true), (7, true), (8, true), (9, true), (10, true)] Try_mixed (by kernel_rfl) (by kernel_rfl) (by kernel_rfl) ?_
    intro w5 hs
    replace hl := hl.st hs (by first | decide | (simp <;> omega))
    replace hb := hb.st hs (by first | decide | (simp <;> omega))
    replace hF := hF.st hs
    replace hT := hT.trans hs (by simp)
    replace h23 := h23.st hs (by first | decide | (simp <;> omega))
    refine yS (by kernel_rfl : opAt F30.o6 0 = some (some 44, .move (.tmp 0), none)) rfl rfl (fun w' hS => val_move rfl) ?_
    refine yS (by kernel_rfl : opAt F30.o6 1 = some (some 45, .nilCheck (.tmp 44), none)) rfl rfl (fun w' hS => val_nilCheck rfl) ?_
    refine yS (by kernel_rfl : opAt F30.o6 2 = some (some 46, .fieldAddr 55 (.tmp 45) 2, none)) rfl rfl (fun w' hS => val_fieldAddr (off := 2) (by kernel_rfl) rfl) ?_
    refine yS (by kernel_rfl : opAt F30.o6 3 = some (some 47, .load 42 (.tmp 46), none)) rfl rfl (fun w' hS => val_loadOwn (hb.stay hS (by decide)) (by kernel_rfl) rfl rfl) ?_
    refine yS (by kernel_rfl : opAt F30.o6 4 = some (some 48, .move (.tmp 0), none)) rfl rfl (fun w' hS => val_move rfl) ?_
    refine yS (by kernel_rfl : opAt F30.o6 5 = some (some 49, .nilCheck (.tmp 48), none)) rfl rfl (fun w' hS => val_nilCheck rfl) ?_
    refine yS (by kernel_rfl : opAt F30.o6 6 = some (some 50, .fieldAddr 55 (.tmp 49) 2, none)) rfl rfl (fun w' hS => val_fieldAddr (off := 2) (by kernel_rfl) rfl) ?_
    refine yS (by kernel_rfl : opAt F30.o6 7 = some (some 51, .load 42 (.tmp 50), none)) rfl rfl (fun w' hS => val_loadOwn (hb.stay hS (by decide)) (by kernel_rfl) rfl rfl) ?_
    refine yS (by kernel_rfl : opAt F30.o6 8 = some (some 52, .binOp .shr 42 (.tmp 51) (.const (.int .u64 33)) 57, none)) rfl rfl (fun w' hS => val_shr rfl rfl (by omega)) ?_
    refine yS (by kernel_rfl : opAt F30.o6 9 = some (some 53, .binOp .xor 42 (.tmp 47) (.tmp 52) 42, none)) rfl rfl (fun w' hS => val_xor rfl rfl) ?_
    refine yS (by kernel_rfl : opAt F30.o6 10 = some (some 4, .assign (.tmp 53), none)) rfl rfl (fun w' hS => val_assign rfl) ?_
    refine Sch.nil ?_
    refine run_seq (x := F30.c17) (y := F30.c18) (by kernel_rfl) ?_
    refine run_plain (id := 7) (ops := F30.o7) [(0, true), (1, true), (2, true)] (by kernel_rfl) (by kernel_rfl) ?_
    refine yS (by kernel_rfl : opAt F30.o7 0 = some (some 54, .move (.tmp 4), none)) rfl rfl (fun w' hS => val_move rfl) ?_
    refine yS (by kernel_rfl : opAt F30.o7 1 = some (some 55, .binOp .mul 42 (.tmp 54) (.const (.int .u64 18397679294719823053)) 42, none)) rfl rfl (fun w' hS => val_mul rfl rfl) ?_
    refine yS (by kernel_rfl : opAt F30.o7 2 = some (some 4, .assign (.tmp 55), none)) rfl rfl (fun w' hS => val_assign rfl) ?_
    refine Sch.nil ?_
    refine run_seq (x := F30.c19) (y := F30.c20) (by kernel_rfl) ?_
    refine run_plain (id := 8) (ops := F30.o8) [(0, true), (1, true), (2, true), (3, true), (4, true)] (by kernel_rfl) (by kernel_rfl) ?_
    refine yS (by kernel_rfl : opAt F30.o8 0 = some (some 56, .move (.tmp 4), none)) rfl rfl (fun w' hS => val_move rfl) ?_
    refine yS (by kernel_rfl : opAt F30.o8 1 = some (some 57, .move (.tmp 4), none)) rfl rfl (fun w' hS => val_move rfl) ?_
    refine yS (by kernel_rfl : opAt F30.o8 2 = some (some 58, .binOp .shr 42 (.tmp 57) (.const (.int .u64 29)) 57, none)) rfl rfl (fun w' hS => val_shr rfl rfl (by omega)) ?_
    refine yS (by kernel_rfl : opAt F30.o8 3 = some (some 59, .binOp .xor 42 (.tmp 56) (.tmp 58) 42, none)) rfl rfl (fun w' hS => val_xor rfl rfl) ?_
    refine yS (by kernel_rfl : opAt F30.o8 4 = some (some 2, .assign (.tmp 59), none)) rfl rfl (fun w' hS => val_assign rfl) ?_
    refine Sch.nil ?_
    refine run_ret1 (by kernel_rfl) Try.func30 Try.results30 rfl ?_
    refine ⟨eq_int (by simp only [Dk.word, Dk.next, stir1, stir2, mix, hx]), hT.out2 (by decide), DeckAt.out (d := d.next) ?_ hT hF0 hbc⟩
    rw [hn]
    simp only [List.set_cons_succ, List.set_cons_zero] at hb
    refine ⟨by simp only; omega, vl, hl, ?_⟩
    simpa [mix, hx] using hb
  · skip
    have hx : d.x = 0 := by unfold Dk.x; rw [dif_neg (by omega)]
    have hn : d.next = ⟨d.list, d.at_, mix d.state d.x⟩ := by unfold Dk.next; rw [if_neg (by omega)]
    refine run_skip (by kernel_rfl) ?_
    refine run_seq (x := F30.c13) (y := F30.c14) (by kernel_rfl) ?_
    refine run_plain (id := 5) (ops := F30.o5) [(0, true), (1, true), (2, true), (3, true), (4, false), (5, true), (6, true), (7, true), (8, true), (9, true), (10, true), (11, false)] (by kernel_rfl) (by kernel_rfl) ?_
    refine yS (by kernel_rfl : opAt F30.o5 0 = some (some 33, .move (.tmp 0), none)) rfl rfl (fun w' hS => val_move rfl) ?_
    refine yS (by kernel_rfl : opAt F30.o5 1 = some (some 34, .move (.tmp 0), none)) rfl rfl (fun w' hS => val_move rfl) ?_
    refine yS (by kernel_rfl : opAt F30.o5 2 = some (some 35, .nilCheck (.tmp 34), none)) rfl rfl (fun w' hS => val_nilCheck rfl) ?_
    refine yS (by kernel_rfl : opAt F30.o5 3 = some (some 36, .fieldAddr 55 (.tmp 35) 2, none)) rfl rfl (fun w' hS => val_fieldAddr (off := 2) (by kernel_rfl) rfl) ?_
    refine nS (by kernel_rfl : opAt F30.o5 4 = some (some 37, .load 42 (.tmp 36), none)) rfl rfl trivial (val_loadOwn hb.at_ (by kernel_rfl) rfl rfl) ?_
    refine yS (by kernel_rfl : opAt F30.o5 5 = some (some 38, .move (.tmp 3), none)) rfl rfl (fun w' hS => val_move rfl) ?_
    refine yS (by kernel_rfl : opAt F30.o5 6 = some (some 39, .binOp .add 42 (.tmp 37) (.tmp 38) 42, none)) rfl rfl (fun w' hS => val_add rfl rfl) ?_
    refine yS (by kernel_rfl : opAt F30.o5 7 = some (some 40, .binOp .mul 42 (.tmp 39) (.const (.int .u64 6364136223846793005)) 42, none)) rfl rfl (fun w' hS => val_mul rfl rfl) ?_
    refine yS (by kernel_rfl : opAt F30.o5 8 = some (some 41, .binOp .add 42 (.tmp 40) (.const (.int .u64 1442695040888963407)) 42, none)) rfl rfl (fun w' hS => val_add rfl rfl) ?_
    refine yS (by kernel_rfl : opAt F30.o5 9 = some (some 42, .nilCheck (.tmp 33), none)) rfl rfl (fun w' hS => val_nilCheck rfl) ?_
    refine yS (by kernel_rfl : opAt F30.o5 10 = some (some 43, .fieldAddr 55 (.tmp 42) 2, none)) rfl rfl (fun w' hS => val_fieldAddr (off := 2) (by kernel_rfl) rfl) ?_
    refine aN (by kernel_rfl : opAt F30.o5 11 = some (none, .store 42 (.tmp 43) (.tmp 41), none)) rfl (a_store1 rfl rfl (by kernel_rfl) rfl rfl hb (by simp)) ?_
    rintro _ w6 ⟨rfl, hs, hb⟩
    refine ⟨trivial, ?_⟩
    replace hl := hl.st hs (by first | decide | (simp <;> omega))
    replace hF := hF.st hs
    replace hT := hT.trans hs (by simp)
    refine Sch.nil ?_
    refine run_seq (x := F30.c15) (y := F30.c16) (by kernel_rfl) ?_
    refine run_draw (id := 6) (ops := F30.o6) [] (col2 C i) [(0, true), (1, true), (2, true), (3, true), (4, true), (5, true), (6, true), (7, true), (8, true), (9, true), (10, true)] Try_mixed (by kernel_rfl) (by kernel_rfl) (by kernel_rfl) ?_
    intro w7 hs
    replace hl := hl.st hs (by first | decide | (simp <;> omega))
    replace hb := hb.st hs (by first | decide | (simp <;> omega))
    replace hF := hF.st hs
    replace hT := hT.trans hs (by simp)
    refine yS (by kernel_rfl : opAt F30.o6 0 = some (some 44, .move (.tmp 0), none)) rfl rfl (fun w' hS => val_move rfl) ?_
    refine yS (by kernel_rfl : opAt F30.o6 1 = some (some 45, .nilCheck (.tmp 44), none)) rfl rfl (fun w' hS => val_nilCheck rfl) ?_
    refine yS (by kernel_rfl : opAt F30.o6 2 = some (some 46, .fieldAddr 55 (.tmp 45) 2, none)) rfl rfl (fun w' hS => val_fieldAddr (off := 2) (by kernel_rfl) rfl) ?_
    refine yS (by kernel_rfl : opAt F30.o6 3 = some (some 47, .load 42 (.tmp 46), none)) rfl rfl (fun w' hS => val_loadOwn (hb.stay hS (by decide)) (by kernel_rfl) rfl rfl) ?_
    refine yS (by kernel_rfl : opAt F30.o6 4 = some (some 48, .move (.tmp 0), none)) rfl rfl (fun w' hS => val_move rfl) ?_
    refine yS (by kernel_rfl : opAt F30.o6 5 = some (some 49, .nilCheck (.tmp 48), none)) rfl rfl (fun w' hS => val_nilCheck rfl) ?_
    refine yS (by kernel_rfl : opAt F30.o6 6 = some (some 50, .fieldAddr 55 (.tmp 49) 2, none)) rfl rfl (fun w' hS => val_fieldAddr (off := 2) (by kernel_rfl) rfl) ?_
    refine yS (by kernel_rfl : opAt F30.o6 7 = some (some 51, .load 42 (.tmp 50), none)) rfl rfl (fun w' hS => val_loadOwn (hb.stay hS (by decide)) (by kernel_rfl) rfl rfl) ?_
    refine yS (by kernel_rfl : opAt F30.o6 8 = some (some 52, .binOp .shr 42 (.tmp 51) (.const (.int .u64 33)) 57, none)) rfl rfl (fun w' hS => val_shr rfl rfl (by omega)) ?_
    refine yS (by kernel_rfl : opAt F30.o6 9 = some (some 53, .binOp .xor 42 (.tmp 47) (.tmp 52) 42, none)) rfl rfl (fun w' hS => val_xor rfl rfl) ?_
    refine yS (by kernel_rfl : opAt F30.o6 10 = some (some 4, .assign (.tmp 53), none)) rfl rfl (fun w' hS => val_assign rfl) ?_
    refine Sch.nil ?_
    refine run_seq (x := F30.c17) (y := F30.c18) (by kernel_rfl) ?_
    refine run_plain (id := 7) (ops := F30.o7) [(0, true), (1, true), (2, true)] (by kernel_rfl) (by kernel_rfl) ?_
    refine yS (by kernel_rfl : opAt F30.o7 0 = some (some 54, .move (.tmp 4), none)) rfl rfl (fun w' hS => val_move rfl) ?_
    refine yS (by kernel_rfl : opAt F30.o7 1 = some (some 55, .binOp .mul 42 (.tmp 54) (.const (.int .u64 18397679294719823053)) 42, none)) rfl rfl (fun w' hS => val_mul rfl rfl) ?_
    refine yS (by kernel_rfl : opAt F30.o7 2 = some (some 4, .assign (.tmp 55), none)) rfl rfl (fun w' hS => val_assign rfl) ?_
    refine Sch.nil ?_
    refine run_seq (x := F30.c19) (y := F30.c20) (by kernel_rfl) ?_
    refine run_plain (id := 8) (ops := F30.o8) [(0, true), (1, true), (2, true), (3, true), (4, true)] (by kernel_rfl) (by kernel_rfl) ?_
    refine yS (by kernel_rfl : opAt F30.o8 0 = some (some 56, .move (.tmp 4), none)) rfl rfl (fun w' hS => val_move rfl) ?_
    refine yS (by kernel_rfl : opAt F30.o8 1 = some (some 57, .move (.tmp 4), none)) rfl rfl (fun w' hS => val_move rfl) ?_
    refine yS (by kernel_rfl : opAt F30.o8 2 = some (some 58, .binOp .shr 42 (.tmp 57) (.const (.int .u64 29)) 57, none)) rfl rfl (fun w' hS => val_shr rfl rfl (by omega)) ?_
    refine yS (by kernel_rfl : opAt F30.o8 3 = some (some 59, .binOp .xor 42 (.tmp 56) (.tmp 58) 42, none)) rfl rfl (fun w' hS => val_xor rfl rfl) ?_
    refine yS (by kernel_rfl : opAt F30.o8 4 = some (some 2, .assign (.tmp 59), none)) rfl rfl (fun w' hS => val_assign rfl) ?_
    refine Sch.nil ?_
    refine run_ret1 (by kernel_rfl) Try.func30 Try.results30 rfl ?_
    refine ⟨eq_int (by simp only [Dk.word, Dk.next, stir1, stir2, mix, hx]), hT.out2 (by decide), DeckAt.out (d := d.next) ?_ hT hF0 hbc⟩
    rw [hn]
    simp only [List.set_cons_succ, List.set_cons_zero] at hb
    refine ⟨by simp only; omega, vl, hl, ?_⟩
    simpa [mix, hx] using hb
namespace F11
noncomputable def c0 : Code := bodyOf Try.f11
noncomputable def c1 : Code := cl c0
noncomputable def o0 : Array Oper := rops c1
noncomputable def c2 : Code := cr c0
noncomputable def c3 : Code := cl c2
noncomputable def c4 : Code := cl c3
noncomputable def o1 : Array Oper := rops c4
noncomputable def c5 : Code := cr c3
noncomputable def c6 : Code := cl c5
noncomputable def c7 : Code := cl c6
noncomputable def o2 : Array Oper := rops c7
noncomputable def c8 : Code := cr c6
noncomputable def c9 : Code := cr c5
noncomputable def c10 : Code := cr c2
noncomputable def c11 : Code := cl c10
noncomputable def o3 : Array Oper := rops c11
noncomputable def c12 : Code := cr c10
end F11
/-- A number is dealt. -/
theorem next_ok {w : World} {C : Nat → Nat} {i b : Nat} {d : Dk} {n : Int} (hF : Lim w C) (hi : i ≠ 0) (hd : DeckAt 55 w C i b d) (hlen : d.list.length ≤ 9223372036854775807) (hn63 : n ≤ 9223372036854775807) : Calls Try.prog 11 #[.pointer (some ⟨b, 0, none⟩), .int .i64 n] w (Ret fun v w' => v = .int .i64 (d.num n) ∧ Stp [i] w C w' C ∧ DeckAt 55 w' C i b (d.after n)) := by
  have hF0 := hF
  have hT := Stp.refl [i] w C
  refine calls_start (c := F11.c0) (N := 13) [.pointer (some ⟨b, 0, none⟩), .int .i64 n] Try.func11 (by kernel_rfl) (by kernel_rfl) (by kernel_rfl) ?_
  show Run _ _ _ _ [(0, .pointer (some ⟨b, 0, none⟩)), (1, .int .i64 n)] _ _
  refine run_seq (x := F11.c1) (y := F11.c2) (by kernel_rfl) ?_
  refine run_plain (id := 0) (ops := F11.o0) [(0, true)] (by kernel_rfl) (by kernel_rfl) ?_
  refine yS (by kernel_rfl : opAt F11.o0 0 = some (some 4, .assign (.const (.int .i64 0)), none)) rfl rfl (fun w' hS => val_assign rfl) ?_
  refine Sch.nil ?_
  refine run_seq (x := F11.c3) (y := F11.c10) (by kernel_rfl) ?_
  refine run_seq (x := F11.c4) (y := F11.c5) (by kernel_rfl) ?_
  refine run_plain (id := 1) (ops := F11.o1) [(0, true), (1, true)] (by kernel_rfl) (by kernel_rfl) ?_
  refine yS (by kernel_rfl : opAt F11.o1 0 = some (some 5, .move (.tmp 1), none)) rfl rfl (fun w' hS => val_move rfl) ?_
  refine yS (by kernel_rfl : opAt F11.o1 1 = some (some 6, .binOp .lss 3 (.tmp 5) (.const (.int .i64 1)) 3, none)) rfl rfl (fun w' hS => val_lss rfl rfl) ?_
  refine Sch.nil ?_
  refine run_if (x := F11.c6) (y := F11.c9) (o := .tmp 6) (by kernel_rfl) rfl (fun h6 => ?_) (fun h6 => ?_)
  · skip
    have hn : d.num n = 0 := by unfold Dk.num; rw [if_pos (by omega)]
    have ha : d.after n = d := by unfold Dk.after; rw [if_pos (by omega)]
    refine run_seq (x := F11.c7) (y := F11.c8) (by kernel_rfl) ?_
    refine run_plain (id := 2) (ops := F11.o2) [(0, true)] (by kernel_rfl) (by kernel_rfl) ?_
    refine yS (by kernel_rfl : opAt F11.o2 0 = some (some 4, .assign (.const (.int .i64 0)), none)) rfl rfl (fun w' hS => val_assign rfl) ?_
    refine Sch.nil ?_
    refine run_ret1 (by kernel_rfl) Try.func11 Try.results11 rfl ?_
    rw [ha, hn]
    exact ⟨rfl, hT, hd⟩
  · skip
    have hn : d.num n = (d.word / 2) % n := by unfold Dk.num; rw [if_neg (by omega)]
    have ha : d.after n = d.next := by unfold Dk.after; rw [if_neg (by omega)]
    refine run_skip (by kernel_rfl) ?_
    refine run_seq (x := F11.c11) (y := F11.c12) (by kernel_rfl) ?_
    refine run_plain (id := 3) (ops := F11.o3) [(0, true), (1, false), (2, true), (3, true), (4, true), (5, true), (6, true)] (by kernel_rfl) (by kernel_rfl) ?_
    refine yS (by kernel_rfl : opAt F11.o3 0 = some (some 7, .move (.tmp 0), none)) rfl rfl (fun w' hS => val_move rfl) ?_
    refine cS (by kernel_rfl : opAt F11.o3 1 = some (some 8, .call { callee := .value (.func 30), args := #[(.tmp 7)], argTypes := #[25] }, none)) rfl rfl (ent Try.call30 rfl) (word_ok hF0 hi hd hlen) ?_
    rintro vw1 w1 ⟨rfl, hs, hd⟩
    refine ⟨trivial, ?_⟩
    replace hT := hT.trans hs (by simp)
    have hwr := d.word_range
    refine yS (by kernel_rfl : opAt F11.o3 2 = some (some 9, .binOp .shr 42 (.tmp 8) (.const (.int .u64 1)) 57, none)) rfl rfl (fun w' hS => val_shrE (r := d.word / 2) rfl rfl (by omega) (by show d.word.fdiv 2 = _; exact Int.fdiv_eq_ediv_of_nonneg _ (by decide))) ?_
    refine yS (by kernel_rfl : opAt F11.o3 3 = some (some 10, .convert 42 3 (.tmp 9), none)) rfl rfl (fun w' hS => val_convE (r := d.word / 2) rfl ⟨_, Try.underlying42⟩ Try.underlying3 (wrap_i64 (by omega) (by omega))) ?_
    refine yS (by kernel_rfl : opAt F11.o3 4 = some (some 11, .move (.tmp 1), none)) rfl rfl (fun w' hS => val_move rfl) ?_
    refine yS (by kernel_rfl : opAt F11.o3 5 = some (some 12, .binOp .rem 3 (.tmp 10) (.tmp 11) 3, none)) rfl rfl (fun w' hS => val_modi rfl rfl (by omega) (by omega)) ?_
    refine yS (by kernel_rfl : opAt F11.o3 6 = some (some 4, .assign (.tmp 12), none)) rfl rfl (fun w' hS => val_assign rfl) ?_
    refine Sch.nil ?_
    refine run_ret1 (by kernel_rfl) Try.func11 Try.results11 rfl ?_
    rw [ha, hn]
    exact ⟨rfl, hT, hd⟩
end Go.Proofs.Ytejbklahkkjmhaa
