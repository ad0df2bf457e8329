/- Steps through functions of the program. -/
import Derived.Test.YtbdlkdiadplmcaaJXA
import Derived.Test.YtbdlkdiadplmcaaL2
set_option linter.unusedVariables false
set_option linter.unusedSimpArgs false
set_option maxRecDepth 100000
set_option maxHeartbeats 4000000
namespace Go.Proofs.Ytbdlkdiadplmcaa
open Go.K Go.K.Rep

namespace F17
noncomputable def c0 : Code := bodyOf Try.f17
noncomputable def c1 : Code := cl c0
noncomputable def o0 : Array Oper := rops c1
noncomputable def c2 : Code := cr c0
noncomputable def c3 : Code := cl c2
noncomputable def o1 : Array Oper := rops c3
noncomputable def c4 : Code := cr c2
noncomputable def c5 : Code := cl c4
noncomputable def o2 : Array Oper := rops c5
noncomputable def c6 : Code := cr c4
noncomputable def c7 : Code := cl c6
noncomputable def c8 : Code := cl c7
noncomputable def o3 : Array Oper := rops c8
noncomputable def c9 : Code := cr c7
noncomputable def c10 : Code := cl c9
noncomputable def c11 : Code := cl c10
noncomputable def c12 : Code := cl c11
noncomputable def c13 : Code := cl c12
noncomputable def o4 : Array Oper := rops c13
noncomputable def c14 : Code := cr c12
noncomputable def c15 : Code := cl c14
noncomputable def c16 : Code := cr c14
noncomputable def c17 : Code := cr c11
noncomputable def c18 : Code := cl c17
noncomputable def c19 : Code := cl c18
noncomputable def c20 : Code := cl c19
noncomputable def c21 : Code := cl c20
noncomputable def o6 : Array Oper := rops c21
noncomputable def c22 : Code := cr c20
noncomputable def c23 : Code := cl c22
noncomputable def c24 : Code := cr c22
noncomputable def c25 : Code := cr c19
noncomputable def o7 : Array Oper := rops c25
noncomputable def c26 : Code := cr c17
noncomputable def o5 : Array Oper := rops c26
noncomputable def c27 : Code := cr c6
noncomputable def c28 : Code := cl c27
noncomputable def o8 : Array Oper := rops c28
noncomputable def c29 : Code := cr c27
end F17
theorem dict_any {w₀ : World} {C : Nat → Nat} {i0 b : Nat} (hF : Lim w₀ C) (hi : i0 ≠ 0) (hd : DeckIs w₀ C i0 b) : Calls Try.prog 17 #[.pointer (some ⟨b, 0, none⟩)] w₀ (Ret fun v w' => ∃ (es : List Ent) (js : List Nat), DicI es 6 js ∧ Stp [i0] w₀ C w' C ∧ DeckIs w' C i0 b ∧ RV w' (Mc C) es v) := by
  have hF0 := hF
  have hbc := hd.colour
  replace hd := hd.col2 hi
  have hT := Stp.refl [2, 3, 4, 5, 6, 7, 8, 9] w₀ (col2 C i0)
  replace hF := hF.col2 i0
  refine calls_start (c := F17.c0) (N := 27) [.pointer (some ⟨b, 0, none⟩)] Try.func17 (by kernel_rfl) (by kernel_rfl) (by kernel_rfl) ?_
  show Run _ _ _ _ [(0, .pointer (some ⟨b, 0, none⟩))] _ _
  refine run_seq (x := F17.c1) (y := F17.c2) (by kernel_rfl) ?_
  refine run_plain (id := 0) (ops := F17.o0) [(0, true)] (by kernel_rfl) (by kernel_rfl) ?_
  refine yS (by kernel_rfl : opAt F17.o0 0 = some (some 2, .assign (.const (.slice none 0 0)), none)) rfl rfl (fun w' hS => val_assign rfl) ?_
  refine Sch.nil ?_
  refine run_seq (x := F17.c3) (y := F17.c4) (by kernel_rfl) ?_
  refine run_plain (id := 1) (ops := F17.o1) [(0, true)] (by kernel_rfl) (by kernel_rfl) ?_
  refine yS (by kernel_rfl : opAt F17.o1 0 = some (some 3, .assign (.const (.slice none 0 0)), none)) rfl rfl (fun w' hS => val_assign rfl) ?_
  refine Sch.nil ?_
  refine run_seq (x := F17.c5) (y := F17.c6) (by kernel_rfl) ?_
  refine run_plain (id := 2) (ops := F17.o2) [(0, false), (1, true)] (by kernel_rfl) (by kernel_rfl) ?_
  refine aS (by kernel_rfl : opAt F17.o2 0 = some (some 6, .buildSlice 51 6 #[(0, (.const (.string ⟨#[97, 110, 110, 32, 109, 105, 108, 108, 101, 114]⟩))), (1, (.const (.string ⟨#[111, 110, 101, 105, 108, 108]⟩))), (2, (.const (.string ⟨#[112, 101, 116, 101, 114]⟩))), (3, (.const (.string ⟨#[114, 111, 98, 101, 114, 116, 32, 115, 109, 105, 116, 104]⟩))), (4, (.const (.string ⟨#[114, 117, 112, 101, 114, 116]⟩))), (5, (.const (.string ⟨#[114, 117, 116, 104]⟩)))], none)) rfl rfl (a_buildSlice (ys := dicN) (e := 9) (bytes := 16) hF (by kernel_rfl) rfl (by decide) (by decide) ⟨rfl, ⟨_, rfl, rv_str.2 ⟨rfl, by decide⟩⟩, rfl, ⟨_, rfl, rv_str.2 ⟨rfl, by decide⟩⟩, rfl, ⟨_, rfl, rv_str.2 ⟨rfl, by decide⟩⟩, rfl, ⟨_, rfl, rv_str.2 ⟨rfl, by decide⟩⟩, rfl, ⟨_, rfl, rv_str.2 ⟨rfl, by decide⟩⟩, rfl, ⟨_, rfl, rv_str.2 ⟨rfl, by decide⟩⟩, trivial⟩) ?_
  rintro v6 w1 ⟨hs, hn, hF⟩
  refine ⟨trivial, ?_⟩
  replace hT := hT.trans hs (by simp)
  replace hd := hd.st hs (by first | decide | (simp <;> omega)) (by first | decide | (simp <;> omega))
  have hnl : dicN.length = 6 := rfl
  refine yS (by kernel_rfl : opAt F17.o2 1 = some (some 4, .assign (.tmp 6), none)) rfl rfl (fun w' hS => val_assign rfl) ?_
  refine Sch.nil ?_
  refine run_seq (x := F17.c7) (y := F17.c27) (by kernel_rfl) ?_
  refine run_seq (x := F17.c8) (y := F17.c9) (by kernel_rfl) ?_
  refine run_plain (id := 3) (ops := F17.o3) [(0, true)] (by kernel_rfl) (by kernel_rfl) ?_
  refine yS (by kernel_rfl : opAt F17.o3 0 = some (some 5, .assign (.const (.int .i64 0)), none)) rfl rfl (fun w' hS => val_assign rfl) ?_
  refine Sch.nil ?_
  refine run_block (x := F17.c10) (id := 0) (by kernel_rfl) ?_
  
  refine run_loop (ι := Nat × (List Ent) × (List Nat) × Value × (Nat → Nat)) (I := fun x w => x.1 ≤ 6 ∧ DicI x.2.1 x.1 x.2.2.1 ∧ x.2.1.length ≤ x.1 ∧ Lim w x.2.2.2.2 ∧ Stp [2, 3, 4, 5, 6, 7, 8, 9] w₀ (col2 C i0) w x.2.2.2.2 ∧ DeckIs w x.2.2.2.2 2 b ∧ RV w (Mc x.2.2.2.2) dicN v6 ∧ OwnL w x.2.2.2.2 4 61 x.2.2.2.1 x.2.1) (e := fun x => [(0, .pointer (some ⟨b, 0, none⟩)), (3, x.2.2.2.1), (4, v6), (5, .int .i64 x.1)]) (m := fun x => 6 - x.1) (x₀ := (0, [], [], .slice none 0 0, col2 C i0)) (body := F17.c11) (by kernel_rfl) (sub_cons 0 rfl rfl (sub_cons 3 rfl rfl (sub_cons 4 rfl rfl (sub_cons 5 rfl rfl (sub_nil _))))) ?_ ?_
  · exact ⟨Nat.zero_le _, DicI.nil, Nat.zero_le _, hF, hT, hd, hn, OwnL.nil⟩
  intro ⟨i, es, js, ve, C1⟩ w2 hI next
  obtain ⟨hi, hD, hel, hF, hT, hd, hn, he⟩ := hI
  try simp only at hi hD hel hF hT hd hn he
  have next1 := next
  clear next
  show Run _ _ _ _ [(0, .pointer (some ⟨b, 0, none⟩)), (3, ve), (4, v6), (5, .int .i64 i)] _ _
  refine run_seq (x := F17.c12) (y := F17.c17) (by kernel_rfl) ?_
  refine run_seq (x := F17.c13) (y := F17.c14) (by kernel_rfl) ?_
  refine run_plain (id := 4) (ops := F17.o4) [(0, true), (1, true), (2, true), (3, true)] (by kernel_rfl) (by kernel_rfl) ?_
  refine yS (by kernel_rfl : opAt F17.o4 0 = some (some 7, .move (.tmp 5), none)) rfl rfl (fun w' hS => val_move rfl) ?_
  refine yS (by kernel_rfl : opAt F17.o4 1 = some (some 8, .move (.tmp 4), none)) rfl rfl (fun w' hS => val_move rfl) ?_
  refine yS (by kernel_rfl : opAt F17.o4 2 = some (some 9, .call { callee := .builtin .len, args := #[(.tmp 8)], argTypes := #[51] }, none)) rfl rfl (fun w' hS => hn.lenV rfl Try.underlying51 w' ) ?_
  refine yS (by kernel_rfl : opAt F17.o4 3 = some (some 10, .binOp .lss 3 (.tmp 7) (.tmp 9) 3, none)) rfl rfl (fun w' hS => val_lss rfl rfl) ?_
  refine Sch.nil ?_
  refine run_if (x := F17.c15) (y := F17.c16) (o := .tmp 10) (by kernel_rfl) rfl (fun h10 => ?_) (fun h10 => ?_)
  · skip
    have hil : i < 6 := by omega
    refine run_skip (by kernel_rfl) ?_
    refine run_seq (x := F17.c18) (y := F17.c26) (by kernel_rfl) ?_
    refine run_block (x := F17.c19) (id := 1) (by kernel_rfl) ?_
    refine run_seq (x := F17.c20) (y := F17.c25) (by kernel_rfl) ?_
    refine run_seq (x := F17.c21) (y := F17.c22) (by kernel_rfl) ?_
    refine run_plain (id := 6) (ops := F17.o6) [(0, true), (1, false)] (by kernel_rfl) (by kernel_rfl) ?_
    refine yS (by kernel_rfl : opAt F17.o6 0 = some (some 13, .move (.tmp 0), none)) rfl rfl (fun w' hS => val_move rfl) ?_
    refine cS (by kernel_rfl : opAt F17.o6 1 = some (some 14, .call { callee := .value (.func 27), args := #[(.tmp 13), (.const (.int .i64 4))], argTypes := #[25, 3] }, none)) rfl rfl (ent Try.call27 rfl) (one_any (n := 4) hF (by decide) hd (by omega) (by omega)) ?_
    rintro vw3 w3 ⟨t1, rfl, hs, hd⟩
    refine ⟨trivial, ?_⟩
    replace hF := hF.st hs
    replace hT := hT.trans hs (by simp)
    replace hn := hn.st hs (by first | decide | (simp <;> omega))
    replace he := he.st hs (by first | decide | (simp <;> omega)) (by first | decide | (simp <;> omega))
    refine Sch.nil ?_
    refine run_cond (x := F17.c23) (y := F17.c24) (o := .tmp 14) (by kernel_rfl) rfl (fun h14 => ?_) (fun h14 => ?_)
    · skip
      refine run_exit (id := 1) (by kernel_rfl) rfl ?_
      refine run_plain (id := 5) (ops := F17.o5) [(0, true), (1, true), (2, true)] (by kernel_rfl) (by kernel_rfl) ?_
      refine yS (by kernel_rfl : opAt F17.o5 0 = some (some 11, .move (.tmp 5), none)) rfl rfl (fun w' hS => val_move rfl) ?_
      refine yS (by kernel_rfl : opAt F17.o5 1 = some (some 12, .binOp .add 3 (.tmp 11) (.const (.int .i64 1)) 3, none)) rfl rfl (fun w' hS => val_addi rfl rfl (by omega) (by omega)) ?_
      refine yS (by kernel_rfl : opAt F17.o5 2 = some (some 5, .assign (.tmp 12), none)) rfl rfl (fun w' hS => val_assign rfl) ?_
      refine Sch.nil ?_
      refine kp (sub_cons 0 rfl rfl (sub_cons 3 rfl rfl (sub_cons 4 rfl rfl (sub_cons 5 rfl (eq_int (by simp)) (sub_nil _))))) (next1 (i + 1, es, js, ve, C1) _ ⟨(by first | omega | (simp only; omega)), hD.skip, (by first | omega | (simp only; omega)), hF, hT, hd, hn, he⟩ (by first | omega | (simp only; omega)))
    · skip
      refine run_skip (by kernel_rfl) ?_
      refine run_draw (id := 7) (ops := F17.o7) [2, 4] (C1) [(0, true), (1, true), (2, true), (3, true), (4, true), (5, true), (6, false), (7, true), (8, true), (9, false), (10, false), (11, true)] Try_mixed (by kernel_rfl) (by kernel_rfl) (by kernel_rfl) ?_
      intro w4 hs
      replace hF := hF.st hs
      replace hT := hT.trans hs (by simp)
      replace hd := hd.st hs (by first | decide | (simp <;> omega)) (by first | decide | (simp <;> omega))
      replace hn := hn.st hs (by first | decide | (simp <;> omega))
      replace he := he.st hs (by first | decide | (simp <;> omega)) (by first | decide | (simp <;> omega))
      have hR := Stp.refl [2, 4] w4 (C1)
      refine yS (by kernel_rfl : opAt F17.o7 0 = some (some 15, .move (.tmp 3), none)) rfl rfl (fun w' hS => val_move rfl) ?_
      refine yS (by kernel_rfl : opAt F17.o7 1 = some (some 16, .move (.tmp 4), none)) rfl rfl (fun w' hS => val_move rfl) ?_
      refine yS (by kernel_rfl : opAt F17.o7 2 = some (some 17, .move (.tmp 5), none)) rfl rfl (fun w' hS => val_move rfl) ?_
      refine iS (e := 9) (by kernel_rfl : opAt F17.o7 3 = some (some 18, .indexAddr 51 (.tmp 16) (.tmp 17), none)) rfl rfl hn rfl (by kernel_rfl) rfl (by omega) (by omega) ?_
      intro b18 o18 h18
      try simp only [Int.toNat_natCast] at h18
      refine lS (by kernel_rfl : opAt F17.o7 4 = some (some 19, .load 9 (.tmp 18), none)) rfl rfl (fun w' hS => h18.stay hS (by first | decide | (simp <;> omega))) h18 (by kernel_rfl) rfl rfl ?_
      intro v19 g19
      obtain ⟨rfl, hsz⟩ : v19 = .string (nmD i) ∧ (nmD i).size ≤ 9223372036854775807 := by rw [← nmD_at (i := i) (by omega)]; exact rv_str.1 g19
      clear g19
      refine yS (by kernel_rfl : opAt F17.o7 5 = some (some 20, .move (.tmp 0), none)) rfl rfl (fun w' hS => val_move rfl) ?_
      refine cS (by kernel_rfl : opAt F17.o7 6 = some (some 21, .call { callee := .value (.func 15), args := #[(.tmp 20), (.const (.int .i64 6))], argTypes := #[25, 3] }, none)) rfl rfl (ent Try.call15 rfl) (next_any (n := 6) hF (by decide) hd (by omega) (by omega)) ?_
      rintro vw5 w5 ⟨k, rfl, hk, hs, hd⟩
      refine ⟨(hR.trans hs (by simp)).ext, ?_⟩
      replace hF := hF.st hs
      replace hT := hT.trans hs (by simp)
      replace hn := hn.st hs (by first | decide | (simp <;> omega))
      replace he := he.st hs (by first | decide | (simp <;> omega)) (by first | decide | (simp <;> omega))
      replace hR := hR.trans hs (by simp)
      replace h18 := h18.st hs (by first | decide | (simp <;> omega))
      refine yS (by kernel_rfl : opAt F17.o7 7 = some (some 22, .binOp .add 3 (.const (.int .i64 1)) (.tmp 21) 3, none)) rfl rfl (fun w' hS => val_addi rfl rfl (by omega) (by omega)) ?_
      refine yS (by kernel_rfl : opAt F17.o7 8 = some (some 23, .build 61 #[(0, (.tmp 19)), (1, (.tmp 22))], none)) rfl rfl (fun w' hS => val_build (zs := [.string ⟨#[]⟩, .int .i64 0]) (ps := [(0, 1), (1, 1)]) (qs := [(0, [.string (nmD i)]), (1, [.int .i64 (1 + (k : Int))])]) (cs := [.string (nmD i), .int .i64 (1 + (k : Int))]) (by kernel_rfl) (by kernel_rfl) (by exact ⟨rfl, ⟨_, rfl, rfl⟩, rfl, ⟨_, rfl, rfl⟩, trivial⟩) rfl) ?_
      refine aS (by kernel_rfl : opAt F17.o7 9 = some (some 24, .buildSlice 43 1 #[(0, (.tmp 23))], none)) rfl rfl (a_buildSlice (ys := ([⟨nmD i, 1 + (k : Int)⟩] : List Ent)) (e := 61) (bytes := 24) hF (by kernel_rfl) rfl (by decide) (by decide) ⟨rfl, ⟨_, rfl, rv_ent.2 ⟨rfl, hsz⟩⟩, trivial⟩) ?_
      rintro v24 w6 ⟨hs, g24, hF⟩
      refine ⟨(hR.trans hs (by simp)).ext, ?_⟩
      replace hT := hT.trans hs (by simp)
      replace hd := hd.st hs (by first | decide | (simp <;> omega)) (by first | decide | (simp <;> omega))
      replace hn := hn.st hs (by first | decide | (simp <;> omega))
      replace he := he.st hs (by first | decide | (simp <;> omega)) (by first | decide | (simp <;> omega))
      replace hR := hR.trans hs (by simp)
      replace h18 := h18.st hs (by first | decide | (simp <;> omega))
      refine aS (by kernel_rfl : opAt F17.o7 10 = some (some 25, .call { callee := .builtin .append, args := #[(.tmp 15), (.tmp 24)], argTypes := #[43, 43] }, none)) rfl rfl (a_append (e := 61) (bytes := 24) hF (by decide) rfl rfl (by kernel_rfl) (by decide) he g24 (by simp only [List.length_cons, List.length_nil]; omega) (by simp only [List.length_cons, List.length_nil]; omega)) ?_
      rintro v25 w7 ⟨Cw7, hs, he, hF⟩
      refine ⟨(hR.trans hs (by simp)).ext, ?_⟩
      replace hT := hT.trans hs (by simp)
      replace hd := hd.st hs (by first | decide | (simp <;> omega)) (by first | decide | (simp <;> omega))
      replace hn := hn.st hs (by first | decide | (simp <;> omega))
      replace hR := hR.trans hs (by simp)
      replace h18 := h18.st hs (by first | decide | (simp <;> omega))
      replace g24 := g24.st hs (by first | decide | (simp <;> omega))
      refine yS (by kernel_rfl : opAt F17.o7 11 = some (some 3, .assign (.tmp 25), none)) rfl rfl (fun w' hS => val_assign rfl) ?_
      refine Sch.nil ?_
      refine run_inBlock ?_
      refine run_plain (id := 5) (ops := F17.o5) [(0, true), (1, true), (2, true)] (by kernel_rfl) (by kernel_rfl) ?_
      refine yS (by kernel_rfl : opAt F17.o5 0 = some (some 11, .move (.tmp 5), none)) rfl rfl (fun w' hS => val_move rfl) ?_
      refine yS (by kernel_rfl : opAt F17.o5 1 = some (some 12, .binOp .add 3 (.tmp 11) (.const (.int .i64 1)) 3, none)) rfl rfl (fun w' hS => val_addi rfl rfl (by omega) (by omega)) ?_
      refine yS (by kernel_rfl : opAt F17.o5 2 = some (some 5, .assign (.tmp 12), none)) rfl rfl (fun w' hS => val_assign rfl) ?_
      refine Sch.nil ?_
      refine kp (sub_cons 0 rfl rfl (sub_cons 3 rfl rfl (sub_cons 4 rfl rfl (sub_cons 5 rfl (eq_int (by simp)) (sub_nil _))))) (next1 (i + 1, es ++ [⟨nmD i, 1 + (k : Int)⟩], js ++ [i], v25, Cw7) _ ⟨(by first | omega | (simp only; omega)), (hD.put (by omega) (by omega)), (by simp only [List.length_append, List.length_cons, List.length_nil]; omega), hF, hT, hd, hn, he⟩ (by first | omega | (simp only; omega)))
  · skip
    have hil : i = 6 := by omega
    rw [hil] at hD
    refine run_exit (id := 0) (by kernel_rfl) rfl ?_
    refine run_seq (x := F17.c28) (y := F17.c29) (by kernel_rfl) ?_
    refine run_plain (id := 8) (ops := F17.o8) [(0, true), (1, true)] (by kernel_rfl) (by kernel_rfl) ?_
    refine yS (by kernel_rfl : opAt F17.o8 0 = some (some 26, .move (.tmp 3), none)) rfl rfl (fun w' hS => val_move rfl) ?_
    refine yS (by kernel_rfl : opAt F17.o8 1 = some (some 2, .assign (.tmp 26), none)) rfl rfl (fun w' hS => val_assign rfl) ?_
    refine Sch.nil ?_
    refine run_ret1 (by kernel_rfl) Try.func17 Try.results17 rfl ?_
    exact ⟨es, js, hD, hT.out2 (by decide), hd.out hT hF0 hbc, he.out hT hF0 (Mc_col2 C i0) (fun b _ => col2_lt C i0 (by decide) b) (by omega)⟩
namespace F23
noncomputable def c0 : Code := bodyOf Try.f23
noncomputable def c1 : Code := cl c0
noncomputable def o0 : Array Oper := rops c1
noncomputable def c2 : Code := cr c0
noncomputable def c3 : Code := cl c2
noncomputable def o1 : Array Oper := rops c3
noncomputable def c4 : Code := cr c2
end F23
theorem pick_any {w₀ : World} {C : Nat → Nat} {i0 b : Nat} {l : List ByteArray} {vl : Value} (hF : Lim w₀ C) (hi : i0 ≠ 0) (hd : DeckIs w₀ C i0 b) (hl : RV w₀ (Mc C) l vl) (hne : 0 < l.length) : Calls Try.prog 23 #[.pointer (some ⟨b, 0, none⟩), vl] w₀ (Ret fun v w' => ∃ s : ByteArray, v = .string s ∧ s.size ≤ 9223372036854775807 ∧ Stp [i0] w₀ C w' C ∧ DeckIs w' C i0 b) := by
  have hF0 := hF
  have hbc := hd.colour
  replace hd := hd.col2 hi
  have hT := Stp.refl [2, 3, 4, 5, 6, 7, 8, 9] w₀ (col2 C i0)
  replace hF := hF.col2 i0
  replace hl : RV w₀ (Mc (col2 C i0)) l vl := by rw [Mc_col2]; exact hl
  have hle := hl.le
  refine calls_start (c := F23.c0) (N := 12) [.pointer (some ⟨b, 0, none⟩), vl] Try.func23 (by kernel_rfl) (by kernel_rfl) (by kernel_rfl) ?_
  show Run _ _ _ _ [(0, .pointer (some ⟨b, 0, none⟩)), (1, vl)] _ _
  refine run_seq (x := F23.c1) (y := F23.c2) (by kernel_rfl) ?_
  refine run_plain (id := 0) (ops := F23.o0) [(0, true)] (by kernel_rfl) (by kernel_rfl) ?_
  refine yS (by kernel_rfl : opAt F23.o0 0 = some (some 4, .assign (.const (.string ⟨#[]⟩)), none)) rfl rfl (fun w' hS => val_assign rfl) ?_
  refine Sch.nil ?_
  refine run_seq (x := F23.c3) (y := F23.c4) (by kernel_rfl) ?_
  refine run_plain (id := 1) (ops := F23.o1) [(0, true), (1, true), (2, true), (3, true), (4, false), (5, true), (6, false), (7, true)] (by kernel_rfl) (by kernel_rfl) ?_
  refine yS (by kernel_rfl : opAt F23.o1 0 = some (some 5, .move (.tmp 1), none)) rfl rfl (fun w' hS => val_move rfl) ?_
  refine yS (by kernel_rfl : opAt F23.o1 1 = some (some 6, .move (.tmp 0), none)) rfl rfl (fun w' hS => val_move rfl) ?_
  refine yS (by kernel_rfl : opAt F23.o1 2 = some (some 7, .move (.tmp 1), none)) rfl rfl (fun w' hS => val_move rfl) ?_
  refine yS (by kernel_rfl : opAt F23.o1 3 = some (some 8, .call { callee := .builtin .len, args := #[(.tmp 7)], argTypes := #[51] }, none)) rfl rfl (fun w' hS => hl.lenV rfl Try.underlying51 w' ) ?_
  refine cS (by kernel_rfl : opAt F23.o1 4 = some (some 9, .call { callee := .value (.func 15), args := #[(.tmp 6), (.tmp 8)], argTypes := #[25, 3] }, none)) rfl rfl (ent Try.call15 rfl) (next_any (n := (l.length : Int)) hF (by decide) hd (by omega) (by omega)) ?_
  rintro vw1 w1 ⟨k, rfl, hk, hs, hd⟩
  refine ⟨trivial, ?_⟩
  replace hF := hF.st hs
  replace hT := hT.trans hs (by simp)
  replace hl := hl.st hs (by first | decide | (simp <;> omega))
  refine iS (e := 9) (by kernel_rfl : opAt F23.o1 5 = some (some 10, .indexAddr 51 (.tmp 5) (.tmp 9), none)) rfl rfl hl rfl (by kernel_rfl) rfl (by omega) (by omega) ?_
  intro b10 o10 h10
  try simp only [Int.toNat_natCast] at h10
  refine lN (by kernel_rfl : opAt F23.o1 6 = some (some 11, .load 9 (.tmp 10), none)) rfl rfl trivial h10 (by kernel_rfl) rfl rfl ?_
  intro v11 g11
  refine yS (by kernel_rfl : opAt F23.o1 7 = some (some 4, .assign (.tmp 11), none)) rfl rfl (fun w' hS => val_assign rfl) ?_
  refine Sch.nil ?_
  refine run_ret1 (by kernel_rfl) Try.func23 Try.results23 rfl ?_
  have hkl : k < l.length := by omega
  exact ⟨l[k], by rw [(rv_str.1 g11).1], (rv_str.1 g11).2, hT.out2 (by decide), hd.out hT hF0 hbc⟩
end Go.Proofs.Ytbdlkdiadplmcaa
