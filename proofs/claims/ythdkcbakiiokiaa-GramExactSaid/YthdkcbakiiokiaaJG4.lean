/- Steps through functions of the program. -/
import Derived.Test.YthdkcbakiiokiaaJG3
set_option linter.unusedVariables false
set_option linter.unusedSimpArgs false
set_option maxRecDepth 100000
set_option maxHeartbeats 4000000
namespace Go.Proofs.Ythdkcbakiiokiaa
open Go.K Go.K.Rep

theorem win_sub {t : List UInt8} {i : Nat} : (t.take ((i : Int) + 2).toNat).drop (i : Int).toNat = (winA t i).l := by
  have e : ((i : Int) + 2).toNat = i + 2 := by omega
  rw [e, Int.toNat_natCast]; rfl
theorem pad_eq (t : List UInt8) : [95] ++ t ++ [95] = pad t := rfl
namespace F15
noncomputable def c0 : Code := bodyOf Try.f15
noncomputable def c1 : Code := cl c0
noncomputable def o0 : Array Oper := rops c1
noncomputable def c2 : Code := cr c0
noncomputable def c3 : Code := cl c2
noncomputable def c4 : Code := cl c3
noncomputable def o1 : Array Oper := rops c4
noncomputable def c5 : Code := cr c3
noncomputable def c6 : Code := cl c5
noncomputable def c7 : Code := cl c6
noncomputable def o2 : Array Oper := rops c7
noncomputable def c8 : Code := cr c6
noncomputable def c9 : Code := cr c5
noncomputable def c10 : Code := cr c2
noncomputable def c11 : Code := cl c10
noncomputable def o3 : Array Oper := rops c11
noncomputable def c12 : Code := cr c10
noncomputable def c13 : Code := cl c12
noncomputable def c14 : Code := cl c13
noncomputable def o4 : Array Oper := rops c14
noncomputable def c15 : Code := cr c13
noncomputable def c16 : Code := cl c15
noncomputable def c17 : Code := cl c16
noncomputable def c18 : Code := cl c17
noncomputable def o5 : Array Oper := rops c18
noncomputable def c19 : Code := cr c17
noncomputable def c20 : Code := cl c19
noncomputable def c21 : Code := cl c20
noncomputable def c22 : Code := cr c20
noncomputable def c23 : Code := cr c19
noncomputable def c24 : Code := cl c23
noncomputable def c25 : Code := cl c24
noncomputable def c26 : Code := cl c25
noncomputable def o6 : Array Oper := rops c26
noncomputable def c27 : Code := cr c25
noncomputable def c28 : Code := cl c27
noncomputable def o7 : Array Oper := rops c28
noncomputable def c29 : Code := cr c27
noncomputable def c30 : Code := cl c29
noncomputable def o8 : Array Oper := rops c30
noncomputable def c31 : Code := cr c29
noncomputable def c32 : Code := cl c31
noncomputable def c33 : Code := cl c32
noncomputable def c34 : Code := cl c33
noncomputable def o9 : Array Oper := rops c34
noncomputable def c35 : Code := cr c33
noncomputable def c36 : Code := cl c35
noncomputable def c37 : Code := cl c36
noncomputable def c38 : Code := cr c36
noncomputable def c39 : Code := cr c35
noncomputable def c40 : Code := cl c39
noncomputable def c41 : Code := cl c40
noncomputable def c42 : Code := cl c41
noncomputable def o10 : Array Oper := rops c42
noncomputable def c43 : Code := cr c41
noncomputable def o11 : Array Oper := rops c43
noncomputable def c44 : Code := cr c39
noncomputable def o12 : Array Oper := rops c44
noncomputable def c45 : Code := cr c23
noncomputable def o13 : Array Oper := rops c45
noncomputable def c46 : Code := cr c12
noncomputable def c47 : Code := cl c46
noncomputable def o14 : Array Oper := rops c47
noncomputable def c48 : Code := cr c46
end F15
/-- Bigrams. -/
theorem grams_ok {w₀ : World} {C : Nat → Nat} {s : List UInt8} (hF : Lim w₀ C) (hb : s.length ≤ 4294967296) : Calls Try.prog 15 #[bs s] w₀ (Ret fun v w' => Stp [] w₀ C w' C ∧ RV w' (Mc C) (gramsT s) v) := by
  have hF0 := hF
  have hT := Stp.refl [2, 3, 4, 5, 6, 7, 8, 9] w₀ (col1 C)
  replace hF := hF.col1
  refine calls_start (c := F15.c0) (N := 38) [bs s] Try.func15 (by kernel_rfl) (by kernel_rfl) (by kernel_rfl) ?_
  show Run _ _ _ _ [(0, bs s)] _ _
  refine run_seq (x := F15.c1) (y := F15.c2) (by kernel_rfl) ?_
  refine run_plain (id := 0) (ops := F15.o0) [(0, true)] (by kernel_rfl) (by kernel_rfl) ?_
  refine yS (by kernel_rfl : opAt F15.o0 0 = some (some 2, .assign (.const (.slice none 0 0)), none)) rfl rfl (fun w' hS => val_assign rfl) ?_
  refine Sch.nil ?_
  refine run_seq (x := F15.c3) (y := F15.c10) (by kernel_rfl) ?_
  refine run_seq (x := F15.c4) (y := F15.c5) (by kernel_rfl) ?_
  refine run_plain (id := 1) (ops := F15.o1) [(0, true), (1, true), (2, true)] (by kernel_rfl) (by kernel_rfl) ?_
  refine yS (by kernel_rfl : opAt F15.o1 0 = some (some 7, .move (.tmp 0), none)) rfl rfl (fun w' hS => val_move rfl) ?_
  refine yS (by kernel_rfl : opAt F15.o1 1 = some (some 8, .call { callee := .builtin .len, args := #[(.tmp 7)], argTypes := #[9] }, none)) rfl rfl (fun w' hS => val_lenT rfl Try.underlying9) ?_
  refine yS (by kernel_rfl : opAt F15.o1 2 = some (some 9, .binOp .gtr 3 (.tmp 8) (.const (.int .i64 64)) 3, none)) rfl rfl (fun w' hS => val_gtr rfl rfl) ?_
  refine Sch.nil ?_
  refine run_if (x := F15.c6) (y := F15.c9) (o := .tmp 9) (by kernel_rfl) rfl (fun h9 => ?_) (fun h9 => ?_)
  · skip
    have hg : gramsT s = [] := by unfold gramsT; rw [if_pos (by omega)]
    refine run_seq (x := F15.c7) (y := F15.c8) (by kernel_rfl) ?_
    refine run_plain (id := 2) (ops := F15.o2) [(0, true)] (by kernel_rfl) (by kernel_rfl) ?_
    refine yS (by kernel_rfl : opAt F15.o2 0 = some (some 2, .assign (.const (.slice none 0 0)), none)) rfl rfl (fun w' hS => val_assign rfl) ?_
    refine Sch.nil ?_
    refine run_ret1 (by kernel_rfl) Try.func15 Try.results15 rfl ?_
    exact ⟨hT.out1 (by decide), by rw [hg]; exact rv_nil⟩
  · skip
    have hg : gramsT s = setT (flatW (tokT s)) := by unfold gramsT; rw [if_neg (by omega)]
    refine run_skip (by kernel_rfl) ?_
    refine run_seq (x := F15.c11) (y := F15.c12) (by kernel_rfl) ?_
    refine run_plain (id := 3) (ops := F15.o3) [(0, true)] (by kernel_rfl) (by kernel_rfl) ?_
    refine yS (by kernel_rfl : opAt F15.o3 0 = some (some 3, .assign (.const (.slice none 0 0)), none)) rfl rfl (fun w' hS => val_assign rfl) ?_
    refine Sch.nil ?_
    refine run_seq (x := F15.c13) (y := F15.c46) (by kernel_rfl) ?_
    refine run_seq (x := F15.c14) (y := F15.c15) (by kernel_rfl) ?_
    refine run_plain (id := 4) (ops := F15.o4) [(0, true), (1, false), (2, true), (3, true)] (by kernel_rfl) (by kernel_rfl) ?_
    refine yS (by kernel_rfl : opAt F15.o4 0 = some (some 10, .move (.tmp 0), none)) rfl rfl (fun w' hS => val_move rfl) ?_
    refine cS (by kernel_rfl : opAt F15.o4 1 = some (some 11, .call { callee := .value (.func 31), args := #[(.tmp 10)], argTypes := #[9] }, none)) rfl rfl (ent Try.call31 rfl) (tokens_ok hF (by omega)) ?_
    rintro vt w1 ⟨hs, ht⟩
    refine ⟨trivial, ?_⟩
    replace hF := hF.st hs
    replace hT := hT.trans hs (by simp)
    refine yS (by kernel_rfl : opAt F15.o4 2 = some (some 12, .call { callee := .builtin .len, args := #[(.tmp 11)], argTypes := #[23] }, none)) rfl rfl (fun w' hS => ht.lenV rfl Try.underlying23 w' ) ?_
    refine yS (by kernel_rfl : opAt F15.o4 3 = some (some 13, .move (.const (.int .i64 0)), none)) rfl rfl (fun w' hS => val_move rfl) ?_
    refine Sch.nil ?_
    refine run_block (x := F15.c16) (id := 0) (by kernel_rfl) ?_
    
    refine run_loop (ι := Nat × Value × (Nat → Nat)) (I := fun x w => x.1 ≤ (tokT s).length ∧ Lim w x.2.2 ∧ Stp [2, 3, 4, 5, 6, 7, 8, 9] w₀ (col1 C) w x.2.2 ∧ RV w (Mc x.2.2) (tokT s) vt ∧ OwnL w x.2.2 3 9 x.2.1 (flatW ((tokT s).take x.1))) (e := fun x => [(3, x.2.1), (11, vt), (12, .int .i64 (tokT s).length), (13, .int .i64 x.1)]) (m := fun x => (tokT s).length - x.1) (x₀ := (0, .slice none 0 0, col1 C)) (body := F15.c17) (by kernel_rfl) (sub_cons 3 rfl rfl (sub_cons 11 rfl rfl (sub_cons 12 rfl rfl (sub_cons 13 rfl rfl (sub_nil _))))) ?_ ?_
    · exact ⟨Nat.zero_le _, hF, hT, ht, OwnL.nil⟩
    intro ⟨i, vo, C1⟩ w2 hI next
    obtain ⟨hi, hF, hT, ht, ho⟩ := hI
    try simp only at hi hF hT ht ho
    have next1 := next
    clear next
    show Run _ _ _ _ [(3, vo), (11, vt), (12, .int .i64 (tokT s).length), (13, .int .i64 i)] _ _
    have hfl := tok_flat (s := s) (by omega) i
    have htl := tokT_len s
    refine run_seq (x := F15.c18) (y := F15.c19) (by kernel_rfl) ?_
    refine run_plain (id := 5) (ops := F15.o5) [(0, true)] (by kernel_rfl) (by kernel_rfl) ?_
    refine yS (by kernel_rfl : opAt F15.o5 0 = some (some 14, .binOp .lss 3 (.tmp 13) (.tmp 12) 3, none)) rfl rfl (fun w' hS => val_lss rfl rfl) ?_
    refine Sch.nil ?_
    refine run_seq (x := F15.c20) (y := F15.c23) (by kernel_rfl) ?_
    refine run_if (x := F15.c21) (y := F15.c22) (o := .tmp 14) (by kernel_rfl) rfl (fun h14 => ?_) (fun h14 => ?_)
    · skip
      have hil : i < (tokT s).length := by omega
      have htx := tokT_each (List.getElem_mem hil)
      have hpl := pad_len ((tokT s)[i]).l
      have hfn := flatW_take hil
      have hfm := tok_flat (s := s) (by omega) (i + 1)
      rw [hfn, List.length_append, wins_len] at hfm
      refine run_skip (by kernel_rfl) ?_
      refine run_seq (x := F15.c24) (y := F15.c45) (by kernel_rfl) ?_
      refine run_block (x := F15.c25) (id := 1) (by kernel_rfl) ?_
      refine run_seq (x := F15.c26) (y := F15.c27) (by kernel_rfl) ?_
      refine run_plain (id := 6) (ops := F15.o6) [(0, true), (1, false), (2, true)] (by kernel_rfl) (by kernel_rfl) ?_
      refine iS (e := 9) (by kernel_rfl : opAt F15.o6 0 = some (some 15, .indexAddr 23 (.tmp 11) (.tmp 13), none)) rfl rfl ht rfl (by kernel_rfl) rfl (by omega) (by omega) ?_
      intro b15 o15 h15
      try simp only [Int.toNat_natCast] at h15
      refine lN (by kernel_rfl : opAt F15.o6 1 = some (some 16, .load 9 (.tmp 15), none)) rfl rfl trivial h15 (by kernel_rfl) rfl rfl ?_
      intro v16 g16
      obtain ⟨rfl, hb16⟩ := rv_tx.1 g16
      refine yS (by kernel_rfl : opAt F15.o6 2 = some (some 5, .assign (.tmp 16), none)) rfl rfl (fun w' hS => val_assign rfl) ?_
      refine Sch.nil ?_
      refine run_seq (x := F15.c28) (y := F15.c29) (by kernel_rfl) ?_
      refine run_plain (id := 7) (ops := F15.o7) [(0, true), (1, true), (2, true), (3, true)] (by kernel_rfl) (by kernel_rfl) ?_
      refine yS (by kernel_rfl : opAt F15.o7 0 = some (some 17, .move (.tmp 5), none)) rfl rfl (fun w' hS => val_move rfl) ?_
      refine yS (by kernel_rfl : opAt F15.o7 1 = some (some 18, .binOp .add 9 (.const (.string ⟨#[95]⟩)) (.tmp 17) 9, none)) rfl rfl (fun w' hS => val_cat rfl rfl (by (try simp only [List.length_append, List.length_cons, List.length_nil]); omega)) ?_
      refine yS (by kernel_rfl : opAt F15.o7 2 = some (some 19, .binOp .add 9 (.tmp 18) (.const (.string ⟨#[95]⟩)) 9, none)) rfl rfl (fun w' hS => val_cat rfl rfl (by (try simp only [List.length_append, List.length_cons, List.length_nil]); omega)) ?_
      refine yS (by kernel_rfl : opAt F15.o7 3 = some (some 5, .assign (.tmp 19), none)) rfl rfl (fun w' hS => val_assign rfl) ?_
      refine Sch.nil ?_
      rw [pad_eq]
      refine run_seq (x := F15.c30) (y := F15.c31) (by kernel_rfl) ?_
      refine run_plain (id := 8) (ops := F15.o8) [(0, true), (1, true), (2, true), (3, true)] (by kernel_rfl) (by kernel_rfl) ?_
      refine yS (by kernel_rfl : opAt F15.o8 0 = some (some 20, .move (.tmp 5), none)) rfl rfl (fun w' hS => val_move rfl) ?_
      refine yS (by kernel_rfl : opAt F15.o8 1 = some (some 21, .call { callee := .builtin .len, args := #[(.tmp 20)], argTypes := #[9] }, none)) rfl rfl (fun w' hS => val_lenT rfl Try.underlying9) ?_
      refine yS (by kernel_rfl : opAt F15.o8 2 = some (some 22, .binOp .sub 3 (.tmp 21) (.const (.int .i64 1)) 3, none)) rfl rfl (fun w' hS => val_subi rfl rfl (by omega) (by omega)) ?_
      refine yS (by kernel_rfl : opAt F15.o8 3 = some (some 23, .move (.const (.int .i64 0)), none)) rfl rfl (fun w' hS => val_move rfl) ?_
      refine Sch.nil ?_
      refine run_block (x := F15.c32) (id := 2) (by kernel_rfl) ?_
      
      refine run_loop (ι := Nat × Value × (Nat → Nat)) (I := fun x w => x.1 ≤ (pad ((tokT s)[i]).l).length - 1 ∧ Lim w x.2.2 ∧ Stp [2, 3, 4, 5, 6, 7, 8, 9] w₀ (col1 C) w x.2.2 ∧ RV w (Mc x.2.2) (tokT s) vt ∧ OwnL w x.2.2 3 9 x.2.1 (flatW ((tokT s).take i) ++ (wins (pad ((tokT s)[i]).l)).take x.1)) (e := fun x => [(3, x.2.1), (5, bs (pad ((tokT s)[i]).l)), (11, vt), (12, .int .i64 (tokT s).length), (13, .int .i64 i), (22, .int .i64 (((pad ((tokT s)[i]).l).length : Int) - 1)), (23, .int .i64 x.1)]) (m := fun x => (pad ((tokT s)[i]).l).length - x.1) (x₀ := (0, vo, C1)) (body := F15.c33) (by kernel_rfl) (sub_cons 3 rfl rfl (sub_cons 5 rfl rfl (sub_cons 11 rfl rfl (sub_cons 12 rfl rfl (sub_cons 13 rfl rfl (sub_cons 22 rfl rfl (sub_cons 23 rfl rfl (sub_nil _)))))))) ?_ ?_
      · exact ⟨Nat.zero_le _, hF, hT, ht, by rw [List.take_zero, List.append_nil]; exact ho⟩
      intro ⟨k, vo, C2⟩ w3 hI next
      obtain ⟨hk, hF, hT, ht, ho⟩ := hI
      try simp only at hk hF hT ht ho
      have next2 := next
      clear next
      show Run _ _ _ _ [(3, vo), (5, bs (pad ((tokT s)[i]).l)), (11, vt), (12, .int .i64 (tokT s).length), (13, .int .i64 i), (22, .int .i64 (((pad ((tokT s)[i]).l).length : Int) - 1)), (23, .int .i64 k)] _ _
      have hwl : ((wins (pad ((tokT s)[i]).l)).take k).length ≤ (pad ((tokT s)[i]).l).length - 1 := by rw [List.length_take, wins_len]; omega
      refine run_seq (x := F15.c34) (y := F15.c35) (by kernel_rfl) ?_
      refine run_plain (id := 9) (ops := F15.o9) [(0, true)] (by kernel_rfl) (by kernel_rfl) ?_
      refine yS (by kernel_rfl : opAt F15.o9 0 = some (some 24, .binOp .lss 3 (.tmp 23) (.tmp 22) 3, none)) rfl rfl (fun w' hS => val_lss rfl rfl) ?_
      refine Sch.nil ?_
      refine run_seq (x := F15.c36) (y := F15.c39) (by kernel_rfl) ?_
      refine run_if (x := F15.c37) (y := F15.c38) (o := .tmp 24) (by kernel_rfl) rfl (fun h24 => ?_) (fun h24 => ?_)
      · skip
        have hkl : k < (pad ((tokT s)[i]).l).length - 1 := by omega
        refine run_skip (by kernel_rfl) ?_
        refine run_seq (x := F15.c40) (y := F15.c44) (by kernel_rfl) ?_
        refine run_block (x := F15.c41) (id := 3) (by kernel_rfl) ?_
        refine run_seq (x := F15.c42) (y := F15.c43) (by kernel_rfl) ?_
        refine run_plain (id := 10) (ops := F15.o10) [(0, true), (1, true)] (by kernel_rfl) (by kernel_rfl) ?_
        refine yS (by kernel_rfl : opAt F15.o10 0 = some (some 25, .move (.tmp 23), none)) rfl rfl (fun w' hS => val_move rfl) ?_
        refine yS (by kernel_rfl : opAt F15.o10 1 = some (some 6, .assign (.tmp 25), none)) rfl rfl (fun w' hS => val_assign rfl) ?_
        refine Sch.nil ?_
        refine run_plain (id := 11) (ops := F15.o11) [(0, true), (1, true), (2, true), (3, true), (4, true), (5, true), (6, false), (7, false), (8, true)] (by kernel_rfl) (by kernel_rfl) ?_
        refine yS (by kernel_rfl : opAt F15.o11 0 = some (some 26, .move (.tmp 3), none)) rfl rfl (fun w' hS => val_move rfl) ?_
        refine yS (by kernel_rfl : opAt F15.o11 1 = some (some 27, .move (.tmp 5), none)) rfl rfl (fun w' hS => val_move rfl) ?_
        refine yS (by kernel_rfl : opAt F15.o11 2 = some (some 28, .move (.tmp 6), none)) rfl rfl (fun w' hS => val_move rfl) ?_
        refine yS (by kernel_rfl : opAt F15.o11 3 = some (some 29, .move (.tmp 6), none)) rfl rfl (fun w' hS => val_move rfl) ?_
        refine yS (by kernel_rfl : opAt F15.o11 4 = some (some 30, .binOp .add 3 (.tmp 29) (.const (.int .i64 2)) 3, none)) rfl rfl (fun w' hS => val_addi rfl rfl (by omega) (by omega)) ?_
        refine yS (by kernel_rfl : opAt F15.o11 5 = some (some 31, .slice 9 (.tmp 27) (some (.tmp 28)) (some (.tmp 30)) none, none)) rfl rfl (fun w' hS => val_subE (r := (winA (pad ((tokT s)[i]).l) k).l) rfl rfl rfl Try.underlying9 (by omega) (by omega) (by omega) win_sub) ?_
        refine aS (by kernel_rfl : opAt F15.o11 6 = some (some 32, .buildSlice 23 1 #[(0, (.tmp 31))], none)) rfl rfl (a_buildSlice (ys := ([winA (pad ((tokT s)[i]).l) k] : List Tx)) (e := 9) (bytes := 16) hF (by kernel_rfl) rfl (by decide) (by decide) ⟨rfl, ⟨_, rfl, rv_tx.2 ⟨rfl, (by have := winA_len (pad ((tokT s)[i]).l) k; omega)⟩⟩, trivial⟩) ?_
        rintro v32 w4 ⟨hs, hn, hF⟩
        refine ⟨trivial, ?_⟩
        replace hT := hT.trans hs (by simp)
        replace ht := ht.st hs (by first | decide | (simp <;> omega))
        replace ho := ho.st hs (by first | decide | (simp <;> omega)) (by first | decide | (simp <;> omega))
        refine aS (by kernel_rfl : opAt F15.o11 7 = some (some 33, .call { callee := .builtin .append, args := #[(.tmp 26), (.tmp 32)], argTypes := #[23, 23] }, none)) rfl rfl (a_append (e := 9) (bytes := 16) hF (by decide) rfl rfl (by kernel_rfl) (by decide) ho hn (by simp only [List.length_append, List.length_cons, List.length_nil]; omega) (by simp only [List.length_append, List.length_cons, List.length_nil]; omega)) ?_
        rintro v33 w5 ⟨Cw5, hs, ho, hF⟩
        refine ⟨trivial, ?_⟩
        replace hT := hT.trans hs (by simp)
        replace ht := ht.st hs (by first | decide | (simp <;> omega))
        replace hn := hn.st hs (by first | decide | (simp <;> omega))
        refine yS (by kernel_rfl : opAt F15.o11 8 = some (some 3, .assign (.tmp 33), none)) rfl rfl (fun w' hS => val_assign rfl) ?_
        refine Sch.nil ?_
        refine run_inBlock ?_
        refine run_plain (id := 12) (ops := F15.o12) [(0, true), (1, true)] (by kernel_rfl) (by kernel_rfl) ?_
        refine yS (by kernel_rfl : opAt F15.o12 0 = some (some 34, .binOp .add 3 (.tmp 23) (.const (.int .i64 1)) 3, none)) rfl rfl (fun w' hS => val_addi rfl rfl (by omega) (by omega)) ?_
        refine yS (by kernel_rfl : opAt F15.o12 1 = some (some 23, .move (.tmp 34), none)) rfl rfl (fun w' hS => val_move rfl) ?_
        refine Sch.nil ?_
        refine kp (sub_cons 3 rfl rfl (sub_cons 5 rfl rfl (sub_cons 11 rfl rfl (sub_cons 12 rfl rfl (sub_cons 13 rfl rfl (sub_cons 22 rfl rfl (sub_cons 23 rfl (eq_int (by simp)) (sub_nil _)))))))) (next2 (k + 1, v33, Cw5) _ ⟨(by first | omega | (simp only; omega)), hF, hT, ht, (by rw [wins_take hkl, ← List.append_assoc]; exact ho)⟩ (by first | omega | (simp only; omega)))
      · skip
        have hkl : k = (pad ((tokT s)[i]).l).length - 1 := by omega
        refine run_exit (id := 2) (by kernel_rfl) rfl ?_
        refine run_inBlock ?_
        refine run_plain (id := 13) (ops := F15.o13) [(0, true), (1, true)] (by kernel_rfl) (by kernel_rfl) ?_
        refine yS (by kernel_rfl : opAt F15.o13 0 = some (some 35, .binOp .add 3 (.tmp 13) (.const (.int .i64 1)) 3, none)) rfl rfl (fun w' hS => val_addi rfl rfl (by omega) (by omega)) ?_
        refine yS (by kernel_rfl : opAt F15.o13 1 = some (some 13, .move (.tmp 35), none)) rfl rfl (fun w' hS => val_move rfl) ?_
        refine Sch.nil ?_
        refine kp (sub_cons 3 rfl rfl (sub_cons 11 rfl rfl (sub_cons 12 rfl rfl (sub_cons 13 rfl (eq_int (by simp)) (sub_nil _))))) (next1 (i + 1, vo, C2) _ ⟨(by first | omega | (simp only; omega)), hF, hT, ht, (by rw [hfn]; rw [hkl, List.take_of_length_le (Nat.le_of_eq (wins_len _))] at ho; exact ho)⟩ (by first | omega | (simp only; omega)))
    · skip
      have hil : i = (tokT s).length := by omega
      refine run_exit (id := 0) (by kernel_rfl) rfl ?_
      refine run_seq (x := F15.c47) (y := F15.c48) (by kernel_rfl) ?_
      refine run_plain (id := 14) (ops := F15.o14) [(0, true), (1, false), (2, true)] (by kernel_rfl) (by kernel_rfl) ?_
      subst hil
      rw [List.take_length] at ho hfl
      replace hF := hF.frz 3
      replace hT := hT.frz (n := 3) (fun b => Nat.lt_of_lt_of_le (col1_lt2 C b) (by decide))
      replace ht := ht.frz 3
      have hl_ := ho.frz (n := 3) (by decide) (by omega)
      clear ho
      have hl := hl_
      clear hl_
      have hsh : ∀ x ∈ flatW (tokT s), x.l.length ≤ 1099511627776 := fun x hx => by have := flatW_short hx; omega
      refine yS (by kernel_rfl : opAt F15.o14 0 = some (some 36, .move (.tmp 3), none)) rfl rfl (fun w' hS => val_move rfl) ?_
      refine cS (by kernel_rfl : opAt F15.o14 1 = some (some 37, .call { callee := .value (.func 24), args := #[(.tmp 36)], argTypes := #[23] }, none)) rfl rfl (ent Try.call24 rfl) (set_ok hF hl hsh (by omega)) ?_
      rintro vr w6 ⟨hs, hr⟩
      refine ⟨trivial, ?_⟩
      replace hF := hF.st hs
      replace hT := hT.trans hs (by simp)
      replace ht := ht.st hs (by first | decide | (simp <;> omega))
      replace hl := hl.st hs (by first | decide | (simp <;> omega))
      refine yS (by kernel_rfl : opAt F15.o14 2 = some (some 2, .assign (.tmp 37), none)) rfl rfl (fun w' hS => val_assign rfl) ?_
      refine Sch.nil ?_
      refine run_ret1 (by kernel_rfl) Try.func15 Try.results15 rfl ?_
      exact ⟨hT.out1 (by decide), by rw [hg]; exact hr.out hT hF0 (Mc_col1 C)⟩
namespace F16
noncomputable def c0 : Code := bodyOf Try.f16
noncomputable def c1 : Code := cl c0
noncomputable def o0 : Array Oper := rops c1
noncomputable def c2 : Code := cr c0
noncomputable def c3 : Code := cl c2
noncomputable def c4 : Code := cl c3
noncomputable def o1 : Array Oper := rops c4
noncomputable def c5 : Code := cr c3
noncomputable def c6 : Code := cl c5
noncomputable def c7 : Code := cl c6
noncomputable def o2 : Array Oper := rops c7
noncomputable def c8 : Code := cr c6
noncomputable def c9 : Code := cr c5
noncomputable def c10 : Code := cr c2
noncomputable def c11 : Code := cl c10
noncomputable def o3 : Array Oper := rops c11
noncomputable def c12 : Code := cr c10
noncomputable def c13 : Code := cl c12
noncomputable def o4 : Array Oper := rops c13
noncomputable def c14 : Code := cr c12
noncomputable def c15 : Code := cl c14
noncomputable def c16 : Code := cl c15
noncomputable def o5 : Array Oper := rops c16
noncomputable def c17 : Code := cr c15
noncomputable def c18 : Code := cl c17
noncomputable def c19 : Code := cl c18
noncomputable def c20 : Code := cl c19
noncomputable def c21 : Code := cl c20
noncomputable def o6 : Array Oper := rops c21
noncomputable def c22 : Code := cr c20
noncomputable def c23 : Code := cl c22
noncomputable def c24 : Code := cr c22
noncomputable def c25 : Code := cr c19
noncomputable def c26 : Code := cl c25
noncomputable def c27 : Code := cl c26
noncomputable def c28 : Code := cl c27
noncomputable def o8 : Array Oper := rops c28
noncomputable def c29 : Code := cr c27
noncomputable def c30 : Code := cl c29
noncomputable def o9 : Array Oper := rops c30
noncomputable def c31 : Code := cr c29
noncomputable def c32 : Code := cl c31
noncomputable def c33 : Code := cl c32
noncomputable def c34 : Code := cl c33
noncomputable def c35 : Code := cl c34
noncomputable def o10 : Array Oper := rops c35
noncomputable def c36 : Code := cr c34
noncomputable def c37 : Code := cl c36
noncomputable def c38 : Code := cr c36
noncomputable def c39 : Code := cr c33
noncomputable def c40 : Code := cl c39
noncomputable def c41 : Code := cl c40
noncomputable def o12 : Array Oper := rops c41
noncomputable def c42 : Code := cr c39
noncomputable def o11 : Array Oper := rops c42
noncomputable def c43 : Code := cr c25
noncomputable def o7 : Array Oper := rops c43
noncomputable def c44 : Code := cr c14
noncomputable def c45 : Code := cl c44
noncomputable def o13 : Array Oper := rops c45
noncomputable def c46 : Code := cr c44
end F16
/-- Bigrams. -/
theorem rgrams_ok {w₀ : World} {C : Nat → Nat} {s : List UInt8} (hF : Lim w₀ C) (hb : s.length ≤ 4294967296) : Calls Try.prog 16 #[bs s] w₀ (Ret fun v w' => Stp [] w₀ C w' C ∧ RV w' (Mc C) (gramsT s) v) := by
  have hF0 := hF
  have hT := Stp.refl [2, 3, 4, 5, 6, 7, 8, 9] w₀ (col1 C)
  replace hF := hF.col1
  refine calls_start (c := F16.c0) (N := 42) [bs s] Try.func16 (by kernel_rfl) (by kernel_rfl) (by kernel_rfl) ?_
  show Run _ _ _ _ [(0, bs s)] _ _
  refine run_seq (x := F16.c1) (y := F16.c2) (by kernel_rfl) ?_
  refine run_plain (id := 0) (ops := F16.o0) [(0, true)] (by kernel_rfl) (by kernel_rfl) ?_
  refine yS (by kernel_rfl : opAt F16.o0 0 = some (some 2, .assign (.const (.slice none 0 0)), none)) rfl rfl (fun w' hS => val_assign rfl) ?_
  refine Sch.nil ?_
  refine run_seq (x := F16.c3) (y := F16.c10) (by kernel_rfl) ?_
  refine run_seq (x := F16.c4) (y := F16.c5) (by kernel_rfl) ?_
  refine run_plain (id := 1) (ops := F16.o1) [(0, true), (1, true), (2, true)] (by kernel_rfl) (by kernel_rfl) ?_
  refine yS (by kernel_rfl : opAt F16.o1 0 = some (some 8, .move (.tmp 0), none)) rfl rfl (fun w' hS => val_move rfl) ?_
  refine yS (by kernel_rfl : opAt F16.o1 1 = some (some 9, .call { callee := .builtin .len, args := #[(.tmp 8)], argTypes := #[9] }, none)) rfl rfl (fun w' hS => val_lenT rfl Try.underlying9) ?_
  refine yS (by kernel_rfl : opAt F16.o1 2 = some (some 10, .binOp .gtr 3 (.tmp 9) (.const (.int .i64 64)) 3, none)) rfl rfl (fun w' hS => val_gtr rfl rfl) ?_
  refine Sch.nil ?_
  refine run_if (x := F16.c6) (y := F16.c9) (o := .tmp 10) (by kernel_rfl) rfl (fun h10 => ?_) (fun h10 => ?_)
  · skip
    have hg : gramsT s = [] := by unfold gramsT; rw [if_pos (by omega)]
    refine run_seq (x := F16.c7) (y := F16.c8) (by kernel_rfl) ?_
    refine run_plain (id := 2) (ops := F16.o2) [(0, true)] (by kernel_rfl) (by kernel_rfl) ?_
    refine yS (by kernel_rfl : opAt F16.o2 0 = some (some 2, .assign (.const (.slice none 0 0)), none)) rfl rfl (fun w' hS => val_assign rfl) ?_
    refine Sch.nil ?_
    refine run_ret1 (by kernel_rfl) Try.func16 Try.results16 rfl ?_
    exact ⟨hT.out1 (by decide), by rw [hg]; exact rv_nil⟩
  · skip
    have hg : gramsT s = setT (flatW (tokT s)) := by unfold gramsT; rw [if_neg (by omega)]
    refine run_skip (by kernel_rfl) ?_
    refine run_seq (x := F16.c11) (y := F16.c12) (by kernel_rfl) ?_
    refine run_plain (id := 3) (ops := F16.o3) [(0, true)] (by kernel_rfl) (by kernel_rfl) ?_
    refine yS (by kernel_rfl : opAt F16.o3 0 = some (some 3, .assign (.const (.slice none 0 0)), none)) rfl rfl (fun w' hS => val_assign rfl) ?_
    refine Sch.nil ?_
    refine run_seq (x := F16.c13) (y := F16.c14) (by kernel_rfl) ?_
    refine run_plain (id := 4) (ops := F16.o4) [(0, true), (1, false), (2, true)] (by kernel_rfl) (by kernel_rfl) ?_
    refine yS (by kernel_rfl : opAt F16.o4 0 = some (some 11, .move (.tmp 0), none)) rfl rfl (fun w' hS => val_move rfl) ?_
    refine cS (by kernel_rfl : opAt F16.o4 1 = some (some 12, .call { callee := .value (.func 32), args := #[(.tmp 11)], argTypes := #[9] }, none)) rfl rfl (ent Try.call32 rfl) (rtokens_ok hF (by omega)) ?_
    rintro vt w1 ⟨hs, ht⟩
    refine ⟨trivial, ?_⟩
    replace hF := hF.st hs
    replace hT := hT.trans hs (by simp)
    refine yS (by kernel_rfl : opAt F16.o4 2 = some (some 4, .assign (.tmp 12), none)) rfl rfl (fun w' hS => val_assign rfl) ?_
    refine Sch.nil ?_
    refine run_seq (x := F16.c15) (y := F16.c44) (by kernel_rfl) ?_
    refine run_seq (x := F16.c16) (y := F16.c17) (by kernel_rfl) ?_
    refine run_plain (id := 5) (ops := F16.o5) [(0, true)] (by kernel_rfl) (by kernel_rfl) ?_
    refine yS (by kernel_rfl : opAt F16.o5 0 = some (some 5, .assign (.const (.int .i64 0)), none)) rfl rfl (fun w' hS => val_assign rfl) ?_
    refine Sch.nil ?_
    refine run_block (x := F16.c18) (id := 0) (by kernel_rfl) ?_
    
    refine run_loop (ι := Nat × Value × (Nat → Nat)) (I := fun x w => x.1 ≤ (tokT s).length ∧ Lim w x.2.2 ∧ Stp [2, 3, 4, 5, 6, 7, 8, 9] w₀ (col1 C) w x.2.2 ∧ RV w (Mc x.2.2) (tokT s) vt ∧ OwnL w x.2.2 3 9 x.2.1 (flatW ((tokT s).take x.1))) (e := fun x => [(3, x.2.1), (4, vt), (5, .int .i64 x.1)]) (m := fun x => (tokT s).length - x.1) (x₀ := (0, .slice none 0 0, col1 C)) (body := F16.c19) (by kernel_rfl) (sub_cons 3 rfl rfl (sub_cons 4 rfl rfl (sub_cons 5 rfl rfl (sub_nil _)))) ?_ ?_
    · exact ⟨Nat.zero_le _, hF, hT, ht, OwnL.nil⟩
    intro ⟨i, vo, C1⟩ w2 hI next
    obtain ⟨hi, hF, hT, ht, ho⟩ := hI
    try simp only at hi hF hT ht ho
    have next1 := next
    clear next
    show Run _ _ _ _ [(3, vo), (4, vt), (5, .int .i64 i)] _ _
    have hfl := tok_flat (s := s) (by omega) i
    have htl := tokT_len s
    refine run_seq (x := F16.c20) (y := F16.c25) (by kernel_rfl) ?_
    refine run_seq (x := F16.c21) (y := F16.c22) (by kernel_rfl) ?_
    refine run_plain (id := 6) (ops := F16.o6) [(0, true), (1, true), (2, true), (3, true)] (by kernel_rfl) (by kernel_rfl) ?_
    refine yS (by kernel_rfl : opAt F16.o6 0 = some (some 13, .move (.tmp 5), none)) rfl rfl (fun w' hS => val_move rfl) ?_
    refine yS (by kernel_rfl : opAt F16.o6 1 = some (some 14, .move (.tmp 4), none)) rfl rfl (fun w' hS => val_move rfl) ?_
    refine yS (by kernel_rfl : opAt F16.o6 2 = some (some 15, .call { callee := .builtin .len, args := #[(.tmp 14)], argTypes := #[23] }, none)) rfl rfl (fun w' hS => ht.lenV rfl Try.underlying23 w' ) ?_
    refine yS (by kernel_rfl : opAt F16.o6 3 = some (some 16, .binOp .lss 3 (.tmp 13) (.tmp 15) 3, none)) rfl rfl (fun w' hS => val_lss rfl rfl) ?_
    refine Sch.nil ?_
    refine run_if (x := F16.c23) (y := F16.c24) (o := .tmp 16) (by kernel_rfl) rfl (fun h16 => ?_) (fun h16 => ?_)
    · skip
      have hil : i < (tokT s).length := by omega
      have htx := tokT_each (List.getElem_mem hil)
      have hpl := pad_len ((tokT s)[i]).l
      have hfn := flatW_take hil
      have hfm := tok_flat (s := s) (by omega) (i + 1)
      rw [hfn, List.length_append, wins_len] at hfm
      refine run_skip (by kernel_rfl) ?_
      refine run_seq (x := F16.c26) (y := F16.c43) (by kernel_rfl) ?_
      refine run_block (x := F16.c27) (id := 1) (by kernel_rfl) ?_
      refine run_seq (x := F16.c28) (y := F16.c29) (by kernel_rfl) ?_
      refine run_plain (id := 8) (ops := F16.o8) [(0, true), (1, true), (2, true), (3, false), (4, true), (5, true), (6, true)] (by kernel_rfl) (by kernel_rfl) ?_
      refine yS (by kernel_rfl : opAt F16.o8 0 = some (some 19, .move (.tmp 4), none)) rfl rfl (fun w' hS => val_move rfl) ?_
      refine yS (by kernel_rfl : opAt F16.o8 1 = some (some 20, .move (.tmp 5), none)) rfl rfl (fun w' hS => val_move rfl) ?_
      refine iS (e := 9) (by kernel_rfl : opAt F16.o8 2 = some (some 21, .indexAddr 23 (.tmp 19) (.tmp 20), none)) rfl rfl ht rfl (by kernel_rfl) rfl (by omega) (by omega) ?_
      intro b21 o21 h21
      try simp only [Int.toNat_natCast] at h21
      refine lN (by kernel_rfl : opAt F16.o8 3 = some (some 22, .load 9 (.tmp 21), none)) rfl rfl trivial h21 (by kernel_rfl) rfl rfl ?_
      intro v22 g22
      obtain ⟨rfl, hb22⟩ := rv_tx.1 g22
      refine yS (by kernel_rfl : opAt F16.o8 4 = some (some 23, .binOp .add 9 (.const (.string ⟨#[95]⟩)) (.tmp 22) 9, none)) rfl rfl (fun w' hS => val_cat rfl rfl (by (try simp only [List.length_append, List.length_cons, List.length_nil]); omega)) ?_
      refine yS (by kernel_rfl : opAt F16.o8 5 = some (some 24, .binOp .add 9 (.tmp 23) (.const (.string ⟨#[95]⟩)) 9, none)) rfl rfl (fun w' hS => val_cat rfl rfl (by (try simp only [List.length_append, List.length_cons, List.length_nil]); omega)) ?_
      refine yS (by kernel_rfl : opAt F16.o8 6 = some (some 6, .assign (.tmp 24), none)) rfl rfl (fun w' hS => val_assign rfl) ?_
      refine Sch.nil ?_
      rw [pad_eq]
      refine run_seq (x := F16.c30) (y := F16.c31) (by kernel_rfl) ?_
      refine run_plain (id := 9) (ops := F16.o9) [(0, true)] (by kernel_rfl) (by kernel_rfl) ?_
      refine yS (by kernel_rfl : opAt F16.o9 0 = some (some 7, .assign (.const (.int .i64 0)), none)) rfl rfl (fun w' hS => val_assign rfl) ?_
      refine Sch.nil ?_
      refine run_block (x := F16.c32) (id := 2) (by kernel_rfl) ?_
      
      refine run_loop (ι := Nat × Value × (Nat → Nat)) (I := fun x w => x.1 ≤ (pad ((tokT s)[i]).l).length - 1 ∧ Lim w x.2.2 ∧ Stp [2, 3, 4, 5, 6, 7, 8, 9] w₀ (col1 C) w x.2.2 ∧ RV w (Mc x.2.2) (tokT s) vt ∧ OwnL w x.2.2 3 9 x.2.1 (flatW ((tokT s).take i) ++ (wins (pad ((tokT s)[i]).l)).take x.1)) (e := fun x => [(3, x.2.1), (4, vt), (5, .int .i64 i), (6, bs (pad ((tokT s)[i]).l)), (7, .int .i64 x.1)]) (m := fun x => (pad ((tokT s)[i]).l).length - x.1) (x₀ := (0, vo, C1)) (body := F16.c33) (by kernel_rfl) (sub_cons 3 rfl rfl (sub_cons 4 rfl rfl (sub_cons 5 rfl rfl (sub_cons 6 rfl rfl (sub_cons 7 rfl rfl (sub_nil _)))))) ?_ ?_
      · exact ⟨Nat.zero_le _, hF, hT, ht, by rw [List.take_zero, List.append_nil]; exact ho⟩
      intro ⟨k, vo, C2⟩ w3 hI next
      obtain ⟨hk, hF, hT, ht, ho⟩ := hI
      try simp only at hk hF hT ht ho
      have next2 := next
      clear next
      show Run _ _ _ _ [(3, vo), (4, vt), (5, .int .i64 i), (6, bs (pad ((tokT s)[i]).l)), (7, .int .i64 k)] _ _
      have hwl : ((wins (pad ((tokT s)[i]).l)).take k).length ≤ (pad ((tokT s)[i]).l).length - 1 := by rw [List.length_take, wins_len]; omega
      refine run_seq (x := F16.c34) (y := F16.c39) (by kernel_rfl) ?_
      refine run_seq (x := F16.c35) (y := F16.c36) (by kernel_rfl) ?_
      refine run_plain (id := 10) (ops := F16.o10) [(0, true), (1, true), (2, true), (3, true), (4, true)] (by kernel_rfl) (by kernel_rfl) ?_
      refine yS (by kernel_rfl : opAt F16.o10 0 = some (some 25, .move (.tmp 7), none)) rfl rfl (fun w' hS => val_move rfl) ?_
      refine yS (by kernel_rfl : opAt F16.o10 1 = some (some 26, .binOp .add 3 (.tmp 25) (.const (.int .i64 2)) 3, none)) rfl rfl (fun w' hS => val_addi rfl rfl (by omega) (by omega)) ?_
      refine yS (by kernel_rfl : opAt F16.o10 2 = some (some 27, .move (.tmp 6), none)) rfl rfl (fun w' hS => val_move rfl) ?_
      refine yS (by kernel_rfl : opAt F16.o10 3 = some (some 28, .call { callee := .builtin .len, args := #[(.tmp 27)], argTypes := #[9] }, none)) rfl rfl (fun w' hS => val_lenT rfl Try.underlying9) ?_
      refine yS (by kernel_rfl : opAt F16.o10 4 = some (some 29, .binOp .leq 3 (.tmp 26) (.tmp 28) 3, none)) rfl rfl (fun w' hS => val_leq rfl rfl) ?_
      refine Sch.nil ?_
      refine run_if (x := F16.c37) (y := F16.c38) (o := .tmp 29) (by kernel_rfl) rfl (fun h29 => ?_) (fun h29 => ?_)
      · skip
        have hkl : k < (pad ((tokT s)[i]).l).length - 1 := by omega
        refine run_skip (by kernel_rfl) ?_
        refine run_seq (x := F16.c40) (y := F16.c42) (by kernel_rfl) ?_
        refine run_block (x := F16.c41) (id := 3) (by kernel_rfl) ?_
        refine run_plain (id := 12) (ops := F16.o12) [(0, true), (1, true), (2, true), (3, true), (4, true), (5, true), (6, false), (7, false), (8, true)] (by kernel_rfl) (by kernel_rfl) ?_
        refine yS (by kernel_rfl : opAt F16.o12 0 = some (some 32, .move (.tmp 3), none)) rfl rfl (fun w' hS => val_move rfl) ?_
        refine yS (by kernel_rfl : opAt F16.o12 1 = some (some 33, .move (.tmp 6), none)) rfl rfl (fun w' hS => val_move rfl) ?_
        refine yS (by kernel_rfl : opAt F16.o12 2 = some (some 34, .move (.tmp 7), none)) rfl rfl (fun w' hS => val_move rfl) ?_
        refine yS (by kernel_rfl : opAt F16.o12 3 = some (some 35, .move (.tmp 7), none)) rfl rfl (fun w' hS => val_move rfl) ?_
        refine yS (by kernel_rfl : opAt F16.o12 4 = some (some 36, .binOp .add 3 (.tmp 35) (.const (.int .i64 2)) 3, none)) rfl rfl (fun w' hS => val_addi rfl rfl (by omega) (by omega)) ?_
        refine yS (by kernel_rfl : opAt F16.o12 5 = some (some 37, .slice 9 (.tmp 33) (some (.tmp 34)) (some (.tmp 36)) none, none)) rfl rfl (fun w' hS => val_subE (r := (winA (pad ((tokT s)[i]).l) k).l) rfl rfl rfl Try.underlying9 (by omega) (by omega) (by omega) win_sub) ?_
        refine aS (by kernel_rfl : opAt F16.o12 6 = some (some 38, .buildSlice 23 1 #[(0, (.tmp 37))], none)) rfl rfl (a_buildSlice (ys := ([winA (pad ((tokT s)[i]).l) k] : List Tx)) (e := 9) (bytes := 16) hF (by kernel_rfl) rfl (by decide) (by decide) ⟨rfl, ⟨_, rfl, rv_tx.2 ⟨rfl, (by have := winA_len (pad ((tokT s)[i]).l) k; omega)⟩⟩, trivial⟩) ?_
        rintro v38 w4 ⟨hs, hn, hF⟩
        refine ⟨trivial, ?_⟩
        replace hT := hT.trans hs (by simp)
        replace ht := ht.st hs (by first | decide | (simp <;> omega))
        replace ho := ho.st hs (by first | decide | (simp <;> omega)) (by first | decide | (simp <;> omega))
        refine aS (by kernel_rfl : opAt F16.o12 7 = some (some 39, .call { callee := .builtin .append, args := #[(.tmp 32), (.tmp 38)], argTypes := #[23, 23] }, none)) rfl rfl (a_append (e := 9) (bytes := 16) hF (by decide) rfl rfl (by kernel_rfl) (by decide) ho hn (by simp only [List.length_append, List.length_cons, List.length_nil]; omega) (by simp only [List.length_append, List.length_cons, List.length_nil]; omega)) ?_
        rintro v39 w5 ⟨Cw5, hs, ho, hF⟩
        refine ⟨trivial, ?_⟩
        replace hT := hT.trans hs (by simp)
        replace ht := ht.st hs (by first | decide | (simp <;> omega))
        replace hn := hn.st hs (by first | decide | (simp <;> omega))
        refine yS (by kernel_rfl : opAt F16.o12 8 = some (some 3, .assign (.tmp 39), none)) rfl rfl (fun w' hS => val_assign rfl) ?_
        refine Sch.nil ?_
        refine run_inBlock ?_
        refine run_plain (id := 11) (ops := F16.o11) [(0, true), (1, true), (2, true)] (by kernel_rfl) (by kernel_rfl) ?_
        refine yS (by kernel_rfl : opAt F16.o11 0 = some (some 30, .move (.tmp 7), none)) rfl rfl (fun w' hS => val_move rfl) ?_
        refine yS (by kernel_rfl : opAt F16.o11 1 = some (some 31, .binOp .add 3 (.tmp 30) (.const (.int .i64 1)) 3, none)) rfl rfl (fun w' hS => val_addi rfl rfl (by omega) (by omega)) ?_
        refine yS (by kernel_rfl : opAt F16.o11 2 = some (some 7, .assign (.tmp 31), none)) rfl rfl (fun w' hS => val_assign rfl) ?_
        refine Sch.nil ?_
        refine kp (sub_cons 3 rfl rfl (sub_cons 4 rfl rfl (sub_cons 5 rfl rfl (sub_cons 6 rfl rfl (sub_cons 7 rfl (eq_int (by simp)) (sub_nil _)))))) (next2 (k + 1, v39, Cw5) _ ⟨(by first | omega | (simp only; omega)), hF, hT, ht, (by rw [wins_take hkl, ← List.append_assoc]; exact ho)⟩ (by first | omega | (simp only; omega)))
      · skip
        have hkl : k = (pad ((tokT s)[i]).l).length - 1 := by omega
        refine run_exit (id := 2) (by kernel_rfl) rfl ?_
        refine run_inBlock ?_
        refine run_plain (id := 7) (ops := F16.o7) [(0, true), (1, true), (2, true)] (by kernel_rfl) (by kernel_rfl) ?_
        refine yS (by kernel_rfl : opAt F16.o7 0 = some (some 17, .move (.tmp 5), none)) rfl rfl (fun w' hS => val_move rfl) ?_
        refine yS (by kernel_rfl : opAt F16.o7 1 = some (some 18, .binOp .add 3 (.tmp 17) (.const (.int .i64 1)) 3, none)) rfl rfl (fun w' hS => val_addi rfl rfl (by omega) (by omega)) ?_
        refine yS (by kernel_rfl : opAt F16.o7 2 = some (some 5, .assign (.tmp 18), none)) rfl rfl (fun w' hS => val_assign rfl) ?_
        refine Sch.nil ?_
        refine kp (sub_cons 3 rfl rfl (sub_cons 4 rfl rfl (sub_cons 5 rfl (eq_int (by simp)) (sub_nil _)))) (next1 (i + 1, vo, C2) _ ⟨(by first | omega | (simp only; omega)), hF, hT, ht, (by rw [hfn]; rw [hkl, List.take_of_length_le (Nat.le_of_eq (wins_len _))] at ho; exact ho)⟩ (by first | omega | (simp only; omega)))
    · skip
      have hil : i = (tokT s).length := by omega
      refine run_exit (id := 0) (by kernel_rfl) rfl ?_
      refine run_seq (x := F16.c45) (y := F16.c46) (by kernel_rfl) ?_
      refine run_plain (id := 13) (ops := F16.o13) [(0, true), (1, false), (2, true)] (by kernel_rfl) (by kernel_rfl) ?_
      subst hil
      rw [List.take_length] at ho hfl
      replace hF := hF.frz 3
      replace hT := hT.frz (n := 3) (fun b => Nat.lt_of_lt_of_le (col1_lt2 C b) (by decide))
      replace ht := ht.frz 3
      have hl_ := ho.frz (n := 3) (by decide) (by omega)
      clear ho
      have hl := hl_
      clear hl_
      have hsh : ∀ x ∈ flatW (tokT s), x.l.length ≤ 1099511627776 := fun x hx => by have := flatW_short hx; omega
      refine yS (by kernel_rfl : opAt F16.o13 0 = some (some 40, .move (.tmp 3), none)) rfl rfl (fun w' hS => val_move rfl) ?_
      refine cS (by kernel_rfl : opAt F16.o13 1 = some (some 41, .call { callee := .value (.func 25), args := #[(.tmp 40)], argTypes := #[23] }, none)) rfl rfl (ent Try.call25 rfl) (rset_ok hF hl (by omega)) ?_
      rintro vr w6 ⟨hs, hr⟩
      refine ⟨trivial, ?_⟩
      replace hF := hF.st hs
      replace hT := hT.trans hs (by simp)
      replace ht := ht.st hs (by first | decide | (simp <;> omega))
      replace hl := hl.st hs (by first | decide | (simp <;> omega))
      refine yS (by kernel_rfl : opAt F16.o13 2 = some (some 2, .assign (.tmp 41), none)) rfl rfl (fun w' hS => val_assign rfl) ?_
      refine Sch.nil ?_
      refine run_ret1 (by kernel_rfl) Try.func16 Try.results16 rfl ?_
      exact ⟨hT.out1 (by decide), by rw [hg]; exact hr.out hT hF0 (Mc_col1 C)⟩
namespace F17
noncomputable def c0 : Code := bodyOf Try.f17
noncomputable def c1 : Code := cl c0
noncomputable def o0 : Array Oper := rops c1
noncomputable def c2 : Code := cr c0
noncomputable def c3 : Code := cl c2
noncomputable def c4 : Code := cl c3
noncomputable def o1 : Array Oper := rops c4
noncomputable def c5 : Code := cr c3
noncomputable def c6 : Code := cl c5
noncomputable def c7 : Code := cl c6
noncomputable def o2 : Array Oper := rops c7
noncomputable def c8 : Code := cr c6
noncomputable def c9 : Code := cr c5
noncomputable def c10 : Code := cr c2
noncomputable def c11 : Code := cl c10
noncomputable def o3 : Array Oper := rops c11
noncomputable def c12 : Code := cr c10
noncomputable def c13 : Code := cl c12
noncomputable def c14 : Code := cl c13
noncomputable def o4 : Array Oper := rops c14
noncomputable def c15 : Code := cr c13
noncomputable def c16 : Code := cl c15
noncomputable def c17 : Code := cl c16
noncomputable def c18 : Code := cl c17
noncomputable def o5 : Array Oper := rops c18
noncomputable def c19 : Code := cr c17
noncomputable def c20 : Code := cl c19
noncomputable def c21 : Code := cl c20
noncomputable def c22 : Code := cr c20
noncomputable def c23 : Code := cr c19
noncomputable def c24 : Code := cl c23
noncomputable def c25 : Code := cl c24
noncomputable def c26 : Code := cl c25
noncomputable def o6 : Array Oper := rops c26
noncomputable def c27 : Code := cr c25
noncomputable def o7 : Array Oper := rops c27
noncomputable def c28 : Code := cr c23
noncomputable def o8 : Array Oper := rops c28
noncomputable def c29 : Code := cr c12
noncomputable def c30 : Code := cl c29
noncomputable def o9 : Array Oper := rops c30
noncomputable def c31 : Code := cr c29
end F17
/-- Bytes with their positions. -/
theorem pos_ok {w₀ : World} {C : Nat → Nat} {s : List UInt8} (hF : Lim w₀ C) (hb : s.length ≤ 4294967296) : Calls Try.prog 17 #[bs s] w₀ (Ret fun v w' => Stp [] w₀ C w' C ∧ RV w' (Mc C) (posT s) v) := by
  have hF0 := hF
  have hT := Stp.refl [2, 3, 4, 5, 6, 7, 8, 9] w₀ (col1 C)
  replace hF := hF.col1
  refine calls_start (c := F17.c0) (N := 26) [bs s] Try.func17 (by kernel_rfl) (by kernel_rfl) (by kernel_rfl) ?_
  show Run _ _ _ _ [(0, bs s)] _ _
  refine run_seq (x := F17.c1) (y := F17.c2) (by kernel_rfl) ?_
  refine run_plain (id := 0) (ops := F17.o0) [(0, true)] (by kernel_rfl) (by kernel_rfl) ?_
  refine yS (by kernel_rfl : opAt F17.o0 0 = some (some 2, .assign (.const (.slice none 0 0)), none)) rfl rfl (fun w' hS => val_assign rfl) ?_
  refine Sch.nil ?_
  refine run_seq (x := F17.c3) (y := F17.c10) (by kernel_rfl) ?_
  refine run_seq (x := F17.c4) (y := F17.c5) (by kernel_rfl) ?_
  refine run_plain (id := 1) (ops := F17.o1) [(0, true), (1, true), (2, true)] (by kernel_rfl) (by kernel_rfl) ?_
  refine yS (by kernel_rfl : opAt F17.o1 0 = some (some 5, .move (.tmp 0), none)) rfl rfl (fun w' hS => val_move rfl) ?_
  refine yS (by kernel_rfl : opAt F17.o1 1 = some (some 6, .call { callee := .builtin .len, args := #[(.tmp 5)], argTypes := #[9] }, none)) rfl rfl (fun w' hS => val_lenT rfl Try.underlying9) ?_
  refine yS (by kernel_rfl : opAt F17.o1 2 = some (some 7, .binOp .gtr 3 (.tmp 6) (.const (.int .i64 26)) 3, none)) rfl rfl (fun w' hS => val_gtr rfl rfl) ?_
  refine Sch.nil ?_
  refine run_if (x := F17.c6) (y := F17.c9) (o := .tmp 7) (by kernel_rfl) rfl (fun h7 => ?_) (fun h7 => ?_)
  · skip
    have hg : posT s = [] := by unfold posT; rw [if_pos (by omega)]
    refine run_seq (x := F17.c7) (y := F17.c8) (by kernel_rfl) ?_
    refine run_plain (id := 2) (ops := F17.o2) [(0, true)] (by kernel_rfl) (by kernel_rfl) ?_
    refine yS (by kernel_rfl : opAt F17.o2 0 = some (some 2, .assign (.const (.slice none 0 0)), none)) rfl rfl (fun w' hS => val_assign rfl) ?_
    refine Sch.nil ?_
    refine run_ret1 (by kernel_rfl) Try.func17 Try.results17 rfl ?_
    exact ⟨hT.out1 (by decide), by rw [hg]; exact rv_nil⟩
  · skip
    have hg : posT s = posAll s := by unfold posT; rw [if_neg (by omega)]
    have hs26 : s.length ≤ 26 := by omega
    refine run_skip (by kernel_rfl) ?_
    refine run_seq (x := F17.c11) (y := F17.c12) (by kernel_rfl) ?_
    refine run_plain (id := 3) (ops := F17.o3) [(0, true)] (by kernel_rfl) (by kernel_rfl) ?_
    refine yS (by kernel_rfl : opAt F17.o3 0 = some (some 3, .assign (.const (.slice none 0 0)), none)) rfl rfl (fun w' hS => val_assign rfl) ?_
    refine Sch.nil ?_
    refine run_seq (x := F17.c13) (y := F17.c29) (by kernel_rfl) ?_
    refine run_seq (x := F17.c14) (y := F17.c15) (by kernel_rfl) ?_
    refine run_plain (id := 4) (ops := F17.o4) [(0, true), (1, true), (2, true)] (by kernel_rfl) (by kernel_rfl) ?_
    refine yS (by kernel_rfl : opAt F17.o4 0 = some (some 8, .move (.tmp 0), none)) rfl rfl (fun w' hS => val_move rfl) ?_
    refine yS (by kernel_rfl : opAt F17.o4 1 = some (some 9, .call { callee := .builtin .len, args := #[(.tmp 8)], argTypes := #[9] }, none)) rfl rfl (fun w' hS => val_lenT rfl Try.underlying9) ?_
    refine yS (by kernel_rfl : opAt F17.o4 2 = some (some 10, .move (.const (.int .i64 0)), none)) rfl rfl (fun w' hS => val_move rfl) ?_
    refine Sch.nil ?_
    refine run_block (x := F17.c16) (id := 0) (by kernel_rfl) ?_
    
    refine run_loop (ι := Nat × Value × (Nat → Nat)) (I := fun x w => x.1 ≤ s.length ∧ Lim w x.2.2 ∧ Stp [2, 3, 4, 5, 6, 7, 8, 9] w₀ (col1 C) w x.2.2 ∧ OwnL w x.2.2 3 9 x.2.1 ((posAll s).take x.1)) (e := fun x => [(0, bs s), (3, x.2.1), (9, .int .i64 s.length), (10, .int .i64 x.1)]) (m := fun x => s.length - x.1) (x₀ := (0, .slice none 0 0, col1 C)) (body := F17.c17) (by kernel_rfl) (sub_cons 0 rfl rfl (sub_cons 3 rfl rfl (sub_cons 9 rfl rfl (sub_cons 10 rfl rfl (sub_nil _))))) ?_ ?_
    · exact ⟨Nat.zero_le _, hF, hT, OwnL.nil⟩
    intro ⟨i, vo, C1⟩ w1 hI next
    obtain ⟨hi, hF, hT, ho⟩ := hI
    try simp only at hi hF hT ho
    have next1 := next
    clear next
    show Run _ _ _ _ [(0, bs s), (3, vo), (9, .int .i64 s.length), (10, .int .i64 i)] _ _
    have hpl := List.length_take_le i (posAll s)
    refine run_seq (x := F17.c18) (y := F17.c19) (by kernel_rfl) ?_
    refine run_plain (id := 5) (ops := F17.o5) [(0, true)] (by kernel_rfl) (by kernel_rfl) ?_
    refine yS (by kernel_rfl : opAt F17.o5 0 = some (some 11, .binOp .lss 3 (.tmp 10) (.tmp 9) 3, none)) rfl rfl (fun w' hS => val_lss rfl rfl) ?_
    refine Sch.nil ?_
    refine run_seq (x := F17.c20) (y := F17.c23) (by kernel_rfl) ?_
    refine run_if (x := F17.c21) (y := F17.c22) (o := .tmp 11) (by kernel_rfl) rfl (fun h11 => ?_) (fun h11 => ?_)
    · skip
      have hil : i < s.length := by omega
      refine run_skip (by kernel_rfl) ?_
      refine run_seq (x := F17.c24) (y := F17.c28) (by kernel_rfl) ?_
      refine run_block (x := F17.c25) (id := 1) (by kernel_rfl) ?_
      refine run_seq (x := F17.c26) (y := F17.c27) (by kernel_rfl) ?_
      refine run_plain (id := 6) (ops := F17.o6) [(0, true), (1, true)] (by kernel_rfl) (by kernel_rfl) ?_
      refine yS (by kernel_rfl : opAt F17.o6 0 = some (some 12, .move (.tmp 10), none)) rfl rfl (fun w' hS => val_move rfl) ?_
      refine yS (by kernel_rfl : opAt F17.o6 1 = some (some 4, .assign (.tmp 12), none)) rfl rfl (fun w' hS => val_assign rfl) ?_
      refine Sch.nil ?_
      refine run_plain (id := 7) (ops := F17.o7) [(0, true), (1, true), (2, true), (3, true), (4, true), (5, true), (6, true), (7, false), (8, false), (9, false), (10, false), (11, true)] (by kernel_rfl) (by kernel_rfl) ?_
      refine yS (by kernel_rfl : opAt F17.o7 0 = some (some 13, .move (.tmp 3), none)) rfl rfl (fun w' hS => val_move rfl) ?_
      refine yS (by kernel_rfl : opAt F17.o7 1 = some (some 14, .move (.tmp 4), none)) rfl rfl (fun w' hS => val_move rfl) ?_
      refine yS (by kernel_rfl : opAt F17.o7 2 = some (some 15, .binOp .add 3 (.const (.int .i64 97)) (.tmp 14) 3, none)) rfl rfl (fun w' hS => val_addi rfl rfl (by omega) (by omega)) ?_
      refine yS (by kernel_rfl : opAt F17.o7 3 = some (some 16, .convert 3 5 (.tmp 15), none)) rfl rfl (fun w' hS => val_conv_int rfl ⟨_, Try.underlying3⟩ Try.underlying5) ?_
      refine yS (by kernel_rfl : opAt F17.o7 4 = some (some 17, .move (.tmp 0), none)) rfl rfl (fun w' hS => val_move rfl) ?_
      refine yS (by kernel_rfl : opAt F17.o7 5 = some (some 18, .move (.tmp 4), none)) rfl rfl (fun w' hS => val_move rfl) ?_
      refine yS (by kernel_rfl : opAt F17.o7 6 = some (some 19, .index 9 (.tmp 17) (.tmp 18), none)) rfl rfl (fun w' hS => val_idxN rfl rfl Try.underlying9 (by omega)) ?_
      refine aS (by kernel_rfl : opAt F17.o7 7 = some (some 20, .buildSlice 39 2 #[(0, (.tmp 16)), (1, (.tmp 19))], none)) rfl rfl (a_buildSlice (ys := ([⟨IntKind.u8.wrap (97 + (i : Int))⟩, ⟨((s[i]).toNat : Int)⟩] : List U8)) (e := 5) (bytes := 1) hF (by kernel_rfl) rfl (by decide) (by decide) ⟨rfl, ⟨_, rfl, rv_num.2 rfl⟩, rfl, ⟨_, rfl, rv_num.2 rfl⟩, trivial⟩) ?_
      rintro v20 w2 ⟨hs, hbs, hF⟩
      refine ⟨trivial, ?_⟩
      replace hT := hT.trans hs (by simp)
      replace ho := ho.st hs (by first | decide | (simp <;> omega)) (by first | decide | (simp <;> omega))
      refine nS (by kernel_rfl : opAt F17.o7 8 = some (some 21, .convert 39 9 (.tmp 20), none)) rfl rfl trivial (val_is (val_ofBytes (e := 5) hbs rfl Try.underlying39 Try.underlying5 Try.underlying9 (by simp)) (by rw [pos_bs hil (by omega)])) ?_
      refine aS (by kernel_rfl : opAt F17.o7 9 = some (some 22, .buildSlice 23 1 #[(0, (.tmp 21))], none)) rfl rfl (a_buildSlice (ys := ([posA s i] : List Tx)) (e := 9) (bytes := 16) hF (by kernel_rfl) rfl (by decide) (by decide) ⟨rfl, ⟨_, rfl, rv_tx.2 ⟨rfl, (by show 2 ≤ _; omega)⟩⟩, trivial⟩) ?_
      rintro v22 w3 ⟨hs, hn, hF⟩
      refine ⟨trivial, ?_⟩
      replace hT := hT.trans hs (by simp)
      replace ho := ho.st hs (by first | decide | (simp <;> omega)) (by first | decide | (simp <;> omega))
      replace hbs := hbs.st hs (by first | decide | (simp <;> omega))
      refine aS (by kernel_rfl : opAt F17.o7 10 = some (some 23, .call { callee := .builtin .append, args := #[(.tmp 13), (.tmp 22)], argTypes := #[23, 23] }, none)) rfl rfl (a_append (e := 9) (bytes := 16) hF (by decide) rfl rfl (by kernel_rfl) (by decide) ho hn (by simp only [List.length_append, List.length_cons, List.length_nil]; omega) (by simp only [List.length_append, List.length_cons, List.length_nil]; omega)) ?_
      rintro v23 w4 ⟨Cw4, hs, ho, hF⟩
      refine ⟨trivial, ?_⟩
      replace hT := hT.trans hs (by simp)
      replace hbs := hbs.st hs (by first | decide | (simp <;> omega))
      replace hn := hn.st hs (by first | decide | (simp <;> omega))
      refine yS (by kernel_rfl : opAt F17.o7 11 = some (some 3, .assign (.tmp 23), none)) rfl rfl (fun w' hS => val_assign rfl) ?_
      refine Sch.nil ?_
      refine run_inBlock ?_
      refine run_plain (id := 8) (ops := F17.o8) [(0, true), (1, true)] (by kernel_rfl) (by kernel_rfl) ?_
      refine yS (by kernel_rfl : opAt F17.o8 0 = some (some 24, .binOp .add 3 (.tmp 10) (.const (.int .i64 1)) 3, none)) rfl rfl (fun w' hS => val_addi rfl rfl (by omega) (by omega)) ?_
      refine yS (by kernel_rfl : opAt F17.o8 1 = some (some 10, .move (.tmp 24), none)) rfl rfl (fun w' hS => val_move rfl) ?_
      refine Sch.nil ?_
      refine kp (sub_cons 0 rfl rfl (sub_cons 3 rfl rfl (sub_cons 9 rfl rfl (sub_cons 10 rfl (eq_int (by simp)) (sub_nil _))))) (next1 (i + 1, v23, Cw4) _ ⟨(by first | omega | (simp only; omega)), hF, hT, (by rw [posAll_take hil]; exact ho)⟩ (by first | omega | (simp only; omega)))
    · skip
      have hil : i = s.length := by omega
      refine run_exit (id := 0) (by kernel_rfl) rfl ?_
      refine run_seq (x := F17.c30) (y := F17.c31) (by kernel_rfl) ?_
      refine run_plain (id := 9) (ops := F17.o9) [(0, true), (1, true)] (by kernel_rfl) (by kernel_rfl) ?_
      refine yS (by kernel_rfl : opAt F17.o9 0 = some (some 25, .move (.tmp 3), none)) rfl rfl (fun w' hS => val_move rfl) ?_
      refine yS (by kernel_rfl : opAt F17.o9 1 = some (some 2, .assign (.tmp 25), none)) rfl rfl (fun w' hS => val_assign rfl) ?_
      refine Sch.nil ?_
      refine run_ret1 (by kernel_rfl) Try.func17 Try.results17 rfl ?_
      subst hil
      rw [List.take_of_length_le (Nat.le_of_eq (posAll_len s))] at ho
      exact ⟨hT.out1 (by decide), by rw [hg]; exact ho.out hT hF0 (Mc_col1 C) (fun b _ => col1_lt C (by decide) b) (by rw [posAll_len]; omega)⟩
namespace F18
noncomputable def c0 : Code := bodyOf Try.f18
noncomputable def c1 : Code := cl c0
noncomputable def o0 : Array Oper := rops c1
noncomputable def c2 : Code := cr c0
noncomputable def c3 : Code := cl c2
noncomputable def c4 : Code := cl c3
noncomputable def o1 : Array Oper := rops c4
noncomputable def c5 : Code := cr c3
noncomputable def c6 : Code := cl c5
noncomputable def c7 : Code := cl c6
noncomputable def o2 : Array Oper := rops c7
noncomputable def c8 : Code := cr c6
noncomputable def c9 : Code := cr c5
noncomputable def c10 : Code := cr c2
noncomputable def c11 : Code := cl c10
noncomputable def o3 : Array Oper := rops c11
noncomputable def c12 : Code := cr c10
noncomputable def c13 : Code := cl c12
noncomputable def c14 : Code := cl c13
noncomputable def o4 : Array Oper := rops c14
noncomputable def c15 : Code := cr c13
noncomputable def c16 : Code := cl c15
noncomputable def c17 : Code := cl c16
noncomputable def c18 : Code := cl c17
noncomputable def c19 : Code := cl c18
noncomputable def o5 : Array Oper := rops c19
noncomputable def c20 : Code := cr c18
noncomputable def c21 : Code := cl c20
noncomputable def c22 : Code := cr c20
noncomputable def c23 : Code := cr c17
noncomputable def c24 : Code := cl c23
noncomputable def c25 : Code := cl c24
noncomputable def o7 : Array Oper := rops c25
noncomputable def c26 : Code := cr c23
noncomputable def o6 : Array Oper := rops c26
noncomputable def c27 : Code := cr c12
noncomputable def c28 : Code := cl c27
noncomputable def o8 : Array Oper := rops c28
noncomputable def c29 : Code := cr c27
end F18
/-- Bytes with their positions. -/
theorem rpos_ok {w₀ : World} {C : Nat → Nat} {s : List UInt8} (hF : Lim w₀ C) (hb : s.length ≤ 4294967296) : Calls Try.prog 18 #[bs s] w₀ (Ret fun v w' => Stp [] w₀ C w' C ∧ RV w' (Mc C) (posT s) v) := by
  have hF0 := hF
  have hT := Stp.refl [2, 3, 4, 5, 6, 7, 8, 9] w₀ (col1 C)
  replace hF := hF.col1
  refine calls_start (c := F18.c0) (N := 27) [bs s] Try.func18 (by kernel_rfl) (by kernel_rfl) (by kernel_rfl) ?_
  show Run _ _ _ _ [(0, bs s)] _ _
  refine run_seq (x := F18.c1) (y := F18.c2) (by kernel_rfl) ?_
  refine run_plain (id := 0) (ops := F18.o0) [(0, true)] (by kernel_rfl) (by kernel_rfl) ?_
  refine yS (by kernel_rfl : opAt F18.o0 0 = some (some 2, .assign (.const (.slice none 0 0)), none)) rfl rfl (fun w' hS => val_assign rfl) ?_
  refine Sch.nil ?_
  refine run_seq (x := F18.c3) (y := F18.c10) (by kernel_rfl) ?_
  refine run_seq (x := F18.c4) (y := F18.c5) (by kernel_rfl) ?_
  refine run_plain (id := 1) (ops := F18.o1) [(0, true), (1, true), (2, true)] (by kernel_rfl) (by kernel_rfl) ?_
  refine yS (by kernel_rfl : opAt F18.o1 0 = some (some 5, .move (.tmp 0), none)) rfl rfl (fun w' hS => val_move rfl) ?_
  refine yS (by kernel_rfl : opAt F18.o1 1 = some (some 6, .call { callee := .builtin .len, args := #[(.tmp 5)], argTypes := #[9] }, none)) rfl rfl (fun w' hS => val_lenT rfl Try.underlying9) ?_
  refine yS (by kernel_rfl : opAt F18.o1 2 = some (some 7, .binOp .gtr 3 (.tmp 6) (.const (.int .i64 26)) 3, none)) rfl rfl (fun w' hS => val_gtr rfl rfl) ?_
  refine Sch.nil ?_
  refine run_if (x := F18.c6) (y := F18.c9) (o := .tmp 7) (by kernel_rfl) rfl (fun h7 => ?_) (fun h7 => ?_)
  · skip
    have hg : posT s = [] := by unfold posT; rw [if_pos (by omega)]
    refine run_seq (x := F18.c7) (y := F18.c8) (by kernel_rfl) ?_
    refine run_plain (id := 2) (ops := F18.o2) [(0, true)] (by kernel_rfl) (by kernel_rfl) ?_
    refine yS (by kernel_rfl : opAt F18.o2 0 = some (some 2, .assign (.const (.slice none 0 0)), none)) rfl rfl (fun w' hS => val_assign rfl) ?_
    refine Sch.nil ?_
    refine run_ret1 (by kernel_rfl) Try.func18 Try.results18 rfl ?_
    exact ⟨hT.out1 (by decide), by rw [hg]; exact rv_nil⟩
  · skip
    have hg : posT s = posAll s := by unfold posT; rw [if_neg (by omega)]
    have hs26 : s.length ≤ 26 := by omega
    refine run_skip (by kernel_rfl) ?_
    refine run_seq (x := F18.c11) (y := F18.c12) (by kernel_rfl) ?_
    refine run_plain (id := 3) (ops := F18.o3) [(0, true)] (by kernel_rfl) (by kernel_rfl) ?_
    refine yS (by kernel_rfl : opAt F18.o3 0 = some (some 3, .assign (.const (.slice none 0 0)), none)) rfl rfl (fun w' hS => val_assign rfl) ?_
    refine Sch.nil ?_
    refine run_seq (x := F18.c13) (y := F18.c27) (by kernel_rfl) ?_
    refine run_seq (x := F18.c14) (y := F18.c15) (by kernel_rfl) ?_
    refine run_plain (id := 4) (ops := F18.o4) [(0, true)] (by kernel_rfl) (by kernel_rfl) ?_
    refine yS (by kernel_rfl : opAt F18.o4 0 = some (some 4, .assign (.const (.int .i64 0)), none)) rfl rfl (fun w' hS => val_assign rfl) ?_
    refine Sch.nil ?_
    refine run_block (x := F18.c16) (id := 0) (by kernel_rfl) ?_
    
    refine run_loop (ι := Nat × Value × (Nat → Nat)) (I := fun x w => x.1 ≤ s.length ∧ Lim w x.2.2 ∧ Stp [2, 3, 4, 5, 6, 7, 8, 9] w₀ (col1 C) w x.2.2 ∧ OwnL w x.2.2 3 9 x.2.1 ((posAll s).take x.1)) (e := fun x => [(0, bs s), (3, x.2.1), (4, .int .i64 x.1)]) (m := fun x => s.length - x.1) (x₀ := (0, .slice none 0 0, col1 C)) (body := F18.c17) (by kernel_rfl) (sub_cons 0 rfl rfl (sub_cons 3 rfl rfl (sub_cons 4 rfl rfl (sub_nil _)))) ?_ ?_
    · exact ⟨Nat.zero_le _, hF, hT, OwnL.nil⟩
    intro ⟨i, vo, C1⟩ w1 hI next
    obtain ⟨hi, hF, hT, ho⟩ := hI
    try simp only at hi hF hT ho
    have next1 := next
    clear next
    show Run _ _ _ _ [(0, bs s), (3, vo), (4, .int .i64 i)] _ _
    have hpl := List.length_take_le i (posAll s)
    refine run_seq (x := F18.c18) (y := F18.c23) (by kernel_rfl) ?_
    refine run_seq (x := F18.c19) (y := F18.c20) (by kernel_rfl) ?_
    refine run_plain (id := 5) (ops := F18.o5) [(0, true), (1, true), (2, true), (3, true)] (by kernel_rfl) (by kernel_rfl) ?_
    refine yS (by kernel_rfl : opAt F18.o5 0 = some (some 8, .move (.tmp 4), none)) rfl rfl (fun w' hS => val_move rfl) ?_
    refine yS (by kernel_rfl : opAt F18.o5 1 = some (some 9, .move (.tmp 0), none)) rfl rfl (fun w' hS => val_move rfl) ?_
    refine yS (by kernel_rfl : opAt F18.o5 2 = some (some 10, .call { callee := .builtin .len, args := #[(.tmp 9)], argTypes := #[9] }, none)) rfl rfl (fun w' hS => val_lenT rfl Try.underlying9) ?_
    refine yS (by kernel_rfl : opAt F18.o5 3 = some (some 11, .binOp .lss 3 (.tmp 8) (.tmp 10) 3, none)) rfl rfl (fun w' hS => val_lss rfl rfl) ?_
    refine Sch.nil ?_
    refine run_if (x := F18.c21) (y := F18.c22) (o := .tmp 11) (by kernel_rfl) rfl (fun h11 => ?_) (fun h11 => ?_)
    · skip
      have hil : i < s.length := by omega
      refine run_skip (by kernel_rfl) ?_
      refine run_seq (x := F18.c24) (y := F18.c26) (by kernel_rfl) ?_
      refine run_block (x := F18.c25) (id := 1) (by kernel_rfl) ?_
      refine run_plain (id := 7) (ops := F18.o7) [(0, true), (1, true), (2, true), (3, true), (4, true), (5, true), (6, true), (7, false), (8, false), (9, false), (10, false), (11, true)] (by kernel_rfl) (by kernel_rfl) ?_
      refine yS (by kernel_rfl : opAt F18.o7 0 = some (some 14, .move (.tmp 3), none)) rfl rfl (fun w' hS => val_move rfl) ?_
      refine yS (by kernel_rfl : opAt F18.o7 1 = some (some 15, .move (.tmp 4), none)) rfl rfl (fun w' hS => val_move rfl) ?_
      refine yS (by kernel_rfl : opAt F18.o7 2 = some (some 16, .binOp .add 3 (.const (.int .i64 97)) (.tmp 15) 3, none)) rfl rfl (fun w' hS => val_addi rfl rfl (by omega) (by omega)) ?_
      refine yS (by kernel_rfl : opAt F18.o7 3 = some (some 17, .convert 3 5 (.tmp 16), none)) rfl rfl (fun w' hS => val_conv_int rfl ⟨_, Try.underlying3⟩ Try.underlying5) ?_
      refine yS (by kernel_rfl : opAt F18.o7 4 = some (some 18, .move (.tmp 0), none)) rfl rfl (fun w' hS => val_move rfl) ?_
      refine yS (by kernel_rfl : opAt F18.o7 5 = some (some 19, .move (.tmp 4), none)) rfl rfl (fun w' hS => val_move rfl) ?_
      refine yS (by kernel_rfl : opAt F18.o7 6 = some (some 20, .index 9 (.tmp 18) (.tmp 19), none)) rfl rfl (fun w' hS => val_idxN rfl rfl Try.underlying9 (by omega)) ?_
      refine aS (by kernel_rfl : opAt F18.o7 7 = some (some 21, .buildSlice 39 2 #[(0, (.tmp 17)), (1, (.tmp 20))], none)) rfl rfl (a_buildSlice (ys := ([⟨IntKind.u8.wrap (97 + (i : Int))⟩, ⟨((s[i]).toNat : Int)⟩] : List U8)) (e := 5) (bytes := 1) hF (by kernel_rfl) rfl (by decide) (by decide) ⟨rfl, ⟨_, rfl, rv_num.2 rfl⟩, rfl, ⟨_, rfl, rv_num.2 rfl⟩, trivial⟩) ?_
      rintro v21 w2 ⟨hs, hbs, hF⟩
      refine ⟨trivial, ?_⟩
      replace hT := hT.trans hs (by simp)
      replace ho := ho.st hs (by first | decide | (simp <;> omega)) (by first | decide | (simp <;> omega))
      refine nS (by kernel_rfl : opAt F18.o7 8 = some (some 22, .convert 39 9 (.tmp 21), none)) rfl rfl trivial (val_is (val_ofBytes (e := 5) hbs rfl Try.underlying39 Try.underlying5 Try.underlying9 (by simp)) (by rw [pos_bs hil (by omega)])) ?_
      refine aS (by kernel_rfl : opAt F18.o7 9 = some (some 23, .buildSlice 23 1 #[(0, (.tmp 22))], none)) rfl rfl (a_buildSlice (ys := ([posA s i] : List Tx)) (e := 9) (bytes := 16) hF (by kernel_rfl) rfl (by decide) (by decide) ⟨rfl, ⟨_, rfl, rv_tx.2 ⟨rfl, (by show 2 ≤ _; omega)⟩⟩, trivial⟩) ?_
      rintro v23 w3 ⟨hs, hn, hF⟩
      refine ⟨trivial, ?_⟩
      replace hT := hT.trans hs (by simp)
      replace ho := ho.st hs (by first | decide | (simp <;> omega)) (by first | decide | (simp <;> omega))
      replace hbs := hbs.st hs (by first | decide | (simp <;> omega))
      refine aS (by kernel_rfl : opAt F18.o7 10 = some (some 24, .call { callee := .builtin .append, args := #[(.tmp 14), (.tmp 23)], argTypes := #[23, 23] }, none)) rfl rfl (a_append (e := 9) (bytes := 16) hF (by decide) rfl rfl (by kernel_rfl) (by decide) ho hn (by simp only [List.length_append, List.length_cons, List.length_nil]; omega) (by simp only [List.length_append, List.length_cons, List.length_nil]; omega)) ?_
      rintro v24 w4 ⟨Cw4, hs, ho, hF⟩
      refine ⟨trivial, ?_⟩
      replace hT := hT.trans hs (by simp)
      replace hbs := hbs.st hs (by first | decide | (simp <;> omega))
      replace hn := hn.st hs (by first | decide | (simp <;> omega))
      refine yS (by kernel_rfl : opAt F18.o7 11 = some (some 3, .assign (.tmp 24), none)) rfl rfl (fun w' hS => val_assign rfl) ?_
      refine Sch.nil ?_
      refine run_inBlock ?_
      refine run_plain (id := 6) (ops := F18.o6) [(0, true), (1, true), (2, true)] (by kernel_rfl) (by kernel_rfl) ?_
      refine yS (by kernel_rfl : opAt F18.o6 0 = some (some 12, .move (.tmp 4), none)) rfl rfl (fun w' hS => val_move rfl) ?_
      refine yS (by kernel_rfl : opAt F18.o6 1 = some (some 13, .binOp .add 3 (.tmp 12) (.const (.int .i64 1)) 3, none)) rfl rfl (fun w' hS => val_addi rfl rfl (by omega) (by omega)) ?_
      refine yS (by kernel_rfl : opAt F18.o6 2 = some (some 4, .assign (.tmp 13), none)) rfl rfl (fun w' hS => val_assign rfl) ?_
      refine Sch.nil ?_
      refine kp (sub_cons 0 rfl rfl (sub_cons 3 rfl rfl (sub_cons 4 rfl (eq_int (by simp)) (sub_nil _)))) (next1 (i + 1, v24, Cw4) _ ⟨(by first | omega | (simp only; omega)), hF, hT, (by rw [posAll_take hil]; exact ho)⟩ (by first | omega | (simp only; omega)))
    · skip
      have hil : i = s.length := by omega
      refine run_exit (id := 0) (by kernel_rfl) rfl ?_
      refine run_seq (x := F18.c28) (y := F18.c29) (by kernel_rfl) ?_
      refine run_plain (id := 8) (ops := F18.o8) [(0, true), (1, false), (2, true)] (by kernel_rfl) (by kernel_rfl) ?_
      subst hil
      rw [List.take_of_length_le (Nat.le_of_eq (posAll_len s))] at ho hpl
      rw [posAll_len] at hpl
      replace hF := hF.frz 3
      replace hT := hT.frz (n := 3) (fun b => Nat.lt_of_lt_of_le (col1_lt2 C b) (by decide))
      have hl_ := ho.frz (n := 3) (by decide) (by rw [posAll_len]; omega)
      clear ho
      have hl := hl_
      clear hl_
      refine yS (by kernel_rfl : opAt F18.o8 0 = some (some 25, .move (.tmp 3), none)) rfl rfl (fun w' hS => val_move rfl) ?_
      refine cS (by kernel_rfl : opAt F18.o8 1 = some (some 26, .call { callee := .value (.func 25), args := #[(.tmp 25)], argTypes := #[23] }, none)) rfl rfl (ent Try.call25 rfl) (rset_ok hF hl (by rw [posAll_len]; omega)) ?_
      rintro vr w5 ⟨hs, hr⟩
      refine ⟨trivial, ?_⟩
      replace hF := hF.st hs
      replace hT := hT.trans hs (by simp)
      replace hl := hl.st hs (by first | decide | (simp <;> omega))
      refine yS (by kernel_rfl : opAt F18.o8 2 = some (some 2, .assign (.tmp 26), none)) rfl rfl (fun w' hS => val_assign rfl) ?_
      refine Sch.nil ?_
      refine run_ret1 (by kernel_rfl) Try.func18 Try.results18 rfl ?_
      rw [setT_asc (posAll_asc hs26)] at hr
      exact ⟨hT.out1 (by decide), by rw [hg]; exact hr.out hT hF0 (Mc_col1 C)⟩
end Go.Proofs.Ythdkcbakiiokiaa
