/- Steps through functions of the program. -/
import Derived.Test.YtfmdkdfhnkennaaKC6
set_option linter.unusedVariables false
set_option linter.unusedSimpArgs false
set_option maxRecDepth 100000
set_option maxHeartbeats 400000
namespace Go.Proofs.Ytfmdkdfhnkennaa
open Go.K Go.K.Rep

namespace F24
noncomputable def c0 : Code := bodyOf Try.f24
noncomputable def c1 : Code := cl c0
noncomputable def o0 : Array Oper := rops c1
noncomputable def c2 : Code := cr c0
noncomputable def c3 : Code := cl c2
noncomputable def o1 : Array Oper := rops c3
noncomputable def c4 : Code := cr c2
noncomputable def c5 : Code := cl c4
noncomputable def c6 : Code := cl c5
noncomputable def o2 : Array Oper := rops c6
noncomputable def c7 : Code := cr c5
noncomputable def c8 : Code := cl c7
noncomputable def c9 : Code := cl c8
noncomputable def o3 : Array Oper := rops c9
noncomputable def c10 : Code := cr c8
noncomputable def c11 : Code := cr c7
noncomputable def c12 : Code := cr c4
noncomputable def c13 : Code := cl c12
noncomputable def o4 : Array Oper := rops c13
noncomputable def c14 : Code := cr c12
noncomputable def c15 : Code := cl c14
noncomputable def c16 : Code := cl c15
noncomputable def o5 : Array Oper := rops c16
noncomputable def c17 : Code := cr c15
noncomputable def c18 : Code := cl c17
noncomputable def c19 : Code := cl c18
noncomputable def c20 : Code := cl c19
noncomputable def o6 : Array Oper := rops c20
noncomputable def c21 : Code := cr c19
noncomputable def c22 : Code := cl c21
noncomputable def c23 : Code := cl c22
noncomputable def c24 : Code := cr c22
noncomputable def c25 : Code := cr c21
noncomputable def c26 : Code := cl c25
noncomputable def c27 : Code := cl c26
noncomputable def c28 : Code := cl c27
noncomputable def o7 : Array Oper := rops c28
noncomputable def c29 : Code := cr c27
noncomputable def c30 : Code := cl c29
noncomputable def o8 : Array Oper := rops c30
noncomputable def c31 : Code := cr c29
noncomputable def c32 : Code := cl c31
noncomputable def c33 : Code := cl c32
noncomputable def c34 : Code := cl c33
noncomputable def o9 : Array Oper := rops c34
noncomputable def c35 : Code := cr c33
noncomputable def c36 : Code := cl c35
noncomputable def c37 : Code := cl c36
noncomputable def c38 : Code := cr c36
noncomputable def c39 : Code := cr c35
noncomputable def c40 : Code := cl c39
noncomputable def c41 : Code := cl c40
noncomputable def c42 : Code := cl c41
noncomputable def o10 : Array Oper := rops c42
noncomputable def c43 : Code := cr c41
noncomputable def o11 : Array Oper := rops c43
noncomputable def c44 : Code := cr c39
noncomputable def o12 : Array Oper := rops c44
noncomputable def c45 : Code := cr c25
noncomputable def o13 : Array Oper := rops c45
noncomputable def c46 : Code := cr c14
noncomputable def c47 : Code := cl c46
noncomputable def o14 : Array Oper := rops c47
noncomputable def c48 : Code := cr c46
noncomputable def c49 : Code := cl c48
noncomputable def c50 : Code := cl c49
noncomputable def o15 : Array Oper := rops c50
noncomputable def c51 : Code := cr c49
noncomputable def c52 : Code := cl c51
noncomputable def c53 : Code := cl c52
noncomputable def c54 : Code := cl c53
noncomputable def o16 : Array Oper := rops c54
noncomputable def c55 : Code := cr c53
noncomputable def c56 : Code := cl c55
noncomputable def c57 : Code := cl c56
noncomputable def c58 : Code := cr c56
noncomputable def c59 : Code := cr c55
noncomputable def c60 : Code := cl c59
noncomputable def c61 : Code := cl c60
noncomputable def c62 : Code := cl c61
noncomputable def o17 : Array Oper := rops c62
noncomputable def c63 : Code := cr c61
noncomputable def c64 : Code := cl c63
noncomputable def o18 : Array Oper := rops c64
noncomputable def c65 : Code := cr c63
noncomputable def o19 : Array Oper := rops c65
noncomputable def c66 : Code := cr c59
noncomputable def o20 : Array Oper := rops c66
noncomputable def c67 : Code := cr c48
noncomputable def c68 : Code := cl c67
noncomputable def o21 : Array Oper := rops c68
noncomputable def c69 : Code := cr c67
end F24
/-- 'Split'. -/
theorem split_ok {w₀ : World} {C : Nat → Nat} {l : List Bond} {vl : Value} (hF : Lim w₀ C) (hl : RV w₀ (Mc C) l vl) (hlen : l.length ≤ 100000) :
    Calls Try.prog 24 #[vl] w₀ (Ret fun v w' => ∃ u, v = .tuple #[u, .int .i64 (checkS l)] ∧ Stp [] w₀ C w' C ∧ RV w' (Mc C) (if checkS l = 0 then splitS l else []) u) := by
  have hF0 := hF
  have hT := Stp.refl [2, 3, 4, 5, 6, 7, 8, 9] w₀ (col1 C)
  replace hF := hF.col1
  replace hl : RV w₀ (Mc (col1 C)) l vl := by rw [Mc_col1]; exact hl
  refine calls_start (c := F24.c0) (N := 67) [vl] Try.func24 (by kernel_rfl) (by kernel_rfl) (by kernel_rfl) ?_
  show Run _ _ _ _ [(0, vl)] _ _
  refine run_seq (x := F24.c1) (y := F24.c2) (by kernel_rfl) ?_
  refine run_plain (id := 0) (ops := F24.o0) [(0, true), (1, true)] (by kernel_rfl) (by kernel_rfl) ?_
  refine yS (by kernel_rfl : opAt F24.o0 0 = some (some 2, .assign (.const (.slice none 0 0)), none)) rfl rfl (fun w' hS => val_assign rfl) ?_
  refine yS (by kernel_rfl : opAt F24.o0 1 = some (some 3, .assign (.const (.int .i64 0)), none)) rfl rfl (fun w' hS => val_assign rfl) ?_
  refine Sch.nil ?_
  refine run_seq (x := F24.c3) (y := F24.c4) (by kernel_rfl) ?_
  refine run_plain (id := 1) (ops := F24.o1) [(0, true), (1, false), (2, true), (3, true), (4, true), (5, true), (6, true)] (by kernel_rfl) (by kernel_rfl) ?_
  refine yS (by kernel_rfl : opAt F24.o1 0 = some (some 16, .move (.tmp 0), none)) rfl rfl (fun w' hS => val_move rfl) ?_
  refine cS (by kernel_rfl : opAt F24.o1 1 = some (some 17, .call { callee := .value (.func 19), args := #[(.tmp 16)], argTypes := #[23] }, none)) rfl rfl (ent Try.call19 rfl) (of_ok hF hl hlen) ?_
  rintro vw1 w1 ⟨u, rfl, hs, _, hp⟩
  refine ⟨trivial, ?_⟩
  replace hF := hF.st hs
  replace hT := hT.trans hs (by simp)
  replace hl := hl.st hs (by first | decide | (simp <;> omega))
  refine yS (by kernel_rfl : opAt F24.o1 2 = some (some 15, .move (.tmp 17), none)) rfl rfl (fun w' hS => val_move rfl) ?_
  refine yS (by kernel_rfl : opAt F24.o1 3 = some (some 18, .extract (.tmp 15) 0, none)) rfl rfl (fun w' hS => val_extract rfl rfl) ?_
  refine yS (by kernel_rfl : opAt F24.o1 4 = some (some 19, .extract (.tmp 15) 1, none)) rfl rfl (fun w' hS => val_extract rfl rfl) ?_
  refine yS (by kernel_rfl : opAt F24.o1 5 = some (some 4, .assign (.tmp 18), none)) rfl rfl (fun w' hS => val_assign rfl) ?_
  refine yS (by kernel_rfl : opAt F24.o1 6 = some (some 5, .assign (.tmp 19), none)) rfl rfl (fun w' hS => val_assign rfl) ?_
  refine Sch.nil ?_
  refine run_seq (x := F24.c5) (y := F24.c12) (by kernel_rfl) ?_
  refine run_seq (x := F24.c6) (y := F24.c7) (by kernel_rfl) ?_
  refine run_plain (id := 2) (ops := F24.o2) [(0, true), (1, true)] (by kernel_rfl) (by kernel_rfl) ?_
  refine yS (by kernel_rfl : opAt F24.o2 0 = some (some 20, .move (.tmp 5), none)) rfl rfl (fun w' hS => val_move rfl) ?_
  refine yS (by kernel_rfl : opAt F24.o2 1 = some (some 21, .binOp .neq 35 (.tmp 20) (.const (.int .i64 0)) 35, none)) rfl rfl (fun w' hS => val_neq rfl rfl) ?_
  refine Sch.nil ?_
  refine run_if (x := F24.c8) (y := F24.c11) (o := .tmp 21) (by kernel_rfl) rfl (fun h21 => ?_) (fun h21 => ?_)
  · skip
    refine run_seq (x := F24.c9) (y := F24.c10) (by kernel_rfl) ?_
    refine run_plain (id := 3) (ops := F24.o3) [(0, true), (1, true), (2, true)] (by kernel_rfl) (by kernel_rfl) ?_
    refine yS (by kernel_rfl : opAt F24.o3 0 = some (some 22, .move (.tmp 5), none)) rfl rfl (fun w' hS => val_move rfl) ?_
    refine yS (by kernel_rfl : opAt F24.o3 1 = some (some 2, .assign (.const (.slice none 0 0)), none)) rfl rfl (fun w' hS => val_assign rfl) ?_
    refine yS (by kernel_rfl : opAt F24.o3 2 = some (some 3, .assign (.tmp 22), none)) rfl rfl (fun w' hS => val_assign rfl) ?_
    refine Sch.nil ?_
    refine run_ret2 (by kernel_rfl) Try.func24 Try.results24 rfl rfl ?_
    exact ⟨_, rfl, hT.out1 (by decide), by rw [if_neg h21]; exact rv_nil⟩
  · skip
    have hck : checkS l = 0 := Classical.not_not.1 h21
    have hl4 := checkS_len hck
    have hpl := partsS_len l
    rw [if_pos hck] at hp
    refine run_skip (by kernel_rfl) ?_
    refine run_seq (x := F24.c13) (y := F24.c14) (by kernel_rfl) ?_
    refine run_plain (id := 4) (ops := F24.o4) [(0, false), (1, true)] (by kernel_rfl) (by kernel_rfl) ?_
    refine aS (by kernel_rfl : opAt F24.o4 0 = some (some 23, .makeMap 69 none, none)) rfl rfl (a_makeMap hF 3 kvC vvN) ?_
    rintro _ wm ⟨Cm, bm, rfl, hs, hm, hF⟩
    refine ⟨trivial, ?_⟩
    replace hT := hT.trans hs (by simp)
    replace hl := hl.st hs (by first | decide | (simp <;> omega))
    replace hp := hp.st hs (by first | decide | (simp <;> omega))
    refine yS (by kernel_rfl : opAt F24.o4 1 = some (some 6, .assign (.tmp 23), none)) rfl rfl (fun w' hS => val_assign rfl) ?_
    refine Sch.nil ?_
    refine run_seq (x := F24.c15) (y := F24.c46) (by kernel_rfl) ?_
    refine run_seq (x := F24.c16) (y := F24.c17) (by kernel_rfl) ?_
    refine run_plain (id := 5) (ops := F24.o5) [(0, true), (1, true), (2, true)] (by kernel_rfl) (by kernel_rfl) ?_
    refine yS (by kernel_rfl : opAt F24.o5 0 = some (some 24, .move (.tmp 4), none)) rfl rfl (fun w' hS => val_move rfl) ?_
    refine yS (by kernel_rfl : opAt F24.o5 1 = some (some 25, .call { callee := .builtin .len, args := #[(.tmp 24)], argTypes := #[26] }, none)) rfl rfl (fun w' hS => hp.lenV rfl Try.underlying26 w' ) ?_
    refine yS (by kernel_rfl : opAt F24.o5 2 = some (some 26, .move (.const (.int .i64 0)), none)) rfl rfl (fun w' hS => val_move rfl) ?_
    refine Sch.nil ?_
    refine run_block (x := F24.c18) (id := 0) (by kernel_rfl) ?_
    replace hT : Stp ([2, 3, 4, 5, 6, 7, 8, 9] ++ List.range' 10 (2 * l.length + 1)) w₀ (col1 C) _ _ := hT.mono (by intro c hc; exact List.mem_append_left _ hc)
    refine run_loop (ι := Nat × (List (Couple × Nat)) × (Nat → Nat)) (I := fun x w => x.1 ≤ (partsS l).length ∧ Ix x.2.1 (partsS l) x.1 0 ∧ Lim w x.2.2 ∧ Stp ([2, 3, 4, 5, 6, 7, 8, 9] ++ List.range' 10 (2 * l.length + 1)) w₀ (col1 C) w x.2.2 ∧ RV w (Mc x.2.2) l vl ∧ RV w (Mc x.2.2) (partsS l) u ∧ OwnM w x.2.2 3 bm kvC vvN x.2.1) (e := fun x => [(0, vl), (4, u), (6, .map (some bm)), (24, u), (25, .int .i64 (partsS l).length), (26, .int .i64 x.1)]) (m := fun x => (partsS l).length - x.1) (x₀ := (0, [], Cm)) (body := F24.c19) (by kernel_rfl) (sub_cons 0 rfl rfl (sub_cons 4 rfl rfl (sub_cons 6 rfl rfl (sub_cons 24 rfl rfl (sub_cons 25 rfl rfl (sub_cons 26 rfl rfl (sub_nil _))))))) ?_ ?_
    · exact ⟨Nat.zero_le _, Ix.nil _, hF, hT, hl, hp, hm⟩
    intro ⟨k, um, C1⟩ w2 hI next
    obtain ⟨hk, hix, hF, hT, hl, hp, hm⟩ := hI
    try simp only at hk hix hF hT hl hp hm
    have next1 := next
    clear next
    show Run _ _ _ _ [(0, vl), (4, u), (6, .map (some bm)), (24, u), (25, .int .i64 (partsS l).length), (26, .int .i64 k)] _ _
    refine run_seq (x := F24.c20) (y := F24.c21) (by kernel_rfl) ?_
    refine run_plain (id := 6) (ops := F24.o6) [(0, true)] (by kernel_rfl) (by kernel_rfl) ?_
    refine yS (by kernel_rfl : opAt F24.o6 0 = some (some 27, .binOp .lss 3 (.tmp 26) (.tmp 25) 3, none)) rfl rfl (fun w' hS => val_lss rfl rfl) ?_
    refine Sch.nil ?_
    refine run_seq (x := F24.c22) (y := F24.c25) (by kernel_rfl) ?_
    refine run_if (x := F24.c23) (y := F24.c24) (o := .tmp 27) (by kernel_rfl) rfl (fun h27 => ?_) (fun h27 => ?_)
    · skip
      have hkl : k < (partsS l).length := by omega
      have hgk : (partsS l).getD k [] = (partsS l)[k] := by rw [List.getD_eq_getElem?_getD, List.getElem?_eq_getElem hkl]; rfl
      refine run_skip (by kernel_rfl) ?_
      refine run_seq (x := F24.c26) (y := F24.c45) (by kernel_rfl) ?_
      refine run_block (x := F24.c27) (id := 1) (by kernel_rfl) ?_
      refine run_seq (x := F24.c28) (y := F24.c29) (by kernel_rfl) ?_
      refine run_plain (id := 7) (ops := F24.o7) [(0, true), (1, true), (2, false), (3, true), (4, true)] (by kernel_rfl) (by kernel_rfl) ?_
      refine yS (by kernel_rfl : opAt F24.o7 0 = some (some 28, .move (.tmp 26), none)) rfl rfl (fun w' hS => val_move rfl) ?_
      refine iS (e := 38) (by kernel_rfl : opAt F24.o7 1 = some (some 29, .indexAddr 26 (.tmp 24) (.tmp 26), none)) rfl rfl hp rfl (by kernel_rfl) rfl (by omega) (by omega) ?_
      intro b29 o29 h29
      try simp only [Int.toNat_natCast] at h29
      refine lN (by kernel_rfl : opAt F24.o7 2 = some (some 30, .load 38 (.tmp 29), none)) rfl rfl trivial h29 (by kernel_rfl) rfl rfl ?_
      intro v30 g30
      refine yS (by kernel_rfl : opAt F24.o7 3 = some (some 7, .assign (.tmp 28), none)) rfl rfl (fun w' hS => val_assign rfl) ?_
      refine yS (by kernel_rfl : opAt F24.o7 4 = some (some 8, .assign (.tmp 30), none)) rfl rfl (fun w' hS => val_assign rfl) ?_
      refine Sch.nil ?_
      refine run_seq (x := F24.c30) (y := F24.c31) (by kernel_rfl) ?_
      refine run_plain (id := 8) (ops := F24.o8) [(0, true), (1, true), (2, true)] (by kernel_rfl) (by kernel_rfl) ?_
      refine yS (by kernel_rfl : opAt F24.o8 0 = some (some 31, .move (.tmp 8), none)) rfl rfl (fun w' hS => val_move rfl) ?_
      refine yS (by kernel_rfl : opAt F24.o8 1 = some (some 32, .call { callee := .builtin .len, args := #[(.tmp 31)], argTypes := #[38] }, none)) rfl rfl (fun w' hS => g30.lenV rfl Try.underlying38 w' ) ?_
      refine yS (by kernel_rfl : opAt F24.o8 2 = some (some 33, .move (.const (.int .i64 0)), none)) rfl rfl (fun w' hS => val_move rfl) ?_
      refine Sch.nil ?_
      refine run_block (x := F24.c32) (id := 2) (by kernel_rfl) ?_
      
      refine run_loop (ι := Nat × (List (Couple × Nat)) × (Nat → Nat)) (I := fun x w => x.1 ≤ ((partsS l)[k]'hkl).length ∧ Ix x.2.1 (partsS l) k x.1 ∧ Lim w x.2.2 ∧ Stp ([2, 3, 4, 5, 6, 7, 8, 9] ++ List.range' 10 (2 * l.length + 1)) w₀ (col1 C) w x.2.2 ∧ RV w (Mc x.2.2) l vl ∧ RV w (Mc x.2.2) (partsS l) u ∧ OwnM w x.2.2 3 bm kvC vvN x.2.1 ∧ RV w (Mc x.2.2) ((partsS l)[k]'hkl) v30) (e := fun x => [(0, vl), (4, u), (6, .map (some bm)), (7, .int .i64 k), (24, u), (25, .int .i64 (partsS l).length), (26, .int .i64 k), (31, v30), (32, .int .i64 ((partsS l)[k]'hkl).length), (33, .int .i64 x.1)]) (m := fun x => ((partsS l)[k]'hkl).length - x.1) (x₀ := (0, um, C1)) (body := F24.c33) (by kernel_rfl) (sub_cons 0 rfl rfl (sub_cons 4 rfl rfl (sub_cons 6 rfl rfl (sub_cons 7 rfl rfl (sub_cons 24 rfl rfl (sub_cons 25 rfl rfl (sub_cons 26 rfl rfl (sub_cons 31 rfl rfl (sub_cons 32 rfl rfl (sub_cons 33 rfl rfl (sub_nil _))))))))))) ?_ ?_
      · exact ⟨Nat.zero_le _, hix, hF, hT, hl, hp, hm, g30⟩
      intro ⟨j, um, C1⟩ w3 hI next
      obtain ⟨hj, hix, hF, hT, hl, hp, hm, g30⟩ := hI
      try simp only at hj hix hF hT hl hp hm g30
      have next2 := next
      clear next
      show Run _ _ _ _ [(0, vl), (4, u), (6, .map (some bm)), (7, .int .i64 k), (24, u), (25, .int .i64 (partsS l).length), (26, .int .i64 k), (31, v30), (32, .int .i64 ((partsS l)[k]'hkl).length), (33, .int .i64 j)] _ _
      have hgle := g30.le
      refine run_seq (x := F24.c34) (y := F24.c35) (by kernel_rfl) ?_
      refine run_plain (id := 9) (ops := F24.o9) [(0, true)] (by kernel_rfl) (by kernel_rfl) ?_
      refine yS (by kernel_rfl : opAt F24.o9 0 = some (some 34, .binOp .lss 3 (.tmp 33) (.tmp 32) 3, none)) rfl rfl (fun w' hS => val_lss rfl rfl) ?_
      refine Sch.nil ?_
      refine run_seq (x := F24.c36) (y := F24.c39) (by kernel_rfl) ?_
      refine run_if (x := F24.c37) (y := F24.c38) (o := .tmp 34) (by kernel_rfl) rfl (fun h34 => ?_) (fun h34 => ?_)
      · skip
        have hjl : j < ((partsS l)[k]'hkl).length := by omega
        refine run_skip (by kernel_rfl) ?_
        refine run_seq (x := F24.c40) (y := F24.c44) (by kernel_rfl) ?_
        refine run_block (x := F24.c41) (id := 3) (by kernel_rfl) ?_
        refine run_seq (x := F24.c42) (y := F24.c43) (by kernel_rfl) ?_
        refine run_plain (id := 10) (ops := F24.o10) [(0, true), (1, false), (2, false), (3, false)] (by kernel_rfl) (by kernel_rfl) ?_
        refine iS (e := 25) (by kernel_rfl : opAt F24.o10 0 = some (some 35, .indexAddr 38 (.tmp 31) (.tmp 33), none)) rfl rfl g30 rfl (by kernel_rfl) rfl (by omega) (by omega) ?_
        intro b35 o35 h35
        try simp only [Int.toNat_natCast] at h35
        refine lNA (by kernel_rfl : opAt F24.o10 1 = some (some 36, .load 25 (.tmp 35), none)) rfl rfl trivial h35 (by kernel_rfl) (by kernel_rfl) rfl rfl ?_
        intro v36 g36
        obtain rfl := rv_couple.1 g36
        refine aS (by kernel_rfl : opAt F24.o10 2 = some (some 10, .alloc 25, none)) rfl rfl (a_alloc (cs := [.int .i64 0, .int .i64 0]) hF 5 (by kernel_rfl)) ?_
        rintro _ w4 ⟨Cw4, bw4, rfl, hs, hx, hF⟩
        refine ⟨trivial, ?_⟩
        replace hT := hT.trans hs (by simp)
        replace hl := hl.st hs (by first | decide | (simp <;> omega))
        replace hp := hp.st hs (by first | decide | (simp <;> omega))
        replace hm := hm.st hs (by first | decide | (simp <;> omega))
        replace g30 := g30.st hs (by first | decide | (simp <;> omega))
        replace h35 := h35.st hs (by first | decide | (simp <;> omega))
        refine aN (by kernel_rfl : opAt F24.o10 3 = some (none, .store 25 (.tmp 10) (.tmp 36), none)) rfl (a_storeAll (vs := encR ((((partsS l)[k]'hkl)[j]'hjl))) (n := 2) rfl rfl (by kernel_rfl) rfl rfl (by intro u hu; simp only [encR, List.mem_cons, List.not_mem_nil, or_false] at hu; rcases hu with rfl | rfl <;> rfl) hx rfl) ?_
        rintro _ w5 ⟨rfl, hs, hx⟩
        refine ⟨trivial, ?_⟩
        replace hF := hF.st hs
        replace hT := hT.trans hs (by simp)
        replace hl := hl.st hs (by first | decide | (simp <;> omega))
        replace hp := hp.st hs (by first | decide | (simp <;> omega))
        replace hm := hm.st hs (by first | decide | (simp <;> omega))
        replace g30 := g30.st hs (by first | decide | (simp <;> omega))
        replace h35 := h35.st hs (by first | decide | (simp <;> omega))
        refine Sch.nil ?_
        refine run_plain (id := 11) (ops := F24.o11) [(0, true), (1, false), (2, true), (3, false)] (by kernel_rfl) (by kernel_rfl) ?_
        refine yS (by kernel_rfl : opAt F24.o11 0 = some (some 37, .move (.tmp 6), none)) rfl rfl (fun w' hS => val_move rfl) ?_
        refine nS (by kernel_rfl : opAt F24.o11 1 = some (some 38, .load 25 (.tmp 10), none)) rfl rfl trivial (val_loadOwnAgg (n := 2) (vs := encR (((partsS l)[k]'hkl)[j]'hjl)) hx.at_ (by kernel_rfl) (by kernel_rfl) rfl rfl rfl) ?_
        refine yS (by kernel_rfl : opAt F24.o11 2 = some (some 39, .move (.tmp 7), none)) rfl rfl (fun w' hS => val_move rfl) ?_
        refine aN (by kernel_rfl : opAt F24.o11 3 = some (none, .mapUpdate 69 (.tmp 37) (.tmp 38) (.tmp 39), none)) rfl (a_mapUpdate (k := (((partsS l)[k]'hkl)[j]'hjl)) (u := k) hm Try.underlying69 (keyOK_couple Try.underlying25 (by decide) (by decide) (by kernel_rfl) Try.underlying3) rfl rfl rfl) ?_
        rintro _ w6 ⟨rfl, hs, hm⟩
        refine ⟨trivial, ?_⟩
        replace hF := hF.st hs
        replace hT := hT.trans hs (by simp)
        replace hl := hl.st hs (by first | decide | (simp <;> omega))
        replace hp := hp.st hs (by first | decide | (simp <;> omega))
        replace g30 := g30.st hs (by first | decide | (simp <;> omega))
        replace h35 := h35.st hs (by first | decide | (simp <;> omega))
        replace hx := hx.st hs (by first | decide | (simp <;> omega))
        refine Sch.nil ?_
        refine run_inBlock ?_
        refine run_plain (id := 12) (ops := F24.o12) [(0, true), (1, true)] (by kernel_rfl) (by kernel_rfl) ?_
        refine yS (by kernel_rfl : opAt F24.o12 0 = some (some 40, .binOp .add 3 (.tmp 33) (.const (.int .i64 1)) 3, none)) rfl rfl (fun w' hS => val_addi rfl rfl (by omega) (by omega)) ?_
        refine yS (by kernel_rfl : opAt F24.o12 1 = some (some 33, .move (.tmp 40), none)) rfl rfl (fun w' hS => val_move rfl) ?_
        refine Sch.nil ?_
        refine kp (sub_cons 0 rfl rfl (sub_cons 4 rfl rfl (sub_cons 6 rfl rfl (sub_cons 7 rfl rfl (sub_cons 24 rfl rfl (sub_cons 25 rfl rfl (sub_cons 26 rfl rfl (sub_cons 31 rfl rfl (sub_cons 32 rfl rfl (sub_cons 33 rfl (eq_int (by simp)) (sub_nil _))))))))))) (next2 (j + 1, mput um (((partsS l)[k]'hkl)[j]'hjl) k, Cw4) _ ⟨(by first | omega | (simp only; omega)), (hix.put hkl hjl), hF, hT, hl, hp, hm, g30⟩ (by first | omega | (simp only; omega)))
      · skip
        have hjl : j = ((partsS l)[k]'hkl).length := by omega
        have hix2 := hix.next (by rw [hgk]; omega)
        refine run_exit (id := 2) (by kernel_rfl) rfl ?_
        refine run_inBlock ?_
        refine run_plain (id := 13) (ops := F24.o13) [(0, true), (1, true)] (by kernel_rfl) (by kernel_rfl) ?_
        refine yS (by kernel_rfl : opAt F24.o13 0 = some (some 41, .binOp .add 3 (.tmp 26) (.const (.int .i64 1)) 3, none)) rfl rfl (fun w' hS => val_addi rfl rfl (by omega) (by omega)) ?_
        refine yS (by kernel_rfl : opAt F24.o13 1 = some (some 26, .move (.tmp 41), none)) rfl rfl (fun w' hS => val_move rfl) ?_
        refine Sch.nil ?_
        refine kp (sub_cons 0 rfl rfl (sub_cons 4 rfl rfl (sub_cons 6 rfl rfl (sub_cons 24 rfl rfl (sub_cons 25 rfl rfl (sub_cons 26 rfl (eq_int (by simp)) (sub_nil _))))))) (next1 (k + 1, um, C1) _ ⟨(by first | omega | (simp only; omega)), hix2, hF, hT, hl, hp, hm⟩ (by first | omega | (simp only; omega)))
    · skip
      have hkl : k = (partsS l).length := by omega
      subst hkl
      refine run_exit (id := 0) (by kernel_rfl) rfl ?_
      refine run_seq (x := F24.c47) (y := F24.c48) (by kernel_rfl) ?_
      refine run_plain (id := 14) (ops := F24.o14) [(0, true), (1, true), (2, false), (3, true)] (by kernel_rfl) (by kernel_rfl) ?_
      refine yS (by kernel_rfl : opAt F24.o14 0 = some (some 42, .move (.tmp 4), none)) rfl rfl (fun w' hS => val_move rfl) ?_
      refine yS (by kernel_rfl : opAt F24.o14 1 = some (some 43, .call { callee := .builtin .len, args := #[(.tmp 42)], argTypes := #[26] }, none)) rfl rfl (fun w' hS => hp.lenV rfl Try.underlying26 w' ) ?_
      refine aS (by kernel_rfl : opAt F24.o14 2 = some (some 44, .makeSlice 34 (.tmp 43) (.tmp 43), none)) rfl rfl (a_make (e := 23) (bytes := 24) (x0 := (⟨.slice none 0 0⟩ : Sv)) (zs := [.slice none 0 0]) hF (j := 4) (by decide) (by kernel_rfl) (by kernel_rfl) rfl rfl (by omega) (by omega) (by omega) (fun h M => ⟨rfl, rfl⟩)) ?_
      rintro v44 w7 ⟨Cw7, hs, ho, hF⟩
      refine ⟨trivial, ?_⟩
      replace hT := hT.trans hs (by simp)
      replace hl := hl.st hs (by first | decide | (simp <;> omega))
      replace hp := hp.st hs (by first | decide | (simp <;> omega))
      replace hm := hm.st hs (by first | decide | (simp <;> omega))
      rw [svsF_rep] at ho
      refine yS (by kernel_rfl : opAt F24.o14 3 = some (some 11, .assign (.tmp 44), none)) rfl rfl (fun w' hS => val_assign rfl) ?_
      refine Sch.nil ?_
      refine run_seq (x := F24.c49) (y := F24.c67) (by kernel_rfl) ?_
      refine run_seq (x := F24.c50) (y := F24.c51) (by kernel_rfl) ?_
      refine run_plain (id := 15) (ops := F24.o15) [(0, true), (1, true), (2, true)] (by kernel_rfl) (by kernel_rfl) ?_
      refine yS (by kernel_rfl : opAt F24.o15 0 = some (some 45, .move (.tmp 0), none)) rfl rfl (fun w' hS => val_move rfl) ?_
      refine yS (by kernel_rfl : opAt F24.o15 1 = some (some 46, .call { callee := .builtin .len, args := #[(.tmp 45)], argTypes := #[23] }, none)) rfl rfl (fun w' hS => hl.lenV rfl Try.underlying23 w' ) ?_
      refine yS (by kernel_rfl : opAt F24.o15 2 = some (some 47, .move (.const (.int .i64 0)), none)) rfl rfl (fun w' hS => val_move rfl) ?_
      refine Sch.nil ?_
      refine run_block (x := F24.c52) (id := 4) (by kernel_rfl) ?_
      
      refine run_loop (ι := Nat × (Nat → Value) × (Nat → Nat)) (I := fun x w => x.1 ≤ l.length ∧ Lim w x.2.2 ∧ Stp ([2, 3, 4, 5, 6, 7, 8, 9] ++ List.range' 10 (2 * l.length + 1)) w₀ (col1 C) w x.2.2 ∧ RV w (Mc x.2.2) l vl ∧ OwnM w x.2.2 3 bm kvC vvN um ∧ OwnL w x.2.2 4 23 v44 (svsF x.2.1 (partsS l).length) ∧ (∀ i, i < (partsS l).length → OwnL w x.2.2 (10 + i) 50 (x.2.1 i) ((splitK l x.1).getD i []))) (e := fun x => [(0, vl), (6, .map (some bm)), (11, v44), (45, vl), (46, .int .i64 l.length), (47, .int .i64 x.1)]) (m := fun x => l.length - x.1) (x₀ := (0, fun _ => .slice none 0 0, Cw7)) (body := F24.c53) (by kernel_rfl) (sub_cons 0 rfl rfl (sub_cons 6 rfl rfl (sub_cons 11 rfl rfl (sub_cons 45 rfl rfl (sub_cons 46 rfl rfl (sub_cons 47 rfl rfl (sub_nil _))))))) ?_ ?_
      · exact ⟨Nat.zero_le _, hF, hT, hl, hm, ho, fun i hi => by rw [splitK_zero]; exact OwnL.nil⟩
      intro ⟨k, vf, C1⟩ w8 hI next
      obtain ⟨hk, hF, hT, hl, hm, ho, hin⟩ := hI
      try simp only at hk hF hT hl hm ho hin
      have next3 := next
      clear next
      show Run _ _ _ _ [(0, vl), (6, .map (some bm)), (11, v44), (45, vl), (46, .int .i64 l.length), (47, .int .i64 k)] _ _
      obtain ⟨n, hn⟩ : ∃ n, n = (partsS l).length := ⟨_, rfl⟩
      rw [← hn] at ho hin hpl
      have hsl := svsF_len vf n
      refine run_seq (x := F24.c54) (y := F24.c55) (by kernel_rfl) ?_
      refine run_plain (id := 16) (ops := F24.o16) [(0, true)] (by kernel_rfl) (by kernel_rfl) ?_
      refine yS (by kernel_rfl : opAt F24.o16 0 = some (some 48, .binOp .lss 3 (.tmp 47) (.tmp 46) 3, none)) rfl rfl (fun w' hS => val_lss rfl rfl) ?_
      refine Sch.nil ?_
      refine run_seq (x := F24.c56) (y := F24.c59) (by kernel_rfl) ?_
      refine run_if (x := F24.c57) (y := F24.c58) (o := .tmp 48) (by kernel_rfl) rfl (fun h48 => ?_) (fun h48 => ?_)
      · skip
        have hkl : k < l.length := by omega
        obtain ⟨i0, hi0m⟩ := parts_cover (l := l) (r := l[k].A) (mem_refsS.2 ⟨_, List.getElem_mem hkl, .inl rfl⟩)
        have hi0 : i0 < n := by obtain ⟨h1, _⟩ := parts_getD.1 hi0m; rw [hn]; unfold partsS; rwa [groupS_length]
        have hlk := hix i0 _ (.inl ⟨by omega, hi0m⟩)
        have hgn := splitK_glen l k i0
        refine run_skip (by kernel_rfl) ?_
        refine run_seq (x := F24.c60) (y := F24.c66) (by kernel_rfl) ?_
        refine run_block (x := F24.c61) (id := 5) (by kernel_rfl) ?_
        refine run_seq (x := F24.c62) (y := F24.c63) (by kernel_rfl) ?_
        refine run_plain (id := 17) (ops := F24.o17) [(0, true), (1, false), (2, false), (3, false)] (by kernel_rfl) (by kernel_rfl) ?_
        refine iS (e := 50) (by kernel_rfl : opAt F24.o17 0 = some (some 49, .indexAddr 23 (.tmp 45) (.tmp 47), none)) rfl rfl hl rfl (by kernel_rfl) rfl (by omega) (by omega) ?_
        intro b49 o49 h49
        try simp only [Int.toNat_natCast] at h49
        refine lNA (by kernel_rfl : opAt F24.o17 1 = some (some 50, .load 50 (.tmp 49), none)) rfl rfl trivial h49 (by kernel_rfl) (by kernel_rfl) rfl rfl ?_
        intro v50 g50
        obtain rfl := rv_bond.1 g50
        refine aS (by kernel_rfl : opAt F24.o17 2 = some (some 13, .alloc 50, none)) rfl rfl (a_alloc (cs := [.int .i64 0, .int .i64 0, .int .i64 0, .int .i64 0, .int .i64 0]) hF 5 (by kernel_rfl)) ?_
        rintro _ w9 ⟨Cw9, bw9, rfl, hs, hx, hF⟩
        refine ⟨trivial, ?_⟩
        replace hT := hT.trans hs (by simp)
        replace hl := hl.st hs (by first | decide | (simp <;> omega))
        replace hm := hm.st hs (by first | decide | (simp <;> omega))
        replace ho := ho.st hs (by first | decide | (simp <;> omega)) (by first | decide | (simp <;> omega))
        replace hin := fun k hk => (hin k hk).st hs (by simp <;> omega) (by simp <;> omega)
        replace h49 := h49.st hs (by first | decide | (simp <;> omega))
        refine aN (by kernel_rfl : opAt F24.o17 3 = some (none, .store 50 (.tmp 13) (.tmp 50), none)) rfl (a_storeAll (vs := encB (l[k]'hkl)) (n := 5) rfl rfl (by kernel_rfl) rfl rfl (by intro u hu; simp only [encB, List.mem_cons, List.not_mem_nil, or_false] at hu; rcases hu with rfl | rfl | rfl | rfl | rfl <;> rfl) hx rfl) ?_
        rintro _ w10 ⟨rfl, hs, hx⟩
        refine ⟨trivial, ?_⟩
        replace hF := hF.st hs
        replace hT := hT.trans hs (by simp)
        replace hl := hl.st hs (by first | decide | (simp <;> omega))
        replace hm := hm.st hs (by first | decide | (simp <;> omega))
        replace ho := ho.st hs (by first | decide | (simp <;> omega)) (by first | decide | (simp <;> omega))
        replace hin := fun k hk => (hin k hk).st hs (by simp <;> omega) (by simp <;> omega)
        replace h49 := h49.st hs (by first | decide | (simp <;> omega))
        refine Sch.nil ?_
        refine run_seq (x := F24.c64) (y := F24.c65) (by kernel_rfl) ?_
        refine run_plain (id := 18) (ops := F24.o18) [(0, true), (1, true), (2, false), (3, false), (4, true)] (by kernel_rfl) (by kernel_rfl) ?_
        refine yS (by kernel_rfl : opAt F24.o18 0 = some (some 51, .move (.tmp 6), none)) rfl rfl (fun w' hS => val_move rfl) ?_
        refine yS (by kernel_rfl : opAt F24.o18 1 = some (some 52, .fieldAddr 50 (.tmp 13) 0, none)) rfl rfl (fun w' hS => val_fieldAddr (off := 0) (by kernel_rfl) rfl) ?_
        refine nS (by kernel_rfl : opAt F24.o18 2 = some (some 53, .load 25 (.tmp 52), none)) rfl rfl trivial (val_loadOwnAgg (n := 2) (vs := encR (l[k]'hkl).A) hx.at_ (by kernel_rfl) (by kernel_rfl) rfl rfl rfl) ?_
        refine nS (by kernel_rfl : opAt F24.o18 3 = some (some 54, .lookup 69 (.tmp 51) (.tmp 53) false, none)) rfl rfl trivial (val_is (hm.lookup (z0 := (0 : Nat)) (k := (l[k]'hkl).A) Try.underlying69 (keyOK_couple Try.underlying25 (by decide) (by decide) (by kernel_rfl) Try.underlying3) Try.zeroValue3 rfl rfl) (show _ = Value.int .i64 (i0 : Int) from by rw [hlk]; rfl)) ?_
        refine yS (by kernel_rfl : opAt F24.o18 4 = some (some 14, .assign (.tmp 54), none)) rfl rfl (fun w' hS => val_assign rfl) ?_
        refine Sch.nil ?_
        refine run_draw (id := 19) (ops := F24.o19) [10 + i0] (Cw9) [(0, true), (1, true), (2, true), (3, true), (4, true), (5, true), (6, true), (7, false), (8, false), (9, true), (10, false)] Try_mixed (by kernel_rfl) (by kernel_rfl) (by kernel_rfl) ?_
        intro w11 hs
        replace hF := hF.st hs
        replace hT := hT.trans hs (by simp)
        replace hl := hl.st hs (by first | decide | (simp <;> omega))
        replace hm := hm.st hs (by first | decide | (simp <;> omega))
        replace ho := ho.st hs (by first | decide | (simp <;> omega)) (by first | decide | (simp <;> omega))
        replace hin := fun k hk => (hin k hk).st hs (by simp <;> omega) (by simp <;> omega)
        replace h49 := h49.st hs (by first | decide | (simp <;> omega))
        replace hx := hx.st hs (by first | decide | (simp <;> omega))
        have hR := Stp.refl [10 + i0] w11 (Cw9)
        refine yS (by kernel_rfl : opAt F24.o19 0 = some (some 55, .move (.tmp 11), none)) rfl rfl (fun w' hS => val_move rfl) ?_
        refine yS (by kernel_rfl : opAt F24.o19 1 = some (some 56, .move (.tmp 14), none)) rfl rfl (fun w' hS => val_move rfl) ?_
        refine yS (by kernel_rfl : opAt F24.o19 2 = some (some 57, .move (.tmp 11), none)) rfl rfl (fun w' hS => val_move rfl) ?_
        refine yS (by kernel_rfl : opAt F24.o19 3 = some (some 58, .move (.tmp 14), none)) rfl rfl (fun w' hS => val_move rfl) ?_
        refine oI (e' := 23) (by kernel_rfl : opAt F24.o19 4 = some (some 59, .indexAddr 34 (.tmp 57) (.tmp 58), none)) rfl rfl ho rfl (by kernel_rfl) rfl (by omega) (by omega) ?_
        intro g59 hg59
        try simp only [Int.toNat_natCast]
        refine oS (I := [10 + i0]) (by kernel_rfl : opAt F24.o19 5 = some (some 60, .load 23 (.tmp 59), none)) rfl rfl ho hg59 (fun w' hS => ho.stay hg59 hS (by first | decide | (simp <;> omega))) (by omega) (by kernel_rfl) rfl rfl ?_
        intro v60 g60
        try simp only [Int.toNat_natCast] at g60
        obtain ⟨e60, _⟩ := rv_sv.1 g60
        rw [svsF_get] at e60
        subst e60
        refine yS (by kernel_rfl : opAt F24.o19 6 = some (some 61, .load 50 (.tmp 13), none)) rfl rfl (fun w' hS => val_loadOwnAgg (n := 5) (vs := encB (l[k]'hkl)) (hx.stay hS (by simp <;> omega)) (by kernel_rfl) (by kernel_rfl) rfl rfl rfl) ?_
        refine aS (by kernel_rfl : opAt F24.o19 7 = some (some 62, .buildSlice 23 1 #[(0, (.tmp 61))], none)) rfl rfl (a_buildSlice (ys := ([l[k]'hkl] : List Bond)) (e := 50) (bytes := 40) hF (by kernel_rfl) rfl (by decide) (by decide) ⟨rfl, ⟨_, rfl, rv_bond.2 rfl⟩, trivial⟩) ?_
        rintro v62 w12 ⟨hs, g62, hF⟩
        refine ⟨(hR.trans hs (by simp)).ext, ?_⟩
        replace hT := hT.trans hs (by simp)
        replace hl := hl.st hs (by first | decide | (simp <;> omega))
        replace hm := hm.st hs (by first | decide | (simp <;> omega))
        replace ho := ho.st hs (by first | decide | (simp <;> omega)) (by first | decide | (simp <;> omega))
        replace hin := fun k hk => (hin k hk).st hs (by simp <;> omega) (by simp <;> omega)
        replace h49 := h49.st hs (by first | decide | (simp <;> omega))
        replace hx := hx.st hs (by first | decide | (simp <;> omega))
        replace hR := hR.trans hs (by simp)
        refine aS (by kernel_rfl : opAt F24.o19 8 = some (some 63, .call { callee := .builtin .append, args := #[(.tmp 60), (.tmp 62)], argTypes := #[23, 23] }, none)) rfl rfl (a_append (e := 50) (bytes := 40) hF (by omega) rfl rfl (by kernel_rfl) (by decide) (hin i0 hi0) g62 (by simp only [List.length_cons, List.length_nil]; omega) (by simp only [List.length_cons, List.length_nil]; omega)) ?_
        rintro v63 w13 ⟨Cw13, hs, h63, hF⟩
        refine ⟨(hR.trans hs (by simp)).ext, ?_⟩
        replace hT := hT.trans hs (by simp <;> omega)
        replace hl := hl.st hs (by first | decide | (simp <;> omega))
        replace hm := hm.st hs (by first | decide | (simp <;> omega))
        replace ho := ho.st hs (by first | decide | (simp <;> omega)) (by first | decide | (simp <;> omega))
        replace h49 := h49.st hs (by first | decide | (simp <;> omega))
        replace hx := hx.st hs (by first | decide | (simp <;> omega))
        replace hR := hR.trans hs (by simp <;> omega)
        replace g62 := g62.st hs (by first | decide | (simp <;> omega))
        replace hin := fun k hk (hne : k ≠ i0) => (hin k hk).st hs (by simp <;> omega) (by simp <;> omega)
        refine oI (e' := 23) (by kernel_rfl : opAt F24.o19 9 = some (some 64, .indexAddr 34 (.tmp 55) (.tmp 56), none)) rfl rfl ho rfl (by kernel_rfl) rfl (by omega) (by omega) ?_
        intro g64 hg64
        try simp only [Int.toNat_natCast]
        refine Sch.free rfl ?_
        refine aN (by kernel_rfl : opAt F24.o19 10 = some (none, .store 23 (.tmp 64) (.tmp 63), none)) rfl (a_storeO ho hg64 (by omega) rfl rfl (by kernel_rfl) (rv_sv.2 ⟨rfl, h63.one.2⟩)) ?_
        rintro _ w14 ⟨rfl, hs, ho⟩
        refine ⟨trivial, ?_⟩
        replace hF := hF.st hs
        replace hT := hT.trans hs (by simp)
        replace hl := hl.st hs (by first | decide | (simp <;> omega))
        replace hm := hm.st hs (by first | decide | (simp <;> omega))
        replace h49 := h49.st hs (by first | decide | (simp <;> omega))
        replace hx := hx.st hs (by first | decide | (simp <;> omega))
        replace g62 := g62.st hs (by first | decide | (simp <;> omega))
        replace h63 := h63.st hs (by first | decide | (simp <;> omega)) (by first | decide | (simp <;> omega))
        replace hin := fun k hk hne => (hin k hk hne).st hs (by simp <;> omega) (by simp <;> omega)
        refine Sch.nil ?_
        refine run_inBlock ?_
        refine run_plain (id := 20) (ops := F24.o20) [(0, true), (1, true)] (by kernel_rfl) (by kernel_rfl) ?_
        refine yS (by kernel_rfl : opAt F24.o20 0 = some (some 65, .binOp .add 3 (.tmp 47) (.const (.int .i64 1)) 3, none)) rfl rfl (fun w' hS => val_addi rfl rfl (by omega) (by omega)) ?_
        refine yS (by kernel_rfl : opAt F24.o20 1 = some (some 47, .move (.tmp 65), none)) rfl rfl (fun w' hS => val_move rfl) ?_
        refine Sch.nil ?_
        refine kp (sub_cons 0 rfl rfl (sub_cons 6 rfl rfl (sub_cons 11 rfl rfl (sub_cons 45 rfl rfl (sub_cons 46 rfl rfl (sub_cons 47 rfl (eq_int (by simp)) (sub_nil _))))))) (next3 (k + 1, updV vf i0 v63, Cw13) _ ⟨(by first | omega | (simp only; omega)), hF, hT, hl, hm, (by simp only; rw [← hn, ← svsF_set]; exact ho), (fun i hi => by
            simp only
            rw [splitK_step hkl hi0m hi]
            by_cases e : i = i0
            · subst e; simp only [updV, if_pos]; exact h63
            · simp only [updV, if_neg e]; exact hin i (by omega) e)⟩ (by first | omega | (simp only; omega)))
      · skip
        have hkl : k = l.length := by omega
        subst hkl
        rw [splitK_all] at hin
        refine run_exit (id := 4) (by kernel_rfl) rfl ?_
        refine run_seq (x := F24.c68) (y := F24.c69) (by kernel_rfl) ?_
        refine run_plain (id := 21) (ops := F24.o21) [(0, true), (1, true), (2, true)] (by kernel_rfl) (by kernel_rfl) ?_
        refine yS (by kernel_rfl : opAt F24.o21 0 = some (some 66, .move (.tmp 11), none)) rfl rfl (fun w' hS => val_move rfl) ?_
        refine yS (by kernel_rfl : opAt F24.o21 1 = some (some 2, .assign (.tmp 66), none)) rfl rfl (fun w' hS => val_assign rfl) ?_
        refine yS (by kernel_rfl : opAt F24.o21 2 = some (some 3, .assign (.const (.int .i64 0)), none)) rfl rfl (fun w' hS => val_assign rfl) ?_
        refine Sch.nil ?_
        refine run_ret2 (by kernel_rfl) Try.func24 Try.results24 rfl rfl ?_
        rw [hck]
        have hgl : (splitS l).length = n := by rw [splitS_len, hn]
        rw [← hgl] at ho
        refine ⟨_, rfl, hT.out1 big_ge, ?_⟩
        rw [if_pos rfl]
        refine rv_lists (vf := vf) (ho.out hT hF0 (Mc_col1 C) (fun b _ => col1_lt C (by decide) b) (by rw [svsF_len]; omega)) fun i hi => ?_
        exact (hin i (by omega)).out hT hF0 (Mc_col1 C) (fun b _ => col1_lt C (by omega) b) (by rw [← splitK_all]; exact Nat.le_trans (splitK_glen l _ i) (by omega))
end Go.Proofs.Ytfmdkdfhnkennaa

