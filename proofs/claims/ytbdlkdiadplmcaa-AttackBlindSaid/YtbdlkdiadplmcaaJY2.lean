/- Steps through functions of the program. -/
import Derived.Test.YtbdlkdiadplmcaaJXE
import Derived.Test.YtbdlkdiadplmcaaL2
set_option linter.unusedVariables false
set_option linter.unusedSimpArgs false
set_option maxRecDepth 100000
set_option maxHeartbeats 4000000
namespace Go.Proofs.Ytbdlkdiadplmcaa
open Go.K Go.K.Rep

namespace F4
noncomputable def c0 : Code := bodyOf Try.f4
noncomputable def c1 : Code := cl c0
noncomputable def o0 : Array Oper := rops c1
noncomputable def c2 : Code := cr c0
noncomputable def c3 : Code := cl c2
noncomputable def c4 : Code := cl c3
noncomputable def o1 : Array Oper := rops c4
noncomputable def c5 : Code := cr c3
noncomputable def c6 : Code := cl c5
noncomputable def c7 : Code := cl c6
noncomputable def o2 : Array Oper := rops c7
noncomputable def c8 : Code := cr c6
noncomputable def c9 : Code := cr c5
noncomputable def c10 : Code := cr c2
noncomputable def c11 : Code := cl c10
noncomputable def o3 : Array Oper := rops c11
noncomputable def c12 : Code := cr c10
noncomputable def c13 : Code := cl c12
noncomputable def o4 : Array Oper := rops c13
noncomputable def c14 : Code := cr c12
noncomputable def c15 : Code := cl c14
noncomputable def o5 : Array Oper := rops c15
noncomputable def c16 : Code := cr c14
noncomputable def c17 : Code := cl c16
noncomputable def o6 : Array Oper := rops c17
noncomputable def c18 : Code := cr c16
noncomputable def c19 : Code := cl c18
noncomputable def c20 : Code := cl c19
noncomputable def o7 : Array Oper := rops c20
noncomputable def c21 : Code := cr c19
noncomputable def c22 : Code := cl c21
noncomputable def c23 : Code := cl c22
noncomputable def c24 : Code := cl c23
noncomputable def c25 : Code := cl c24
noncomputable def o8 : Array Oper := rops c25
noncomputable def c26 : Code := cr c24
noncomputable def c27 : Code := cl c26
noncomputable def c28 : Code := cr c26
noncomputable def c29 : Code := cr c23
noncomputable def c30 : Code := cl c29
noncomputable def c31 : Code := cl c30
noncomputable def c32 : Code := cl c31
noncomputable def o10 : Array Oper := rops c32
noncomputable def c33 : Code := cr c31
noncomputable def c34 : Code := cl c33
noncomputable def o11 : Array Oper := rops c34
noncomputable def c35 : Code := cr c33
noncomputable def c36 : Code := cl c35
noncomputable def c37 : Code := cl c36
noncomputable def o12 : Array Oper := rops c37
noncomputable def c38 : Code := cr c36
noncomputable def c39 : Code := cl c38
noncomputable def c40 : Code := cl c39
noncomputable def o13 : Array Oper := rops c40
noncomputable def c41 : Code := cr c39
noncomputable def c42 : Code := cr c38
noncomputable def c43 : Code := cr c35
noncomputable def o14 : Array Oper := rops c43
noncomputable def c44 : Code := cr c29
noncomputable def o9 : Array Oper := rops c44
noncomputable def c45 : Code := cr c18
noncomputable def c46 : Code := cl c45
noncomputable def o15 : Array Oper := rops c46
noncomputable def c47 : Code := cr c45
noncomputable def c48 : Code := cl c47
noncomputable def o16 : Array Oper := rops c48
noncomputable def c49 : Code := cr c47
noncomputable def c50 : Code := cl c49
noncomputable def o17 : Array Oper := rops c50
noncomputable def c51 : Code := cr c49
noncomputable def c52 : Code := cl c51
noncomputable def o18 : Array Oper := rops c52
noncomputable def c53 : Code := cr c51
noncomputable def c54 : Code := cl c53
noncomputable def c55 : Code := cl c54
noncomputable def o19 : Array Oper := rops c55
noncomputable def c56 : Code := cr c54
noncomputable def c57 : Code := cl c56
noncomputable def c58 : Code := cl c57
noncomputable def o20 : Array Oper := rops c58
noncomputable def c59 : Code := cr c57
noncomputable def c60 : Code := cr c56
noncomputable def c61 : Code := cr c53
noncomputable def c62 : Code := cl c61
noncomputable def c63 : Code := cl c62
noncomputable def o21 : Array Oper := rops c63
noncomputable def c64 : Code := cr c62
noncomputable def c65 : Code := cl c64
noncomputable def c66 : Code := cl c65
noncomputable def c67 : Code := cl c66
noncomputable def o22 : Array Oper := rops c67
noncomputable def c68 : Code := cr c66
noncomputable def c69 : Code := cl c68
noncomputable def c70 : Code := cl c69
noncomputable def c71 : Code := cr c69
noncomputable def c72 : Code := cr c68
noncomputable def c73 : Code := cl c72
noncomputable def c74 : Code := cl c73
noncomputable def c75 : Code := cl c74
noncomputable def o23 : Array Oper := rops c75
noncomputable def c76 : Code := cr c74
noncomputable def c77 : Code := cl c76
noncomputable def o24 : Array Oper := rops c77
noncomputable def c78 : Code := cr c76
noncomputable def c79 : Code := cl c78
noncomputable def c80 : Code := cl c79
noncomputable def o25 : Array Oper := rops c80
noncomputable def c81 : Code := cr c79
noncomputable def c82 : Code := cr c78
noncomputable def c83 : Code := cr c72
noncomputable def o26 : Array Oper := rops c83
noncomputable def c84 : Code := cr c61
noncomputable def c85 : Code := cl c84
noncomputable def o27 : Array Oper := rops c85
noncomputable def c86 : Code := cr c84
end F4
/-- The statement's function answers true. -/
theorem blindLaw_ok {w₀ : World} {C : Nat → Nat} {l : List Int} {vl : Value} (hF : Lim w₀ C) (hl : RV w₀ (Mc C) l vl) : Calls Try.prog 4 #[vl] w₀ (Ret fun v w' => v = .bool true ∧ Stp [] w₀ C w' C) := by
  have hF0 := hF
  have hT := Stp.refl [2, 3, 4, 5, 6, 7, 8, 9] w₀ (col1 C)
  replace hF := hF.col1
  replace hl : RV w₀ (Mc (col1 C)) l vl := by rw [Mc_col1]; exact hl
  refine calls_start (c := F4.c0) (N := 131) [vl] Try.func4 (by kernel_rfl) (by kernel_rfl) (by kernel_rfl) ?_
  show Run _ _ _ _ [(0, vl)] _ _
  refine run_seq (x := F4.c1) (y := F4.c2) (by kernel_rfl) ?_
  refine run_plain (id := 0) (ops := F4.o0) [(0, true)] (by kernel_rfl) (by kernel_rfl) ?_
  refine yS (by kernel_rfl : opAt F4.o0 0 = some (some 2, .assign (.const (.bool false)), none)) rfl rfl (fun w' hS => val_assign rfl) ?_
  refine Sch.nil ?_
  refine run_seq (x := F4.c3) (y := F4.c10) (by kernel_rfl) ?_
  refine run_seq (x := F4.c4) (y := F4.c5) (by kernel_rfl) ?_
  refine run_plain (id := 1) (ops := F4.o1) [(0, false), (1, true), (2, true), (3, true), (4, false), (5, true), (6, true)] (by kernel_rfl) (by kernel_rfl) ?_
  refine cS (by kernel_rfl : opAt F4.o1 0 = some (some 20, .call { callee := .value (.func 7), args := #[], argTypes := #[] }, none)) rfl rfl (ent Try.call7 rfl) (awake_ok hF) ?_
  rintro vw1 w1 ⟨rfl, hs⟩
  refine ⟨trivial, ?_⟩
  replace hF := hF.st hs
  replace hT := hT.trans hs (by simp)
  replace hl := hl.st hs (by first | decide | (simp <;> omega))
  refine yS (by kernel_rfl : opAt F4.o1 1 = some (some 21, .unOp .not 4 (.tmp 20), none)) rfl rfl (fun w' hS => val_not rfl) ?_
  refine yS (by kernel_rfl : opAt F4.o1 2 = some (some 22, .move (.tmp 21), none)) rfl rfl (fun w' hS => val_move rfl) ?_
  refine yS (by kernel_rfl : opAt F4.o1 3 = some (some 23, .move (.tmp 0), (some (2, false)))) rfl rfl (fun w' hS => val_move rfl) ?_
  refine cS (by kernel_rfl : opAt F4.o1 4 = some (some 24, .call { callee := .value (.func 8), args := #[(.tmp 23)], argTypes := #[22] }, (some (2, false)))) rfl rfl (ent Try.call8 rfl) (few_any hl) ?_
  rintro vw2 w2 ⟨rfl, rfl⟩
  refine ⟨trivial, ?_⟩
  refine yS (by kernel_rfl : opAt F4.o1 5 = some (some 25, .unOp .not 4 (.tmp 24), (some (2, false)))) rfl rfl (fun w' hS => val_notd rfl) ?_
  refine yS (by kernel_rfl : opAt F4.o1 6 = some (some 26, .pick (.tmp 22) (.const (.bool true)) (.tmp 25), none)) rfl rfl (fun w' hS => val_pick_f rfl rfl) ?_
  refine Sch.nil ?_
  refine run_if (x := F4.c6) (y := F4.c9) (o := .tmp 26) (by kernel_rfl) rfl (fun h26 => ?_) (fun h26 => ?_)
  · skip
    refine run_seq (x := F4.c7) (y := F4.c8) (by kernel_rfl) ?_
    refine run_plain (id := 2) (ops := F4.o2) [(0, false), (1, true)] (by kernel_rfl) (by kernel_rfl) ?_
    refine cS (by kernel_rfl : opAt F4.o2 0 = some (some 27, .call { callee := .value (.func 7), args := #[], argTypes := #[] }, none)) rfl rfl (ent Try.call7 rfl) (awake_ok hF) ?_
    rintro vw3 w3 ⟨rfl, hs⟩
    refine ⟨trivial, ?_⟩
    replace hF := hF.st hs
    replace hT := hT.trans hs (by simp)
    replace hl := hl.st hs (by first | decide | (simp <;> omega))
    refine yS (by kernel_rfl : opAt F4.o2 1 = some (some 2, .assign (.tmp 27), none)) rfl rfl (fun w' hS => val_assign rfl) ?_
    refine Sch.nil ?_
    refine run_ret1 (by kernel_rfl) Try.func4 Try.results4 rfl ?_
    exact ⟨rfl, hT.out1 (by decide)⟩
  · skip
    refine run_skip (by kernel_rfl) ?_
    refine run_seq (x := F4.c11) (y := F4.c12) (by kernel_rfl) ?_
    refine run_plain (id := 3) (ops := F4.o3) [(0, true), (1, false), (2, true)] (by kernel_rfl) (by kernel_rfl) ?_
    refine yS (by kernel_rfl : opAt F4.o3 0 = some (some 28, .move (.tmp 0), none)) rfl rfl (fun w' hS => val_move rfl) ?_
    refine cS (by kernel_rfl : opAt F4.o3 1 = some (some 29, .call { callee := .value (.func 9), args := #[(.tmp 28)], argTypes := #[22] }, none)) rfl rfl (ent Try.call9 rfl) (new_any hF hl) ?_
    rintro vw4 w4 ⟨Cd, bd, rfl, hs, hF, hd⟩
    refine ⟨trivial, ?_⟩
    replace hT := hT.trans hs (by simp)
    replace hl := hl.st hs (by first | decide | (simp <;> omega))
    refine yS (by kernel_rfl : opAt F4.o3 2 = some (some 3, .assign (.tmp 29), none)) rfl rfl (fun w' hS => val_assign rfl) ?_
    refine Sch.nil ?_
    refine run_seq (x := F4.c13) (y := F4.c14) (by kernel_rfl) ?_
    refine run_plain (id := 4) (ops := F4.o4) [(0, true), (1, false), (2, false), (3, false)] (by kernel_rfl) (by kernel_rfl) ?_
    refine yS (by kernel_rfl : opAt F4.o4 0 = some (some 30, .move (.tmp 3), none)) rfl rfl (fun w' hS => val_move rfl) ?_
    refine cS (by kernel_rfl : opAt F4.o4 1 = some (some 31, .call { callee := .value (.func 14), args := #[(.tmp 30), (.const (.int .i64 64))], argTypes := #[25, 3] }, none)) rfl rfl (ent Try.call14 rfl) (bits_any (n := 64) hF (by decide) hd (.inl rfl)) ?_
    rintro vw5 w5 ⟨mk, um, rfl, hmk, hs, hd, hwm⟩
    refine ⟨trivial, ?_⟩
    replace hF := hF.st hs
    replace hT := hT.trans hs (by simp)
    replace hl := hl.st hs (by first | decide | (simp <;> omega))
    refine aS (by kernel_rfl : opAt F4.o4 2 = some (some 4, .alloc 33, none)) rfl rfl (a_alloc (cs := [.int .i64 0, .slice none 0 0]) hF 4 (by kernel_rfl)) ?_
    rintro _ w6 ⟨Cw6, bw6, rfl, hs, hm, hF⟩
    refine ⟨trivial, ?_⟩
    replace hT := hT.trans hs (by simp)
    replace hl := hl.st hs (by first | decide | (simp <;> omega))
    replace hd := hd.st hs (by first | decide | (simp <;> omega)) (by first | decide | (simp <;> omega))
    replace hwm := hwm.st hs (by first | decide | (simp <;> omega))
    refine aN (by kernel_rfl : opAt F4.o4 3 = some (none, .store 33 (.tmp 4) (.tmp 31), none)) rfl (a_storeAll (vs := [.int .i64 mk.len, um]) (n := 2) rfl rfl (by kernel_rfl) rfl rfl (by intro z hz; simp only [List.mem_cons, List.not_mem_nil, or_false] at hz; rcases hz with rfl | rfl <;> first | rfl | exact (hwm.one rfl).2) hm rfl) ?_
    rintro _ w7 ⟨rfl, hs, hm⟩
    refine ⟨trivial, ?_⟩
    replace hF := hF.st hs
    replace hT := hT.trans hs (by simp)
    replace hl := hl.st hs (by first | decide | (simp <;> omega))
    replace hd := hd.st hs (by first | decide | (simp <;> omega)) (by first | decide | (simp <;> omega))
    replace hwm := hwm.st hs (by first | decide | (simp <;> omega))
    refine Sch.nil ?_
    refine run_seq (x := F4.c15) (y := F4.c16) (by kernel_rfl) ?_
    refine run_plain (id := 5) (ops := F4.o5) [(0, true), (1, true)] (by kernel_rfl) (by kernel_rfl) ?_
    refine yS (by kernel_rfl : opAt F4.o5 0 = some (some 5, .assign (.const (.slice none 0 0)), none)) rfl rfl (fun w' hS => val_assign rfl) ?_
    refine yS (by kernel_rfl : opAt F4.o5 1 = some (some 6, .assign (.const (.slice none 0 0)), none)) rfl rfl (fun w' hS => val_assign rfl) ?_
    refine Sch.nil ?_
    refine run_seq (x := F4.c17) (y := F4.c18) (by kernel_rfl) ?_
    refine run_plain (id := 6) (ops := F4.o6) [(0, true), (1, false), (2, true), (3, false), (4, true), (5, false), (6, false), (7, true)] (by kernel_rfl) (by kernel_rfl) ?_
    refine yS (by kernel_rfl : opAt F4.o6 0 = some (some 32, .move (.tmp 3), none)) rfl rfl (fun w' hS => val_move rfl) ?_
    refine cS (by kernel_rfl : opAt F4.o6 1 = some (some 33, .call { callee := .value (.func 14), args := #[(.tmp 32), (.const (.int .i64 64))], argTypes := #[25, 3] }, none)) rfl rfl (ent Try.call14 rfl) (bits_any (n := 64) hF (by decide) hd (.inl rfl)) ?_
    rintro vw8 w8 ⟨x0, u0, rfl, hx0, hs, hd, hw0⟩
    refine ⟨trivial, ?_⟩
    replace hF := hF.st hs
    replace hT := hT.trans hs (by simp)
    replace hl := hl.st hs (by first | decide | (simp <;> omega))
    replace hwm := hwm.st hs (by first | decide | (simp <;> omega))
    replace hm := hm.st hs (by first | decide | (simp <;> omega))
    refine yS (by kernel_rfl : opAt F4.o6 2 = some (some 34, .move (.tmp 3), none)) rfl rfl (fun w' hS => val_move rfl) ?_
    refine cS (by kernel_rfl : opAt F4.o6 3 = some (some 35, .call { callee := .value (.func 14), args := #[(.tmp 34), (.const (.int .i64 64))], argTypes := #[25, 3] }, none)) rfl rfl (ent Try.call14 rfl) (bits_any (n := 64) hF (by decide) hd (.inl rfl)) ?_
    rintro vw9 w9 ⟨x1, u1, rfl, hx1, hs, hd, hw1⟩
    refine ⟨trivial, ?_⟩
    replace hF := hF.st hs
    replace hT := hT.trans hs (by simp)
    replace hl := hl.st hs (by first | decide | (simp <;> omega))
    replace hwm := hwm.st hs (by first | decide | (simp <;> omega))
    replace hm := hm.st hs (by first | decide | (simp <;> omega))
    replace hw0 := hw0.st hs (by first | decide | (simp <;> omega))
    refine yS (by kernel_rfl : opAt F4.o6 4 = some (some 36, .move (.tmp 3), none)) rfl rfl (fun w' hS => val_move rfl) ?_
    refine cS (by kernel_rfl : opAt F4.o6 5 = some (some 37, .call { callee := .value (.func 14), args := #[(.tmp 36), (.const (.int .i64 64))], argTypes := #[25, 3] }, none)) rfl rfl (ent Try.call14 rfl) (bits_any (n := 64) hF (by decide) hd (.inl rfl)) ?_
    rintro vw10 w10 ⟨x2, u2, rfl, hx2, hs, hd, hw2⟩
    refine ⟨trivial, ?_⟩
    replace hF := hF.st hs
    replace hT := hT.trans hs (by simp)
    replace hl := hl.st hs (by first | decide | (simp <;> omega))
    replace hwm := hwm.st hs (by first | decide | (simp <;> omega))
    replace hm := hm.st hs (by first | decide | (simp <;> omega))
    replace hw0 := hw0.st hs (by first | decide | (simp <;> omega))
    replace hw1 := hw1.st hs (by first | decide | (simp <;> omega))
    refine aS (by kernel_rfl : opAt F4.o6 6 = some (some 38, .buildSlice 27 3 #[(0, (.tmp 33)), (1, (.tmp 35)), (2, (.tmp 37))], none)) rfl rfl (a_buildSlice (ys := ([x0, x1, x2] : List Bits)) (e := 33) (bytes := 32) hF (by kernel_rfl) rfl (by decide) (by decide) ⟨rfl, ⟨_, rfl, rv_bits.2 ⟨u0, rfl, hw0⟩⟩, rfl, ⟨_, rfl, rv_bits.2 ⟨u1, rfl, hw1⟩⟩, rfl, ⟨_, rfl, rv_bits.2 ⟨u2, rfl, hw2⟩⟩, trivial⟩) ?_
    rintro v38 w11 ⟨hs, hp, hF⟩
    refine ⟨trivial, ?_⟩
    replace hT := hT.trans hs (by simp)
    replace hl := hl.st hs (by first | decide | (simp <;> omega))
    replace hd := hd.st hs (by first | decide | (simp <;> omega)) (by first | decide | (simp <;> omega))
    replace hwm := hwm.st hs (by first | decide | (simp <;> omega))
    replace hm := hm.st hs (by first | decide | (simp <;> omega))
    replace hw0 := hw0.st hs (by first | decide | (simp <;> omega))
    replace hw1 := hw1.st hs (by first | decide | (simp <;> omega))
    replace hw2 := hw2.st hs (by first | decide | (simp <;> omega))
    clear hw0
    clear hw1
    clear hw2
    obtain ⟨pool, hpe⟩ : ∃ l : List Bits, l = [x0, x1, x2] := ⟨_, rfl⟩
    rw [← hpe] at hp
    have hpl : pool.length = 3 := by rw [hpe]; rfl
    have hpg : ∀ x ∈ pool, BitsN 64 x := by
        rw [hpe]; intro x hx; simp only [List.mem_cons, List.not_mem_nil, or_false] at hx
        rcases hx with rfl | rfl | rfl
        · exact hx0
        · exact hx1
        · exact hx2
    refine yS (by kernel_rfl : opAt F4.o6 7 = some (some 7, .assign (.tmp 38), none)) rfl rfl (fun w' hS => val_assign rfl) ?_
    refine Sch.nil ?_
    refine run_seq (x := F4.c19) (y := F4.c45) (by kernel_rfl) ?_
    refine run_seq (x := F4.c20) (y := F4.c21) (by kernel_rfl) ?_
    refine run_plain (id := 7) (ops := F4.o7) [(0, true), (1, false), (2, true)] (by kernel_rfl) (by kernel_rfl) ?_
    refine yS (by kernel_rfl : opAt F4.o7 0 = some (some 39, .move (.tmp 3), none)) rfl rfl (fun w' hS => val_move rfl) ?_
    refine cS (by kernel_rfl : opAt F4.o7 1 = some (some 40, .call { callee := .value (.func 15), args := #[(.tmp 39), (.const (.int .i64 14))], argTypes := #[25, 3] }, none)) rfl rfl (ent Try.call15 rfl) (next_any (n := 14) hF (by decide) hd (by omega) (by omega)) ?_
    rintro vw12 w12 ⟨k0, rfl, hk0, hs, hd⟩
    refine ⟨trivial, ?_⟩
    replace hF := hF.st hs
    replace hT := hT.trans hs (by simp)
    replace hl := hl.st hs (by first | decide | (simp <;> omega))
    replace hwm := hwm.st hs (by first | decide | (simp <;> omega))
    replace hm := hm.st hs (by first | decide | (simp <;> omega))
    replace hp := hp.st hs (by first | decide | (simp <;> omega))
    refine yS (by kernel_rfl : opAt F4.o7 2 = some (some 8, .assign (.tmp 40), none)) rfl rfl (fun w' hS => val_assign rfl) ?_
    refine Sch.nil ?_
    refine run_block (x := F4.c22) (id := 0) (by kernel_rfl) ?_
    
    refine run_loop (ι := Nat × (List Bits) × Value × Value × (Nat → Nat)) (I := fun x w => x.2.1.length + x.1 ≤ 14 ∧ (∀ y ∈ x.2.1, BitsN 64 y) ∧ Lim w x.2.2.2.2 ∧ Stp [2, 3, 4, 5, 6, 7, 8, 9] w₀ (col1 C) w x.2.2.2.2 ∧ DeckIs w x.2.2.2.2 3 bd ∧ OwnB w x.2.2.2.2 4 bw6 (.cells [.int .i64 mk.len, um].toArray 33) ∧ RV w (Mc x.2.2.2.2) mk.words um ∧ RV w (Mc x.2.2.2.2) pool v38 ∧ OwnL w x.2.2.2.2 5 33 x.2.2.1 x.2.1 ∧ OwnL w x.2.2.2.2 6 33 x.2.2.2.1 (x.2.1.map fun y => xorB y mk)) (e := fun x => [(3, .pointer (some ⟨bd, 0, none⟩)), (4, .pointer (some ⟨bw6, 0, none⟩)), (5, x.2.2.1), (6, x.2.2.2.1), (7, v38), (8, .int .i64 x.1)]) (m := fun x => x.1) (x₀ := (k0, [], .slice none 0 0, .slice none 0 0, Cw6)) (body := F4.c23) (by kernel_rfl) (sub_cons 3 rfl rfl (sub_cons 4 rfl rfl (sub_cons 5 rfl rfl (sub_cons 6 rfl rfl (sub_cons 7 rfl rfl (sub_cons 8 rfl rfl (sub_nil _))))))) ?_ ?_
    · exact ⟨(by simp only [List.length_nil]; omega), (fun x hx => by cases hx), hF, hT, hd, hm, hwm, hp, OwnL.nil, OwnL.nil⟩
    intro ⟨m, cl, v5, v6, C1⟩ w13 hI next
    obtain ⟨hm1, hcl, hF, hT, hd, hm, hwm, hp, hc, hk⟩ := hI
    try simp only at hm1 hcl hF hT hd hm hwm hp hc hk
    have next1 := next
    clear next
    show Run _ _ _ _ [(3, .pointer (some ⟨bd, 0, none⟩)), (4, .pointer (some ⟨bw6, 0, none⟩)), (5, v5), (6, v6), (7, v38), (8, .int .i64 m)] _ _
    have hml : (cl.map fun y => xorB y mk).length = cl.length := List.length_map _
    refine run_seq (x := F4.c24) (y := F4.c29) (by kernel_rfl) ?_
    refine run_seq (x := F4.c25) (y := F4.c26) (by kernel_rfl) ?_
    refine run_plain (id := 8) (ops := F4.o8) [(0, true), (1, true)] (by kernel_rfl) (by kernel_rfl) ?_
    refine yS (by kernel_rfl : opAt F4.o8 0 = some (some 41, .move (.tmp 8), none)) rfl rfl (fun w' hS => val_move rfl) ?_
    refine yS (by kernel_rfl : opAt F4.o8 1 = some (some 42, .binOp .gtr 3 (.tmp 41) (.const (.int .i64 0)) 3, none)) rfl rfl (fun w' hS => val_gtr rfl rfl) ?_
    refine Sch.nil ?_
    refine run_if (x := F4.c27) (y := F4.c28) (o := .tmp 42) (by kernel_rfl) rfl (fun h42 => ?_) (fun h42 => ?_)
    · skip
      refine run_skip (by kernel_rfl) ?_
      refine run_seq (x := F4.c30) (y := F4.c44) (by kernel_rfl) ?_
      refine run_block (x := F4.c31) (id := 1) (by kernel_rfl) ?_
      refine run_seq (x := F4.c32) (y := F4.c33) (by kernel_rfl) ?_
      refine run_plain (id := 10) (ops := F4.o10) [(0, true), (1, true), (2, true), (3, false), (4, true), (5, false), (6, true), (7, false), (8, false), (9, false)] (by kernel_rfl) (by kernel_rfl) ?_
      refine yS (by kernel_rfl : opAt F4.o10 0 = some (some 45, .move (.tmp 7), none)) rfl rfl (fun w' hS => val_move rfl) ?_
      refine yS (by kernel_rfl : opAt F4.o10 1 = some (some 46, .move (.tmp 3), none)) rfl rfl (fun w' hS => val_move rfl) ?_
      refine yS (by kernel_rfl : opAt F4.o10 2 = some (some 47, .move (.tmp 3), none)) rfl rfl (fun w' hS => val_move rfl) ?_
      refine cS (by kernel_rfl : opAt F4.o10 3 = some (some 48, .call { callee := .value (.func 15), args := #[(.tmp 47), (.const (.int .i64 3))], argTypes := #[25, 3] }, none)) rfl rfl (ent Try.call15 rfl) (next_any (n := 3) hF (by decide) hd (by omega) (by omega)) ?_
      rintro vw14 w14 ⟨k1, rfl, hk1, hs, hd⟩
      refine ⟨trivial, ?_⟩
      replace hF := hF.st hs
      replace hT := hT.trans hs (by simp)
      replace hm := hm.st hs (by first | decide | (simp <;> omega))
      replace hwm := hwm.st hs (by first | decide | (simp <;> omega))
      replace hp := hp.st hs (by first | decide | (simp <;> omega))
      replace hc := hc.st hs (by first | decide | (simp <;> omega)) (by first | decide | (simp <;> omega))
      replace hk := hk.st hs (by first | decide | (simp <;> omega)) (by first | decide | (simp <;> omega))
      refine yS (by kernel_rfl : opAt F4.o10 4 = some (some 49, .binOp .add 3 (.const (.int .i64 1)) (.tmp 48) 3, none)) rfl rfl (fun w' hS => val_addi rfl rfl (by omega) (by omega)) ?_
      refine cS (by kernel_rfl : opAt F4.o10 5 = some (some 50, .call { callee := .value (.func 15), args := #[(.tmp 46), (.tmp 49)], argTypes := #[25, 3] }, none)) rfl rfl (ent Try.call15 rfl) (next_any (n := 1 + (k1 : Int)) hF (by decide) hd (by omega) (by omega)) ?_
      rintro vw15 w15 ⟨k2, rfl, hk2, hs, hd⟩
      refine ⟨trivial, ?_⟩
      replace hF := hF.st hs
      replace hT := hT.trans hs (by simp)
      replace hm := hm.st hs (by first | decide | (simp <;> omega))
      replace hwm := hwm.st hs (by first | decide | (simp <;> omega))
      replace hp := hp.st hs (by first | decide | (simp <;> omega))
      replace hc := hc.st hs (by first | decide | (simp <;> omega)) (by first | decide | (simp <;> omega))
      replace hk := hk.st hs (by first | decide | (simp <;> omega)) (by first | decide | (simp <;> omega))
      refine iS (e := 33) (by kernel_rfl : opAt F4.o10 6 = some (some 51, .indexAddr 27 (.tmp 45) (.tmp 50), none)) rfl rfl hp rfl (by kernel_rfl) rfl (by omega) (by omega) ?_
      intro b51 o51 h51
      try simp only [Int.toNat_natCast] at h51
      refine lNA (by kernel_rfl : opAt F4.o10 7 = some (some 52, .load 33 (.tmp 51), none)) rfl rfl trivial h51 (by kernel_rfl) (by kernel_rfl) rfl rfl ?_
      intro v52 g52
      obtain ⟨ux, rfl, hwx⟩ := rv_bits.1 g52
      clear g52
      have hgd := hpg _ (List.getElem_mem (show k2 < pool.length by omega))
      obtain ⟨x, hxe⟩ : ∃ x, x = pool[k2]'(by omega) := ⟨_, rfl⟩
      simp only [← hxe] at hgd hwx ⊢
      refine aS (by kernel_rfl : opAt F4.o10 8 = some (some 9, .alloc 33, none)) rfl rfl (a_alloc (cs := [.int .i64 0, .slice none 0 0]) hF 7 (by kernel_rfl)) ?_
      rintro _ w16 ⟨Cw16, bw16, rfl, hs, hb, hF⟩
      refine ⟨trivial, ?_⟩
      replace hT := hT.trans hs (by simp)
      replace hd := hd.st hs (by first | decide | (simp <;> omega)) (by first | decide | (simp <;> omega))
      replace hm := hm.st hs (by first | decide | (simp <;> omega))
      replace hwm := hwm.st hs (by first | decide | (simp <;> omega))
      replace hp := hp.st hs (by first | decide | (simp <;> omega))
      replace hc := hc.st hs (by first | decide | (simp <;> omega)) (by first | decide | (simp <;> omega))
      replace hk := hk.st hs (by first | decide | (simp <;> omega)) (by first | decide | (simp <;> omega))
      replace h51 := h51.st hs (by first | decide | (simp <;> omega))
      replace hwx := hwx.st hs (by first | decide | (simp <;> omega))
      refine aN (by kernel_rfl : opAt F4.o10 9 = some (none, .store 33 (.tmp 9) (.tmp 52), none)) rfl (a_storeAll (vs := [.int .i64 x.len, ux]) (n := 2) rfl rfl (by kernel_rfl) rfl rfl (by intro z hz; simp only [List.mem_cons, List.not_mem_nil, or_false] at hz; rcases hz with rfl | rfl <;> first | rfl | exact (hwx.one rfl).2) hb rfl) ?_
      rintro _ w17 ⟨rfl, hs, hb⟩
      refine ⟨trivial, ?_⟩
      replace hF := hF.st hs
      replace hT := hT.trans hs (by simp)
      replace hd := hd.st hs (by first | decide | (simp <;> omega)) (by first | decide | (simp <;> omega))
      replace hm := hm.st hs (by first | decide | (simp <;> omega))
      replace hwm := hwm.st hs (by first | decide | (simp <;> omega))
      replace hp := hp.st hs (by first | decide | (simp <;> omega))
      replace hc := hc.st hs (by first | decide | (simp <;> omega)) (by first | decide | (simp <;> omega))
      replace hk := hk.st hs (by first | decide | (simp <;> omega)) (by first | decide | (simp <;> omega))
      replace h51 := h51.st hs (by first | decide | (simp <;> omega))
      replace hwx := hwx.st hs (by first | decide | (simp <;> omega))
      refine Sch.nil ?_
      refine run_seq (x := F4.c34) (y := F4.c35) (by kernel_rfl) ?_
      refine run_plain (id := 11) (ops := F4.o11) [(0, false), (1, false), (2, false), (3, true), (4, true), (5, true), (6, false), (7, false), (8, true)] (by kernel_rfl) (by kernel_rfl) ?_
      refine nS (by kernel_rfl : opAt F4.o11 0 = some (some 54, .load 33 (.tmp 9), none)) rfl rfl trivial (val_loadOwnAgg (n := 2) (vs := [.int .i64 x.len, ux]) hb.at_ (by kernel_rfl) (by kernel_rfl) rfl rfl rfl) ?_
      refine nS (by kernel_rfl : opAt F4.o11 1 = some (some 55, .load 33 (.tmp 4), none)) rfl rfl trivial (val_loadOwnAgg (n := 2) (vs := [.int .i64 mk.len, um]) hm.at_ (by kernel_rfl) (by kernel_rfl) rfl rfl rfl) ?_
      refine cS (by kernel_rfl : opAt F4.o11 2 = some (some 56, .call { callee := .value (.func 16), args := #[(.tmp 54), (.tmp 55)], argTypes := #[33, 33] }, none)) rfl rfl (ent Try.call16 rfl) (xor_ok (a := x) (b := mk) hF hwx hwm ⟨bits_valid hgd (.inl rfl), bits_valid hmk (.inl rfl), by rw [hgd.1, hmk.1]⟩) ?_
      rintro vw18 w18 ⟨z, rfl, hs, hcz⟩
      refine ⟨trivial, ?_⟩
      replace hF := hF.st hs
      replace hT := hT.trans hs (by simp)
      replace hd := hd.st hs (by first | decide | (simp <;> omega)) (by first | decide | (simp <;> omega))
      replace hm := hm.st hs (by first | decide | (simp <;> omega))
      replace hwm := hwm.st hs (by first | decide | (simp <;> omega))
      replace hp := hp.st hs (by first | decide | (simp <;> omega))
      replace hc := hc.st hs (by first | decide | (simp <;> omega)) (by first | decide | (simp <;> omega))
      replace hk := hk.st hs (by first | decide | (simp <;> omega)) (by first | decide | (simp <;> omega))
      replace h51 := h51.st hs (by first | decide | (simp <;> omega))
      replace hwx := hwx.st hs (by first | decide | (simp <;> omega))
      replace hb := hb.st hs (by first | decide | (simp <;> omega))
      refine yS (by kernel_rfl : opAt F4.o11 3 = some (some 53, .move (.tmp 56), none)) rfl rfl (fun w' hS => val_move rfl) ?_
      refine yS (by kernel_rfl : opAt F4.o11 4 = some (some 57, .extract (.tmp 53) 0, none)) rfl rfl (fun w' hS => val_extract rfl rfl) ?_
      refine yS (by kernel_rfl : opAt F4.o11 5 = some (some 58, .extract (.tmp 53) 1, none)) rfl rfl (fun w' hS => val_extract rfl rfl) ?_
      refine aS (by kernel_rfl : opAt F4.o11 6 = some (some 10, .alloc 33, none)) rfl rfl (a_alloc (cs := [.int .i64 0, .slice none 0 0]) hF 8 (by kernel_rfl)) ?_
      rintro _ w19 ⟨Cw19, bw19, rfl, hs, hy, hF⟩
      refine ⟨trivial, ?_⟩
      replace hT := hT.trans hs (by simp)
      replace hd := hd.st hs (by first | decide | (simp <;> omega)) (by first | decide | (simp <;> omega))
      replace hm := hm.st hs (by first | decide | (simp <;> omega))
      replace hwm := hwm.st hs (by first | decide | (simp <;> omega))
      replace hp := hp.st hs (by first | decide | (simp <;> omega))
      replace hc := hc.st hs (by first | decide | (simp <;> omega)) (by first | decide | (simp <;> omega))
      replace hk := hk.st hs (by first | decide | (simp <;> omega)) (by first | decide | (simp <;> omega))
      replace h51 := h51.st hs (by first | decide | (simp <;> omega))
      replace hwx := hwx.st hs (by first | decide | (simp <;> omega))
      replace hb := hb.st hs (by first | decide | (simp <;> omega))
      replace hcz := hcz.st hs (by first | decide | (simp <;> omega))
      refine aN (by kernel_rfl : opAt F4.o11 7 = some (none, .store 33 (.tmp 10) (.tmp 57), none)) rfl (a_storeAll (vs := [.int .i64 x.len, z]) (n := 2) rfl rfl (by kernel_rfl) rfl rfl (by intro z hz; simp only [List.mem_cons, List.not_mem_nil, or_false] at hz; rcases hz with rfl | rfl <;> first | rfl | exact (hcz.one rfl).2) hy rfl) ?_
      rintro _ w20 ⟨rfl, hs, hy⟩
      refine ⟨trivial, ?_⟩
      replace hF := hF.st hs
      replace hT := hT.trans hs (by simp)
      replace hd := hd.st hs (by first | decide | (simp <;> omega)) (by first | decide | (simp <;> omega))
      replace hm := hm.st hs (by first | decide | (simp <;> omega))
      replace hwm := hwm.st hs (by first | decide | (simp <;> omega))
      replace hp := hp.st hs (by first | decide | (simp <;> omega))
      replace hc := hc.st hs (by first | decide | (simp <;> omega)) (by first | decide | (simp <;> omega))
      replace hk := hk.st hs (by first | decide | (simp <;> omega)) (by first | decide | (simp <;> omega))
      replace h51 := h51.st hs (by first | decide | (simp <;> omega))
      replace hwx := hwx.st hs (by first | decide | (simp <;> omega))
      replace hb := hb.st hs (by first | decide | (simp <;> omega))
      replace hcz := hcz.st hs (by first | decide | (simp <;> omega))
      refine yS (by kernel_rfl : opAt F4.o11 8 = some (some 11, .assign (.tmp 58), none)) rfl rfl (fun w' hS => val_assign rfl) ?_
      refine Sch.nil ?_
      refine run_seq (x := F4.c36) (y := F4.c43) (by kernel_rfl) ?_
      refine run_seq (x := F4.c37) (y := F4.c38) (by kernel_rfl) ?_
      refine run_plain (id := 12) (ops := F4.o12) [(0, true), (1, true)] (by kernel_rfl) (by kernel_rfl) ?_
      refine yS (by kernel_rfl : opAt F4.o12 0 = some (some 59, .move (.tmp 11), none)) rfl rfl (fun w' hS => val_move rfl) ?_
      refine yS (by kernel_rfl : opAt F4.o12 1 = some (some 60, .binOp .neq 40 (.tmp 59) (.const (.int .i64 0)) 40, none)) rfl rfl (fun w' hS => val_F (val_neq rfl rfl) (fun e => e rfl)) ?_
      refine Sch.nil ?_
      refine run_cond (x := F4.c39) (y := F4.c42) (o := .tmp 60) (b := false) (by kernel_rfl) rfl (fun h => by cases h) (fun _ => ?_)
      refine run_skip (by kernel_rfl) ?_
      refine run_draw3 (id := 14) (ops := F4.o14) [5, 6] (Cw19) [0, 1, 4, 5] 2 [] 3 [(6, false), (7, false), (8, true), (9, true)] 6 [(3, false), (7, false), (8, true), (9, true)] 6 [(2, false), (3, false), (7, false), (8, true), (9, true)] Try_mixed (by kernel_rfl) (by kernel_rfl) (by kernel_rfl) ?_ ?_ ?_
      · skip
        intro w21 hs
        replace hF := hF.st hs
        replace hT := hT.trans hs (by simp)
        replace hd := hd.st hs (by first | decide | (simp <;> omega)) (by first | decide | (simp <;> omega))
        replace hm := hm.st hs (by first | decide | (simp <;> omega))
        replace hwm := hwm.st hs (by first | decide | (simp <;> omega))
        replace hp := hp.st hs (by first | decide | (simp <;> omega))
        replace hc := hc.st hs (by first | decide | (simp <;> omega)) (by first | decide | (simp <;> omega))
        replace hk := hk.st hs (by first | decide | (simp <;> omega)) (by first | decide | (simp <;> omega))
        replace h51 := h51.st hs (by first | decide | (simp <;> omega))
        replace hwx := hwx.st hs (by first | decide | (simp <;> omega))
        replace hb := hb.st hs (by first | decide | (simp <;> omega))
        replace hcz := hcz.st hs (by first | decide | (simp <;> omega))
        replace hy := hy.st hs (by first | decide | (simp <;> omega))
        show Sch _ _ _ _ _ _ _ [(0, true), (1, true), (4, true), (5, true), (2, false), (3, false), (6, false), (7, false), (8, true), (9, true)] _ _
        have hR := Stp.refl [5, 6] w21 (Cw19)
        refine yS (by kernel_rfl : opAt F4.o14 0 = some (some 61, .move (.tmp 5), none)) rfl rfl (fun w' hS => val_move rfl) ?_
        refine yS (by kernel_rfl : opAt F4.o14 1 = some (some 62, .load 33 (.tmp 9), none)) rfl rfl (fun w' hS => val_loadOwnAgg (n := 2) (vs := [.int .i64 x.len, ux]) (hb.stay hS (by decide)) (by kernel_rfl) (by kernel_rfl) rfl rfl rfl) ?_
        refine yS (by kernel_rfl : opAt F4.o14 4 = some (some 65, .move (.tmp 6), none)) rfl rfl (fun w' hS => val_move rfl) ?_
        refine yS (by kernel_rfl : opAt F4.o14 5 = some (some 66, .load 33 (.tmp 10), none)) rfl rfl (fun w' hS => val_loadOwnAgg (n := 2) (vs := [.int .i64 x.len, z]) (hy.stay hS (by decide)) (by kernel_rfl) (by kernel_rfl) rfl rfl rfl) ?_
        refine aS (by kernel_rfl : opAt F4.o14 2 = some (some 63, .buildSlice 27 1 #[(0, (.tmp 62))], none)) rfl rfl (a_buildSlice (ys := ([x] : List Bits)) (e := 33) (bytes := 32) hF (by kernel_rfl) rfl (by decide) (by decide) ⟨rfl, ⟨_, rfl, rv_bits.2 ⟨ux, rfl, hwx⟩⟩, trivial⟩) ?_
        rintro v63 w22 ⟨hs, g63, hF⟩
        refine ⟨(hR.trans hs (by simp)).ext, ?_⟩
        replace hT := hT.trans hs (by simp)
        replace hd := hd.st hs (by first | decide | (simp <;> omega)) (by first | decide | (simp <;> omega))
        replace hm := hm.st hs (by first | decide | (simp <;> omega))
        replace hwm := hwm.st hs (by first | decide | (simp <;> omega))
        replace hp := hp.st hs (by first | decide | (simp <;> omega))
        replace hc := hc.st hs (by first | decide | (simp <;> omega)) (by first | decide | (simp <;> omega))
        replace hk := hk.st hs (by first | decide | (simp <;> omega)) (by first | decide | (simp <;> omega))
        replace h51 := h51.st hs (by first | decide | (simp <;> omega))
        replace hwx := hwx.st hs (by first | decide | (simp <;> omega))
        replace hb := hb.st hs (by first | decide | (simp <;> omega))
        replace hcz := hcz.st hs (by first | decide | (simp <;> omega))
        replace hy := hy.st hs (by first | decide | (simp <;> omega))
        replace hR := hR.trans hs (by simp)
        refine aS (by kernel_rfl : opAt F4.o14 3 = some (some 64, .call { callee := .builtin .append, args := #[(.tmp 61), (.tmp 63)], argTypes := #[27, 27] }, none)) rfl rfl (a_append (e := 33) (bytes := 32) hF (by decide) rfl rfl (by kernel_rfl) (by decide) hc g63 (by simp only [List.length_cons, List.length_nil, List.length_map]; omega) (by simp only [List.length_cons, List.length_nil, List.length_map]; omega)) ?_
        rintro v64 w23 ⟨Cw23, hs, hc, hF⟩
        refine ⟨(hR.trans hs (by simp)).ext, ?_⟩
        replace hT := hT.trans hs (by simp)
        replace hd := hd.st hs (by first | decide | (simp <;> omega)) (by first | decide | (simp <;> omega))
        replace hm := hm.st hs (by first | decide | (simp <;> omega))
        replace hwm := hwm.st hs (by first | decide | (simp <;> omega))
        replace hp := hp.st hs (by first | decide | (simp <;> omega))
        replace hk := hk.st hs (by first | decide | (simp <;> omega)) (by first | decide | (simp <;> omega))
        replace h51 := h51.st hs (by first | decide | (simp <;> omega))
        replace hwx := hwx.st hs (by first | decide | (simp <;> omega))
        replace hb := hb.st hs (by first | decide | (simp <;> omega))
        replace hcz := hcz.st hs (by first | decide | (simp <;> omega))
        replace hy := hy.st hs (by first | decide | (simp <;> omega))
        replace hR := hR.trans hs (by simp)
        replace g63 := g63.st hs (by first | decide | (simp <;> omega))
        refine aS (by kernel_rfl : opAt F4.o14 6 = some (some 67, .buildSlice 27 1 #[(0, (.tmp 66))], none)) rfl rfl (a_buildSlice (ys := ([xorB x mk] : List Bits)) (e := 33) (bytes := 32) hF (by kernel_rfl) rfl (by decide) (by decide) ⟨rfl, ⟨_, rfl, rv_bits.2 ⟨z, rfl, hcz⟩⟩, trivial⟩) ?_
        rintro v67 w24 ⟨hs, g67, hF⟩
        refine ⟨(hR.trans hs (by simp)).ext, ?_⟩
        replace hT := hT.trans hs (by simp)
        replace hd := hd.st hs (by first | decide | (simp <;> omega)) (by first | decide | (simp <;> omega))
        replace hm := hm.st hs (by first | decide | (simp <;> omega))
        replace hwm := hwm.st hs (by first | decide | (simp <;> omega))
        replace hp := hp.st hs (by first | decide | (simp <;> omega))
        replace hc := hc.st hs (by first | decide | (simp <;> omega)) (by first | decide | (simp <;> omega))
        replace hk := hk.st hs (by first | decide | (simp <;> omega)) (by first | decide | (simp <;> omega))
        replace h51 := h51.st hs (by first | decide | (simp <;> omega))
        replace hwx := hwx.st hs (by first | decide | (simp <;> omega))
        replace hb := hb.st hs (by first | decide | (simp <;> omega))
        replace hcz := hcz.st hs (by first | decide | (simp <;> omega))
        replace hy := hy.st hs (by first | decide | (simp <;> omega))
        replace hR := hR.trans hs (by simp)
        replace g63 := g63.st hs (by first | decide | (simp <;> omega))
        refine aS (by kernel_rfl : opAt F4.o14 7 = some (some 68, .call { callee := .builtin .append, args := #[(.tmp 65), (.tmp 67)], argTypes := #[27, 27] }, none)) rfl rfl (a_append (e := 33) (bytes := 32) hF (by decide) rfl rfl (by kernel_rfl) (by decide) hk g67 (by simp only [List.length_cons, List.length_nil, List.length_map]; omega) (by simp only [List.length_cons, List.length_nil, List.length_map]; omega)) ?_
        rintro v68 w25 ⟨Cw25, hs, hk, hF⟩
        refine ⟨(hR.trans hs (by simp)).ext, ?_⟩
        replace hT := hT.trans hs (by simp)
        replace hd := hd.st hs (by first | decide | (simp <;> omega)) (by first | decide | (simp <;> omega))
        replace hm := hm.st hs (by first | decide | (simp <;> omega))
        replace hwm := hwm.st hs (by first | decide | (simp <;> omega))
        replace hp := hp.st hs (by first | decide | (simp <;> omega))
        replace hc := hc.st hs (by first | decide | (simp <;> omega)) (by first | decide | (simp <;> omega))
        replace h51 := h51.st hs (by first | decide | (simp <;> omega))
        replace hwx := hwx.st hs (by first | decide | (simp <;> omega))
        replace hb := hb.st hs (by first | decide | (simp <;> omega))
        replace hcz := hcz.st hs (by first | decide | (simp <;> omega))
        replace hy := hy.st hs (by first | decide | (simp <;> omega))
        replace hR := hR.trans hs (by simp)
        replace g63 := g63.st hs (by first | decide | (simp <;> omega))
        replace g67 := g67.st hs (by first | decide | (simp <;> omega))
        refine yS (by kernel_rfl : opAt F4.o14 8 = some (some 5, .assign (.tmp 64), none)) rfl rfl (fun w' hS => val_assign rfl) ?_
        refine yS (by kernel_rfl : opAt F4.o14 9 = some (some 6, .assign (.tmp 68), none)) rfl rfl (fun w' hS => val_assign rfl) ?_
        refine Sch.nil ?_
        refine run_inBlock ?_
        refine run_plain (id := 9) (ops := F4.o9) [(0, true), (1, true), (2, true)] (by kernel_rfl) (by kernel_rfl) ?_
        refine yS (by kernel_rfl : opAt F4.o9 0 = some (some 43, .move (.tmp 8), none)) rfl rfl (fun w' hS => val_move rfl) ?_
        refine yS (by kernel_rfl : opAt F4.o9 1 = some (some 44, .binOp .sub 3 (.tmp 43) (.const (.int .i64 1)) 3, none)) rfl rfl (fun w' hS => val_subi rfl rfl (by omega) (by omega)) ?_
        refine yS (by kernel_rfl : opAt F4.o9 2 = some (some 8, .assign (.tmp 44), none)) rfl rfl (fun w' hS => val_assign rfl) ?_
        refine Sch.nil ?_
        refine kp (sub_cons 3 rfl rfl (sub_cons 4 rfl rfl (sub_cons 5 rfl rfl (sub_cons 6 rfl rfl (sub_cons 7 rfl rfl (sub_cons 8 rfl (eq_int (by omega)) (sub_nil _))))))) (next1 (m - 1, cl ++ [x], v64, v68, Cw25) _ ⟨(by simp only [List.length_append, List.length_cons, List.length_nil]; omega), (snoc_all hcl hgd), hF, hT, hd, hm, hwm, hp, hc, (by rw [show cl.map (fun y => xorB y mk) ++ [xorB x mk] = (cl ++ [x]).map (fun y => xorB y mk) from by simp] at hk; exact hk)⟩ (by first | omega | (simp only; omega)))
      · skip
        intro w26 hs
        replace hF := hF.st hs
        replace hT := hT.trans hs (by simp)
        replace hd := hd.st hs (by first | decide | (simp <;> omega)) (by first | decide | (simp <;> omega))
        replace hm := hm.st hs (by first | decide | (simp <;> omega))
        replace hwm := hwm.st hs (by first | decide | (simp <;> omega))
        replace hp := hp.st hs (by first | decide | (simp <;> omega))
        replace hc := hc.st hs (by first | decide | (simp <;> omega)) (by first | decide | (simp <;> omega))
        replace hk := hk.st hs (by first | decide | (simp <;> omega)) (by first | decide | (simp <;> omega))
        replace h51 := h51.st hs (by first | decide | (simp <;> omega))
        replace hwx := hwx.st hs (by first | decide | (simp <;> omega))
        replace hb := hb.st hs (by first | decide | (simp <;> omega))
        replace hcz := hcz.st hs (by first | decide | (simp <;> omega))
        replace hy := hy.st hs (by first | decide | (simp <;> omega))
        show Sch _ _ _ _ _ _ _ [(0, true), (1, true), (4, true), (5, true), (2, false), (6, false), (3, false), (7, false), (8, true), (9, true)] _ _
        have hR := Stp.refl [5, 6] w26 (Cw19)
        refine yS (by kernel_rfl : opAt F4.o14 0 = some (some 61, .move (.tmp 5), none)) rfl rfl (fun w' hS => val_move rfl) ?_
        refine yS (by kernel_rfl : opAt F4.o14 1 = some (some 62, .load 33 (.tmp 9), none)) rfl rfl (fun w' hS => val_loadOwnAgg (n := 2) (vs := [.int .i64 x.len, ux]) (hb.stay hS (by decide)) (by kernel_rfl) (by kernel_rfl) rfl rfl rfl) ?_
        refine yS (by kernel_rfl : opAt F4.o14 4 = some (some 65, .move (.tmp 6), none)) rfl rfl (fun w' hS => val_move rfl) ?_
        refine yS (by kernel_rfl : opAt F4.o14 5 = some (some 66, .load 33 (.tmp 10), none)) rfl rfl (fun w' hS => val_loadOwnAgg (n := 2) (vs := [.int .i64 x.len, z]) (hy.stay hS (by decide)) (by kernel_rfl) (by kernel_rfl) rfl rfl rfl) ?_
        refine aS (by kernel_rfl : opAt F4.o14 2 = some (some 63, .buildSlice 27 1 #[(0, (.tmp 62))], none)) rfl rfl (a_buildSlice (ys := ([x] : List Bits)) (e := 33) (bytes := 32) hF (by kernel_rfl) rfl (by decide) (by decide) ⟨rfl, ⟨_, rfl, rv_bits.2 ⟨ux, rfl, hwx⟩⟩, trivial⟩) ?_
        rintro v63 w27 ⟨hs, g63, hF⟩
        refine ⟨(hR.trans hs (by simp)).ext, ?_⟩
        replace hT := hT.trans hs (by simp)
        replace hd := hd.st hs (by first | decide | (simp <;> omega)) (by first | decide | (simp <;> omega))
        replace hm := hm.st hs (by first | decide | (simp <;> omega))
        replace hwm := hwm.st hs (by first | decide | (simp <;> omega))
        replace hp := hp.st hs (by first | decide | (simp <;> omega))
        replace hc := hc.st hs (by first | decide | (simp <;> omega)) (by first | decide | (simp <;> omega))
        replace hk := hk.st hs (by first | decide | (simp <;> omega)) (by first | decide | (simp <;> omega))
        replace h51 := h51.st hs (by first | decide | (simp <;> omega))
        replace hwx := hwx.st hs (by first | decide | (simp <;> omega))
        replace hb := hb.st hs (by first | decide | (simp <;> omega))
        replace hcz := hcz.st hs (by first | decide | (simp <;> omega))
        replace hy := hy.st hs (by first | decide | (simp <;> omega))
        replace hR := hR.trans hs (by simp)
        refine aS (by kernel_rfl : opAt F4.o14 6 = some (some 67, .buildSlice 27 1 #[(0, (.tmp 66))], none)) rfl rfl (a_buildSlice (ys := ([xorB x mk] : List Bits)) (e := 33) (bytes := 32) hF (by kernel_rfl) rfl (by decide) (by decide) ⟨rfl, ⟨_, rfl, rv_bits.2 ⟨z, rfl, hcz⟩⟩, trivial⟩) ?_
        rintro v67 w28 ⟨hs, g67, hF⟩
        refine ⟨(hR.trans hs (by simp)).ext, ?_⟩
        replace hT := hT.trans hs (by simp)
        replace hd := hd.st hs (by first | decide | (simp <;> omega)) (by first | decide | (simp <;> omega))
        replace hm := hm.st hs (by first | decide | (simp <;> omega))
        replace hwm := hwm.st hs (by first | decide | (simp <;> omega))
        replace hp := hp.st hs (by first | decide | (simp <;> omega))
        replace hc := hc.st hs (by first | decide | (simp <;> omega)) (by first | decide | (simp <;> omega))
        replace hk := hk.st hs (by first | decide | (simp <;> omega)) (by first | decide | (simp <;> omega))
        replace h51 := h51.st hs (by first | decide | (simp <;> omega))
        replace hwx := hwx.st hs (by first | decide | (simp <;> omega))
        replace hb := hb.st hs (by first | decide | (simp <;> omega))
        replace hcz := hcz.st hs (by first | decide | (simp <;> omega))
        replace hy := hy.st hs (by first | decide | (simp <;> omega))
        replace hR := hR.trans hs (by simp)
        replace g63 := g63.st hs (by first | decide | (simp <;> omega))
        refine aS (by kernel_rfl : opAt F4.o14 3 = some (some 64, .call { callee := .builtin .append, args := #[(.tmp 61), (.tmp 63)], argTypes := #[27, 27] }, none)) rfl rfl (a_append (e := 33) (bytes := 32) hF (by decide) rfl rfl (by kernel_rfl) (by decide) hc g63 (by simp only [List.length_cons, List.length_nil, List.length_map]; omega) (by simp only [List.length_cons, List.length_nil, List.length_map]; omega)) ?_
        rintro v64 w29 ⟨Cw29, hs, hc, hF⟩
        refine ⟨(hR.trans hs (by simp)).ext, ?_⟩
        replace hT := hT.trans hs (by simp)
        replace hd := hd.st hs (by first | decide | (simp <;> omega)) (by first | decide | (simp <;> omega))
        replace hm := hm.st hs (by first | decide | (simp <;> omega))
        replace hwm := hwm.st hs (by first | decide | (simp <;> omega))
        replace hp := hp.st hs (by first | decide | (simp <;> omega))
        replace hk := hk.st hs (by first | decide | (simp <;> omega)) (by first | decide | (simp <;> omega))
        replace h51 := h51.st hs (by first | decide | (simp <;> omega))
        replace hwx := hwx.st hs (by first | decide | (simp <;> omega))
        replace hb := hb.st hs (by first | decide | (simp <;> omega))
        replace hcz := hcz.st hs (by first | decide | (simp <;> omega))
        replace hy := hy.st hs (by first | decide | (simp <;> omega))
        replace hR := hR.trans hs (by simp)
        replace g63 := g63.st hs (by first | decide | (simp <;> omega))
        replace g67 := g67.st hs (by first | decide | (simp <;> omega))
        refine aS (by kernel_rfl : opAt F4.o14 7 = some (some 68, .call { callee := .builtin .append, args := #[(.tmp 65), (.tmp 67)], argTypes := #[27, 27] }, none)) rfl rfl (a_append (e := 33) (bytes := 32) hF (by decide) rfl rfl (by kernel_rfl) (by decide) hk g67 (by simp only [List.length_cons, List.length_nil, List.length_map]; omega) (by simp only [List.length_cons, List.length_nil, List.length_map]; omega)) ?_
        rintro v68 w30 ⟨Cw30, hs, hk, hF⟩
        refine ⟨(hR.trans hs (by simp)).ext, ?_⟩
        replace hT := hT.trans hs (by simp)
        replace hd := hd.st hs (by first | decide | (simp <;> omega)) (by first | decide | (simp <;> omega))
        replace hm := hm.st hs (by first | decide | (simp <;> omega))
        replace hwm := hwm.st hs (by first | decide | (simp <;> omega))
        replace hp := hp.st hs (by first | decide | (simp <;> omega))
        replace hc := hc.st hs (by first | decide | (simp <;> omega)) (by first | decide | (simp <;> omega))
        replace h51 := h51.st hs (by first | decide | (simp <;> omega))
        replace hwx := hwx.st hs (by first | decide | (simp <;> omega))
        replace hb := hb.st hs (by first | decide | (simp <;> omega))
        replace hcz := hcz.st hs (by first | decide | (simp <;> omega))
        replace hy := hy.st hs (by first | decide | (simp <;> omega))
        replace hR := hR.trans hs (by simp)
        replace g63 := g63.st hs (by first | decide | (simp <;> omega))
        replace g67 := g67.st hs (by first | decide | (simp <;> omega))
        refine yS (by kernel_rfl : opAt F4.o14 8 = some (some 5, .assign (.tmp 64), none)) rfl rfl (fun w' hS => val_assign rfl) ?_
        refine yS (by kernel_rfl : opAt F4.o14 9 = some (some 6, .assign (.tmp 68), none)) rfl rfl (fun w' hS => val_assign rfl) ?_
        refine Sch.nil ?_
        refine run_inBlock ?_
        refine run_plain (id := 9) (ops := F4.o9) [(0, true), (1, true), (2, true)] (by kernel_rfl) (by kernel_rfl) ?_
        refine yS (by kernel_rfl : opAt F4.o9 0 = some (some 43, .move (.tmp 8), none)) rfl rfl (fun w' hS => val_move rfl) ?_
        refine yS (by kernel_rfl : opAt F4.o9 1 = some (some 44, .binOp .sub 3 (.tmp 43) (.const (.int .i64 1)) 3, none)) rfl rfl (fun w' hS => val_subi rfl rfl (by omega) (by omega)) ?_
        refine yS (by kernel_rfl : opAt F4.o9 2 = some (some 8, .assign (.tmp 44), none)) rfl rfl (fun w' hS => val_assign rfl) ?_
        refine Sch.nil ?_
        refine kp (sub_cons 3 rfl rfl (sub_cons 4 rfl rfl (sub_cons 5 rfl rfl (sub_cons 6 rfl rfl (sub_cons 7 rfl rfl (sub_cons 8 rfl (eq_int (by omega)) (sub_nil _))))))) (next1 (m - 1, cl ++ [x], v64, v68, Cw30) _ ⟨(by simp only [List.length_append, List.length_cons, List.length_nil]; omega), (snoc_all hcl hgd), hF, hT, hd, hm, hwm, hp, hc, (by rw [show cl.map (fun y => xorB y mk) ++ [xorB x mk] = (cl ++ [x]).map (fun y => xorB y mk) from by simp] at hk; exact hk)⟩ (by first | omega | (simp only; omega)))
      · skip
        intro w31 hs
        replace hF := hF.st hs
        replace hT := hT.trans hs (by simp)
        replace hd := hd.st hs (by first | decide | (simp <;> omega)) (by first | decide | (simp <;> omega))
        replace hm := hm.st hs (by first | decide | (simp <;> omega))
        replace hwm := hwm.st hs (by first | decide | (simp <;> omega))
        replace hp := hp.st hs (by first | decide | (simp <;> omega))
        replace hc := hc.st hs (by first | decide | (simp <;> omega)) (by first | decide | (simp <;> omega))
        replace hk := hk.st hs (by first | decide | (simp <;> omega)) (by first | decide | (simp <;> omega))
        replace h51 := h51.st hs (by first | decide | (simp <;> omega))
        replace hwx := hwx.st hs (by first | decide | (simp <;> omega))
        replace hb := hb.st hs (by first | decide | (simp <;> omega))
        replace hcz := hcz.st hs (by first | decide | (simp <;> omega))
        replace hy := hy.st hs (by first | decide | (simp <;> omega))
        show Sch _ _ _ _ _ _ _ [(0, true), (1, true), (4, true), (5, true), (6, false), (2, false), (3, false), (7, false), (8, true), (9, true)] _ _
        have hR := Stp.refl [5, 6] w31 (Cw19)
        refine yS (by kernel_rfl : opAt F4.o14 0 = some (some 61, .move (.tmp 5), none)) rfl rfl (fun w' hS => val_move rfl) ?_
        refine yS (by kernel_rfl : opAt F4.o14 1 = some (some 62, .load 33 (.tmp 9), none)) rfl rfl (fun w' hS => val_loadOwnAgg (n := 2) (vs := [.int .i64 x.len, ux]) (hb.stay hS (by decide)) (by kernel_rfl) (by kernel_rfl) rfl rfl rfl) ?_
        refine yS (by kernel_rfl : opAt F4.o14 4 = some (some 65, .move (.tmp 6), none)) rfl rfl (fun w' hS => val_move rfl) ?_
        refine yS (by kernel_rfl : opAt F4.o14 5 = some (some 66, .load 33 (.tmp 10), none)) rfl rfl (fun w' hS => val_loadOwnAgg (n := 2) (vs := [.int .i64 x.len, z]) (hy.stay hS (by decide)) (by kernel_rfl) (by kernel_rfl) rfl rfl rfl) ?_
        refine aS (by kernel_rfl : opAt F4.o14 6 = some (some 67, .buildSlice 27 1 #[(0, (.tmp 66))], none)) rfl rfl (a_buildSlice (ys := ([xorB x mk] : List Bits)) (e := 33) (bytes := 32) hF (by kernel_rfl) rfl (by decide) (by decide) ⟨rfl, ⟨_, rfl, rv_bits.2 ⟨z, rfl, hcz⟩⟩, trivial⟩) ?_
        rintro v67 w32 ⟨hs, g67, hF⟩
        refine ⟨(hR.trans hs (by simp)).ext, ?_⟩
        replace hT := hT.trans hs (by simp)
        replace hd := hd.st hs (by first | decide | (simp <;> omega)) (by first | decide | (simp <;> omega))
        replace hm := hm.st hs (by first | decide | (simp <;> omega))
        replace hwm := hwm.st hs (by first | decide | (simp <;> omega))
        replace hp := hp.st hs (by first | decide | (simp <;> omega))
        replace hc := hc.st hs (by first | decide | (simp <;> omega)) (by first | decide | (simp <;> omega))
        replace hk := hk.st hs (by first | decide | (simp <;> omega)) (by first | decide | (simp <;> omega))
        replace h51 := h51.st hs (by first | decide | (simp <;> omega))
        replace hwx := hwx.st hs (by first | decide | (simp <;> omega))
        replace hb := hb.st hs (by first | decide | (simp <;> omega))
        replace hcz := hcz.st hs (by first | decide | (simp <;> omega))
        replace hy := hy.st hs (by first | decide | (simp <;> omega))
        replace hR := hR.trans hs (by simp)
        refine aS (by kernel_rfl : opAt F4.o14 2 = some (some 63, .buildSlice 27 1 #[(0, (.tmp 62))], none)) rfl rfl (a_buildSlice (ys := ([x] : List Bits)) (e := 33) (bytes := 32) hF (by kernel_rfl) rfl (by decide) (by decide) ⟨rfl, ⟨_, rfl, rv_bits.2 ⟨ux, rfl, hwx⟩⟩, trivial⟩) ?_
        rintro v63 w33 ⟨hs, g63, hF⟩
        refine ⟨(hR.trans hs (by simp)).ext, ?_⟩
        replace hT := hT.trans hs (by simp)
        replace hd := hd.st hs (by first | decide | (simp <;> omega)) (by first | decide | (simp <;> omega))
        replace hm := hm.st hs (by first | decide | (simp <;> omega))
        replace hwm := hwm.st hs (by first | decide | (simp <;> omega))
        replace hp := hp.st hs (by first | decide | (simp <;> omega))
        replace hc := hc.st hs (by first | decide | (simp <;> omega)) (by first | decide | (simp <;> omega))
        replace hk := hk.st hs (by first | decide | (simp <;> omega)) (by first | decide | (simp <;> omega))
        replace h51 := h51.st hs (by first | decide | (simp <;> omega))
        replace hwx := hwx.st hs (by first | decide | (simp <;> omega))
        replace hb := hb.st hs (by first | decide | (simp <;> omega))
        replace hcz := hcz.st hs (by first | decide | (simp <;> omega))
        replace hy := hy.st hs (by first | decide | (simp <;> omega))
        replace hR := hR.trans hs (by simp)
        replace g67 := g67.st hs (by first | decide | (simp <;> omega))
        refine aS (by kernel_rfl : opAt F4.o14 3 = some (some 64, .call { callee := .builtin .append, args := #[(.tmp 61), (.tmp 63)], argTypes := #[27, 27] }, none)) rfl rfl (a_append (e := 33) (bytes := 32) hF (by decide) rfl rfl (by kernel_rfl) (by decide) hc g63 (by simp only [List.length_cons, List.length_nil, List.length_map]; omega) (by simp only [List.length_cons, List.length_nil, List.length_map]; omega)) ?_
        rintro v64 w34 ⟨Cw34, hs, hc, hF⟩
        refine ⟨(hR.trans hs (by simp)).ext, ?_⟩
        replace hT := hT.trans hs (by simp)
        replace hd := hd.st hs (by first | decide | (simp <;> omega)) (by first | decide | (simp <;> omega))
        replace hm := hm.st hs (by first | decide | (simp <;> omega))
        replace hwm := hwm.st hs (by first | decide | (simp <;> omega))
        replace hp := hp.st hs (by first | decide | (simp <;> omega))
        replace hk := hk.st hs (by first | decide | (simp <;> omega)) (by first | decide | (simp <;> omega))
        replace h51 := h51.st hs (by first | decide | (simp <;> omega))
        replace hwx := hwx.st hs (by first | decide | (simp <;> omega))
        replace hb := hb.st hs (by first | decide | (simp <;> omega))
        replace hcz := hcz.st hs (by first | decide | (simp <;> omega))
        replace hy := hy.st hs (by first | decide | (simp <;> omega))
        replace hR := hR.trans hs (by simp)
        replace g67 := g67.st hs (by first | decide | (simp <;> omega))
        replace g63 := g63.st hs (by first | decide | (simp <;> omega))
        refine aS (by kernel_rfl : opAt F4.o14 7 = some (some 68, .call { callee := .builtin .append, args := #[(.tmp 65), (.tmp 67)], argTypes := #[27, 27] }, none)) rfl rfl (a_append (e := 33) (bytes := 32) hF (by decide) rfl rfl (by kernel_rfl) (by decide) hk g67 (by simp only [List.length_cons, List.length_nil, List.length_map]; omega) (by simp only [List.length_cons, List.length_nil, List.length_map]; omega)) ?_
        rintro v68 w35 ⟨Cw35, hs, hk, hF⟩
        refine ⟨(hR.trans hs (by simp)).ext, ?_⟩
        replace hT := hT.trans hs (by simp)
        replace hd := hd.st hs (by first | decide | (simp <;> omega)) (by first | decide | (simp <;> omega))
        replace hm := hm.st hs (by first | decide | (simp <;> omega))
        replace hwm := hwm.st hs (by first | decide | (simp <;> omega))
        replace hp := hp.st hs (by first | decide | (simp <;> omega))
        replace hc := hc.st hs (by first | decide | (simp <;> omega)) (by first | decide | (simp <;> omega))
        replace h51 := h51.st hs (by first | decide | (simp <;> omega))
        replace hwx := hwx.st hs (by first | decide | (simp <;> omega))
        replace hb := hb.st hs (by first | decide | (simp <;> omega))
        replace hcz := hcz.st hs (by first | decide | (simp <;> omega))
        replace hy := hy.st hs (by first | decide | (simp <;> omega))
        replace hR := hR.trans hs (by simp)
        replace g67 := g67.st hs (by first | decide | (simp <;> omega))
        replace g63 := g63.st hs (by first | decide | (simp <;> omega))
        refine yS (by kernel_rfl : opAt F4.o14 8 = some (some 5, .assign (.tmp 64), none)) rfl rfl (fun w' hS => val_assign rfl) ?_
        refine yS (by kernel_rfl : opAt F4.o14 9 = some (some 6, .assign (.tmp 68), none)) rfl rfl (fun w' hS => val_assign rfl) ?_
        refine Sch.nil ?_
        refine run_inBlock ?_
        refine run_plain (id := 9) (ops := F4.o9) [(0, true), (1, true), (2, true)] (by kernel_rfl) (by kernel_rfl) ?_
        refine yS (by kernel_rfl : opAt F4.o9 0 = some (some 43, .move (.tmp 8), none)) rfl rfl (fun w' hS => val_move rfl) ?_
        refine yS (by kernel_rfl : opAt F4.o9 1 = some (some 44, .binOp .sub 3 (.tmp 43) (.const (.int .i64 1)) 3, none)) rfl rfl (fun w' hS => val_subi rfl rfl (by omega) (by omega)) ?_
        refine yS (by kernel_rfl : opAt F4.o9 2 = some (some 8, .assign (.tmp 44), none)) rfl rfl (fun w' hS => val_assign rfl) ?_
        refine Sch.nil ?_
        refine kp (sub_cons 3 rfl rfl (sub_cons 4 rfl rfl (sub_cons 5 rfl rfl (sub_cons 6 rfl rfl (sub_cons 7 rfl rfl (sub_cons 8 rfl (eq_int (by omega)) (sub_nil _))))))) (next1 (m - 1, cl ++ [x], v64, v68, Cw35) _ ⟨(by simp only [List.length_append, List.length_cons, List.length_nil]; omega), (snoc_all hcl hgd), hF, hT, hd, hm, hwm, hp, hc, (by rw [show cl.map (fun y => xorB y mk) ++ [xorB x mk] = (cl ++ [x]).map (fun y => xorB y mk) from by simp] at hk; exact hk)⟩ (by first | omega | (simp only; omega)))
    · skip
      have hbl := blind_groups hcl hmk
      replace hF := hF.frz 5
      replace hT := hT.frz (n := 5) (fun b => Nat.lt_of_lt_of_le (col1_lt2 C b) (by decide))
      replace hd := hd.frz (n := 5) (by decide)
      replace hm := hm.frz (n := 5) (by decide)
      replace hwm := hwm.frz 5
      replace hp := hp.frz 5
      have hcr_ := hc.frz (n := 5) (by decide) (by first | omega | (simp only [List.length_map]; omega))
      clear hc
      have hkr_ := hk.frz (n := 5) (by decide) (by first | omega | (simp only [List.length_map]; omega))
      clear hk
      have hcr := hcr_
      clear hcr_
      have hkr := hkr_
      clear hkr_
      refine run_exit (id := 0) (by kernel_rfl) rfl ?_
      refine run_seq (x := F4.c46) (y := F4.c47) (by kernel_rfl) ?_
      refine run_plain (id := 15) (ops := F4.o15) [(0, true), (1, false), (2, true)] (by kernel_rfl) (by kernel_rfl) ?_
      refine yS (by kernel_rfl : opAt F4.o15 0 = some (some 69, .move (.tmp 3), none)) rfl rfl (fun w' hS => val_move rfl) ?_
      refine cS (by kernel_rfl : opAt F4.o15 1 = some (some 70, .call { callee := .value (.func 17), args := #[(.tmp 69)], argTypes := #[25] }, none)) rfl rfl (ent Try.call17 rfl) (dict_any hF (by decide) hd) ?_
      rintro vw36 w36 ⟨es, js, hD, hs, hd, hes⟩
      refine ⟨trivial, ?_⟩
      replace hF := hF.st hs
      replace hT := hT.trans hs (by simp)
      replace hm := hm.st hs (by first | decide | (simp <;> omega))
      replace hwm := hwm.st hs (by first | decide | (simp <;> omega))
      replace hp := hp.st hs (by first | decide | (simp <;> omega))
      replace hcr := hcr.st hs (by first | decide | (simp <;> omega))
      replace hkr := hkr.st hs (by first | decide | (simp <;> omega))
      refine yS (by kernel_rfl : opAt F4.o15 2 = some (some 12, .assign (.tmp 70), none)) rfl rfl (fun w' hS => val_assign rfl) ?_
      refine Sch.nil ?_
      refine run_seq (x := F4.c48) (y := F4.c49) (by kernel_rfl) ?_
      refine run_plain (id := 16) (ops := F4.o16) [(0, true), (1, false), (2, true), (3, false), (4, true), (5, true)] (by kernel_rfl) (by kernel_rfl) ?_
      refine yS (by kernel_rfl : opAt F4.o16 0 = some (some 71, .move (.tmp 5), none)) rfl rfl (fun w' hS => val_move rfl) ?_
      refine cS (by kernel_rfl : opAt F4.o16 1 = some (some 72, .call { callee := .value (.func 11), args := #[(.tmp 71)], argTypes := #[27] }, none)) rfl rfl (ent Try.call11 rfl) (groups_ok hF hcr (by omega)) ?_
      rintro vg1 w37 ⟨hs, hg⟩
      refine ⟨trivial, ?_⟩
      replace hF := hF.st hs
      replace hT := hT.trans hs (by simp)
      replace hd := hd.st hs (by first | decide | (simp <;> omega)) (by first | decide | (simp <;> omega))
      replace hm := hm.st hs (by first | decide | (simp <;> omega))
      replace hwm := hwm.st hs (by first | decide | (simp <;> omega))
      replace hp := hp.st hs (by first | decide | (simp <;> omega))
      replace hcr := hcr.st hs (by first | decide | (simp <;> omega))
      replace hkr := hkr.st hs (by first | decide | (simp <;> omega))
      replace hes := hes.st hs (by first | decide | (simp <;> omega))
      obtain ⟨g1, hg1⟩ : ∃ gs, gs = grpsOf cl cl.length := ⟨_, rfl⟩
      rw [← hg1] at hg hbl
      have hgl : g1.length ≤ cl.length := by rw [hg1, grpsOf_len]; exact fsts_le
      have hmb : ∀ g ∈ g1, g.mem.length ≤ 1000000 := fun g hg => by
        subst hg1
        obtain ⟨q, hq, rfl⟩ := List.getElem_of_mem hg
        rw [grpsOf_get]; show (ints (mems cl cl.length q)).length ≤ _
        rw [ints_len]; have := mems_len (cl := cl) (k := cl.length) (g := q); omega
      clear hg1
      refine yS (by kernel_rfl : opAt F4.o16 2 = some (some 73, .move (.tmp 6), none)) rfl rfl (fun w' hS => val_move rfl) ?_
      refine cS (by kernel_rfl : opAt F4.o16 3 = some (some 74, .call { callee := .value (.func 11), args := #[(.tmp 73)], argTypes := #[27] }, none)) rfl rfl (ent Try.call11 rfl) (groups_ok hF hkr (by omega)) ?_
      rintro vg2 w38 ⟨hs, hg2⟩
      refine ⟨trivial, ?_⟩
      replace hF := hF.st hs
      replace hT := hT.trans hs (by simp)
      replace hd := hd.st hs (by first | decide | (simp <;> omega)) (by first | decide | (simp <;> omega))
      replace hm := hm.st hs (by first | decide | (simp <;> omega))
      replace hwm := hwm.st hs (by first | decide | (simp <;> omega))
      replace hp := hp.st hs (by first | decide | (simp <;> omega))
      replace hcr := hcr.st hs (by first | decide | (simp <;> omega))
      replace hkr := hkr.st hs (by first | decide | (simp <;> omega))
      replace hes := hes.st hs (by first | decide | (simp <;> omega))
      replace hg := hg.st hs (by first | decide | (simp <;> omega))
      rw [hml] at hg2
      obtain ⟨g2, hg3⟩ : ∃ gs, gs = grpsOf (cl.map fun y => xorB y mk) cl.length := ⟨_, rfl⟩
      rw [← hg3] at hg2 hbl
      clear hg3
      have hl2 : g1.length = g2.length := by have := congrArg List.length hbl; simpa using this
      have hsz : sizesS g1 = sizesS g2 := by rw [sizes_mem, sizes_mem, hbl]
      have hmb2 : ∀ g ∈ g2, g.mem.length ≤ 1000000 := fun g hg => by
        obtain ⟨q, hq, rfl⟩ := List.getElem_of_mem hg
        rw [← mem_at hbl (by omega) hq]; exact hmb _ (List.getElem_mem _)
      refine yS (by kernel_rfl : opAt F4.o16 4 = some (some 13, .assign (.tmp 72), none)) rfl rfl (fun w' hS => val_assign rfl) ?_
      refine yS (by kernel_rfl : opAt F4.o16 5 = some (some 14, .assign (.tmp 74), none)) rfl rfl (fun w' hS => val_assign rfl) ?_
      refine Sch.nil ?_
      refine run_seq (x := F4.c50) (y := F4.c51) (by kernel_rfl) ?_
      refine run_plain (id := 17) (ops := F4.o17) [(0, true), (1, true), (2, false), (3, true), (4, true), (5, true), (6, true), (7, true)] (by kernel_rfl) (by kernel_rfl) ?_
      refine yS (by kernel_rfl : opAt F4.o17 0 = some (some 76, .move (.tmp 13), none)) rfl rfl (fun w' hS => val_move rfl) ?_
      refine yS (by kernel_rfl : opAt F4.o17 1 = some (some 77, .move (.tmp 12), none)) rfl rfl (fun w' hS => val_move rfl) ?_
      refine cS (by kernel_rfl : opAt F4.o17 2 = some (some 78, .call { callee := .value (.func 18), args := #[(.tmp 76), (.tmp 77)], argTypes := #[29, 43] }, none)) rfl rfl (ent Try.call18 rfl) (align_ok hF hg hes (hD.ok (by decide)) (by omega)) ?_
      rintro vw39 w39 ⟨ua, rfl, hs, ha⟩
      refine ⟨trivial, ?_⟩
      replace hF := hF.st hs
      replace hT := hT.trans hs (by simp)
      replace hd := hd.st hs (by first | decide | (simp <;> omega)) (by first | decide | (simp <;> omega))
      replace hm := hm.st hs (by first | decide | (simp <;> omega))
      replace hwm := hwm.st hs (by first | decide | (simp <;> omega))
      replace hp := hp.st hs (by first | decide | (simp <;> omega))
      replace hcr := hcr.st hs (by first | decide | (simp <;> omega))
      replace hkr := hkr.st hs (by first | decide | (simp <;> omega))
      replace hes := hes.st hs (by first | decide | (simp <;> omega))
      replace hg := hg.st hs (by first | decide | (simp <;> omega))
      replace hg2 := hg2.st hs (by first | decide | (simp <;> omega))
      refine yS (by kernel_rfl : opAt F4.o17 3 = some (some 75, .move (.tmp 78), none)) rfl rfl (fun w' hS => val_move rfl) ?_
      refine yS (by kernel_rfl : opAt F4.o17 4 = some (some 79, .extract (.tmp 75) 0, none)) rfl rfl (fun w' hS => val_extract rfl rfl) ?_
      refine yS (by kernel_rfl : opAt F4.o17 5 = some (some 80, .extract (.tmp 75) 1, none)) rfl rfl (fun w' hS => val_extract rfl rfl) ?_
      refine yS (by kernel_rfl : opAt F4.o17 6 = some (some 15, .assign (.tmp 79), none)) rfl rfl (fun w' hS => val_assign rfl) ?_
      refine yS (by kernel_rfl : opAt F4.o17 7 = some (some 16, .assign (.tmp 80), none)) rfl rfl (fun w' hS => val_assign rfl) ?_
      refine Sch.nil ?_
      refine run_seq (x := F4.c52) (y := F4.c53) (by kernel_rfl) ?_
      refine run_plain (id := 18) (ops := F4.o18) [(0, true), (1, true), (2, false), (3, true), (4, true), (5, true), (6, true), (7, true)] (by kernel_rfl) (by kernel_rfl) ?_
      refine yS (by kernel_rfl : opAt F4.o18 0 = some (some 82, .move (.tmp 14), none)) rfl rfl (fun w' hS => val_move rfl) ?_
      refine yS (by kernel_rfl : opAt F4.o18 1 = some (some 83, .move (.tmp 12), none)) rfl rfl (fun w' hS => val_move rfl) ?_
      refine cS (by kernel_rfl : opAt F4.o18 2 = some (some 84, .call { callee := .value (.func 18), args := #[(.tmp 82), (.tmp 83)], argTypes := #[29, 43] }, none)) rfl rfl (ent Try.call18 rfl) (align_ok hF hg2 hes (hD.ok (by decide)) (by omega)) ?_
      rintro vw40 w40 ⟨ub, rfl, hs, hb⟩
      refine ⟨trivial, ?_⟩
      replace hF := hF.st hs
      replace hT := hT.trans hs (by simp)
      replace hd := hd.st hs (by first | decide | (simp <;> omega)) (by first | decide | (simp <;> omega))
      replace hm := hm.st hs (by first | decide | (simp <;> omega))
      replace hwm := hwm.st hs (by first | decide | (simp <;> omega))
      replace hp := hp.st hs (by first | decide | (simp <;> omega))
      replace hcr := hcr.st hs (by first | decide | (simp <;> omega))
      replace hkr := hkr.st hs (by first | decide | (simp <;> omega))
      replace hes := hes.st hs (by first | decide | (simp <;> omega))
      replace hg := hg.st hs (by first | decide | (simp <;> omega))
      replace hg2 := hg2.st hs (by first | decide | (simp <;> omega))
      replace ha := ha.st hs (by first | decide | (simp <;> omega))
      rw [← hsz] at hb
      refine yS (by kernel_rfl : opAt F4.o18 3 = some (some 81, .move (.tmp 84), none)) rfl rfl (fun w' hS => val_move rfl) ?_
      refine yS (by kernel_rfl : opAt F4.o18 4 = some (some 85, .extract (.tmp 81) 0, none)) rfl rfl (fun w' hS => val_extract rfl rfl) ?_
      refine yS (by kernel_rfl : opAt F4.o18 5 = some (some 86, .extract (.tmp 81) 1, none)) rfl rfl (fun w' hS => val_extract rfl rfl) ?_
      refine yS (by kernel_rfl : opAt F4.o18 6 = some (some 17, .assign (.tmp 85), none)) rfl rfl (fun w' hS => val_assign rfl) ?_
      refine yS (by kernel_rfl : opAt F4.o18 7 = some (some 18, .assign (.tmp 86), none)) rfl rfl (fun w' hS => val_assign rfl) ?_
      refine Sch.nil ?_
      refine run_seq (x := F4.c54) (y := F4.c61) (by kernel_rfl) ?_
      refine run_seq (x := F4.c55) (y := F4.c56) (by kernel_rfl) ?_
      refine run_plain (id := 19) (ops := F4.o19) [(0, true), (1, true), (2, true), (3, true), (4, true), (5, true), (6, true), (7, true), (8, true), (9, false), (10, true), (11, true), (12, true), (13, true), (14, true), (15, true), (16, true), (17, true), (18, true), (19, true), (20, true), (21, false), (22, true), (23, false), (24, true), (25, true)] (by kernel_rfl) (by kernel_rfl) ?_
      refine yS (by kernel_rfl : opAt F4.o19 0 = some (some 87, .move (.tmp 16), none)) rfl rfl (fun w' hS => val_move rfl) ?_
      refine yS (by kernel_rfl : opAt F4.o19 1 = some (some 88, .binOp .neq 40 (.tmp 87) (.const (.int .i64 0)) 40, none)) rfl rfl (fun w' hS => val_F (val_neq rfl rfl) (fun e => e rfl)) ?_
      refine yS (by kernel_rfl : opAt F4.o19 2 = some (some 89, .move (.tmp 88), none)) rfl rfl (fun w' hS => val_move rfl) ?_
      refine yS (by kernel_rfl : opAt F4.o19 3 = some (some 90, .move (.tmp 18), (some (2, false)))) rfl rfl (fun w' hS => val_move rfl) ?_
      refine yS (by kernel_rfl : opAt F4.o19 4 = some (some 91, .binOp .neq 40 (.tmp 90) (.const (.int .i64 0)) 40, (some (2, false)))) rfl rfl (fun w' hS => val_F (val_neq rfl rfl) (fun e => e rfl)) ?_
      refine yS (by kernel_rfl : opAt F4.o19 5 = some (some 92, .pick (.tmp 89) (.const (.bool true)) (.tmp 91), none)) rfl rfl (fun w' hS => val_pick_f rfl rfl) ?_
      refine yS (by kernel_rfl : opAt F4.o19 6 = some (some 93, .move (.tmp 92), none)) rfl rfl (fun w' hS => val_move rfl) ?_
      refine yS (by kernel_rfl : opAt F4.o19 7 = some (some 94, .move (.tmp 15), (some (6, false)))) rfl rfl (fun w' hS => val_move rfl) ?_
      refine yS (by kernel_rfl : opAt F4.o19 8 = some (some 95, .move (.tmp 17), (some (6, false)))) rfl rfl (fun w' hS => val_move rfl) ?_
      refine cS (by kernel_rfl : opAt F4.o19 9 = some (some 96, .call { callee := .value (.func 19), args := #[(.tmp 94), (.tmp 95)], argTypes := #[45, 45] }, (some (6, false)))) rfl rfl (ent Try.call19 rfl) (sameG_ok hF ha hb) ?_
      rintro vw41 w41 ⟨rfl, hs⟩
      refine ⟨trivial, ?_⟩
      replace hF := hF.st hs
      replace hT := hT.trans hs (by simp)
      replace hd := hd.st hs (by first | decide | (simp <;> omega)) (by first | decide | (simp <;> omega))
      replace hm := hm.st hs (by first | decide | (simp <;> omega))
      replace hwm := hwm.st hs (by first | decide | (simp <;> omega))
      replace hp := hp.st hs (by first | decide | (simp <;> omega))
      replace hcr := hcr.st hs (by first | decide | (simp <;> omega))
      replace hkr := hkr.st hs (by first | decide | (simp <;> omega))
      replace hes := hes.st hs (by first | decide | (simp <;> omega))
      replace hg := hg.st hs (by first | decide | (simp <;> omega))
      replace hg2 := hg2.st hs (by first | decide | (simp <;> omega))
      replace ha := ha.st hs (by first | decide | (simp <;> omega))
      replace hb := hb.st hs (by first | decide | (simp <;> omega))
      refine yS (by kernel_rfl : opAt F4.o19 10 = some (some 97, .unOp .not 4 (.tmp 96), (some (6, false)))) rfl rfl (fun w' hS => val_not rfl) ?_
      refine yS (by kernel_rfl : opAt F4.o19 11 = some (some 98, .pick (.tmp 93) (.const (.bool true)) (.tmp 97), none)) rfl rfl (fun w' hS => val_pick_f rfl rfl) ?_
      refine yS (by kernel_rfl : opAt F4.o19 12 = some (some 99, .move (.tmp 98), none)) rfl rfl (fun w' hS => val_move rfl) ?_
      refine yS (by kernel_rfl : opAt F4.o19 13 = some (some 100, .move (.tmp 13), (some (12, false)))) rfl rfl (fun w' hS => val_move rfl) ?_
      refine yS (by kernel_rfl : opAt F4.o19 14 = some (some 101, .call { callee := .builtin .len, args := #[(.tmp 100)], argTypes := #[29] }, (some (12, false)))) rfl rfl (fun w' hS => hg.lenV rfl Try.underlying29 w' ) ?_
      refine yS (by kernel_rfl : opAt F4.o19 15 = some (some 102, .move (.tmp 14), (some (12, false)))) rfl rfl (fun w' hS => val_move rfl) ?_
      refine yS (by kernel_rfl : opAt F4.o19 16 = some (some 103, .call { callee := .builtin .len, args := #[(.tmp 102)], argTypes := #[29] }, (some (12, false)))) rfl rfl (fun w' hS => hg2.lenV rfl Try.underlying29 w' ) ?_
      refine yS (by kernel_rfl : opAt F4.o19 17 = some (some 104, .binOp .neq 3 (.tmp 101) (.tmp 103) 3, (some (12, false)))) rfl rfl (fun w' hS => val_F (val_neq rfl rfl) (by omega)) ?_
      refine yS (by kernel_rfl : opAt F4.o19 18 = some (some 105, .pick (.tmp 99) (.const (.bool true)) (.tmp 104), none)) rfl rfl (fun w' hS => val_pick_f rfl rfl) ?_
      refine yS (by kernel_rfl : opAt F4.o19 19 = some (some 106, .move (.tmp 105), none)) rfl rfl (fun w' hS => val_move rfl) ?_
      refine yS (by kernel_rfl : opAt F4.o19 20 = some (some 107, .move (.tmp 13), (some (19, false)))) rfl rfl (fun w' hS => val_move rfl) ?_
      refine cS (by kernel_rfl : opAt F4.o19 21 = some (some 108, .call { callee := .value (.func 20), args := #[(.tmp 107)], argTypes := #[29] }, (some (19, false)))) rfl rfl (ent Try.call20 rfl) (singular_ok hF hg (by omega) hmb) ?_
      rintro vw42 w42 ⟨rfl, hs⟩
      refine ⟨trivial, ?_⟩
      replace hF := hF.st hs
      replace hT := hT.trans hs (by simp)
      replace hd := hd.st hs (by first | decide | (simp <;> omega)) (by first | decide | (simp <;> omega))
      replace hm := hm.st hs (by first | decide | (simp <;> omega))
      replace hwm := hwm.st hs (by first | decide | (simp <;> omega))
      replace hp := hp.st hs (by first | decide | (simp <;> omega))
      replace hcr := hcr.st hs (by first | decide | (simp <;> omega))
      replace hkr := hkr.st hs (by first | decide | (simp <;> omega))
      replace hes := hes.st hs (by first | decide | (simp <;> omega))
      replace hg := hg.st hs (by first | decide | (simp <;> omega))
      replace hg2 := hg2.st hs (by first | decide | (simp <;> omega))
      replace ha := ha.st hs (by first | decide | (simp <;> omega))
      replace hb := hb.st hs (by first | decide | (simp <;> omega))
      refine yS (by kernel_rfl : opAt F4.o19 22 = some (some 109, .move (.tmp 14), (some (19, false)))) rfl rfl (fun w' hS => val_move rfl) ?_
      refine cS (by kernel_rfl : opAt F4.o19 23 = some (some 110, .call { callee := .value (.func 20), args := #[(.tmp 109)], argTypes := #[29] }, (some (19, false)))) rfl rfl (ent Try.call20 rfl) (singular_ok hF hg2 (by omega) hmb2) ?_
      rintro vw43 w43 ⟨rfl, hs⟩
      refine ⟨trivial, ?_⟩
      replace hF := hF.st hs
      replace hT := hT.trans hs (by simp)
      replace hd := hd.st hs (by first | decide | (simp <;> omega)) (by first | decide | (simp <;> omega))
      replace hm := hm.st hs (by first | decide | (simp <;> omega))
      replace hwm := hwm.st hs (by first | decide | (simp <;> omega))
      replace hp := hp.st hs (by first | decide | (simp <;> omega))
      replace hcr := hcr.st hs (by first | decide | (simp <;> omega))
      replace hkr := hkr.st hs (by first | decide | (simp <;> omega))
      replace hes := hes.st hs (by first | decide | (simp <;> omega))
      replace hg := hg.st hs (by first | decide | (simp <;> omega))
      replace hg2 := hg2.st hs (by first | decide | (simp <;> omega))
      replace ha := ha.st hs (by first | decide | (simp <;> omega))
      replace hb := hb.st hs (by first | decide | (simp <;> omega))
      refine yS (by kernel_rfl : opAt F4.o19 24 = some (some 111, .binOp .neq 3 (.tmp 108) (.tmp 110) 3, (some (19, false)))) rfl rfl (fun w' hS => val_F (val_neq rfl rfl) (by rw [hsz]; exact fun e => e rfl)) ?_
      refine yS (by kernel_rfl : opAt F4.o19 25 = some (some 112, .pick (.tmp 106) (.const (.bool true)) (.tmp 111), none)) rfl rfl (fun w' hS => val_pick_f rfl rfl) ?_
      refine Sch.nil ?_
      refine run_cond (x := F4.c57) (y := F4.c60) (o := .tmp 112) (b := false) (by kernel_rfl) rfl (fun h => by cases h) (fun _ => ?_)
      refine run_skip (by kernel_rfl) ?_
      refine run_seq (x := F4.c62) (y := F4.c84) (by kernel_rfl) ?_
      refine run_seq (x := F4.c63) (y := F4.c64) (by kernel_rfl) ?_
      refine run_plain (id := 21) (ops := F4.o21) [(0, true), (1, true), (2, true)] (by kernel_rfl) (by kernel_rfl) ?_
      refine yS (by kernel_rfl : opAt F4.o21 0 = some (some 113, .move (.tmp 13), none)) rfl rfl (fun w' hS => val_move rfl) ?_
      refine yS (by kernel_rfl : opAt F4.o21 1 = some (some 114, .call { callee := .builtin .len, args := #[(.tmp 113)], argTypes := #[29] }, none)) rfl rfl (fun w' hS => hg.lenV rfl Try.underlying29 w' ) ?_
      refine yS (by kernel_rfl : opAt F4.o21 2 = some (some 115, .move (.const (.int .i64 0)), none)) rfl rfl (fun w' hS => val_move rfl) ?_
      refine Sch.nil ?_
      refine run_block (x := F4.c65) (id := 2) (by kernel_rfl) ?_
      
      refine run_loop (ι := Nat × (Nat → Nat)) (I := fun x w => x.1 ≤ g1.length ∧ Lim w x.2 ∧ Stp [2, 3, 4, 5, 6, 7, 8, 9] w₀ (col1 C) w x.2 ∧ RV w (Mc x.2) g1 vg1 ∧ RV w (Mc x.2) g2 vg2) (e := fun x => [(13, vg1), (14, vg2), (114, .int .i64 g1.length), (115, .int .i64 x.1)]) (m := fun x => g1.length - x.1) (x₀ := (0, K.frz 5 C1)) (body := F4.c66) (by kernel_rfl) (sub_cons 13 rfl rfl (sub_cons 14 rfl rfl (sub_cons 114 rfl rfl (sub_cons 115 rfl rfl (sub_nil _))))) ?_ ?_
      · exact ⟨Nat.zero_le _, hF, hT, hg, hg2⟩
      intro ⟨k, C1⟩ w44 hI next
      obtain ⟨hk1, hF, hT, hg, hg2⟩ := hI
      try simp only at hk1 hF hT hg hg2
      have next2 := next
      clear next
      show Run _ _ _ _ [(13, vg1), (14, vg2), (114, .int .i64 g1.length), (115, .int .i64 k)] _ _
      refine run_seq (x := F4.c67) (y := F4.c68) (by kernel_rfl) ?_
      refine run_plain (id := 22) (ops := F4.o22) [(0, true)] (by kernel_rfl) (by kernel_rfl) ?_
      refine yS (by kernel_rfl : opAt F4.o22 0 = some (some 116, .binOp .lss 3 (.tmp 115) (.tmp 114) 3, none)) rfl rfl (fun w' hS => val_lss rfl rfl) ?_
      refine Sch.nil ?_
      refine run_seq (x := F4.c69) (y := F4.c72) (by kernel_rfl) ?_
      refine run_if (x := F4.c70) (y := F4.c71) (o := .tmp 116) (by kernel_rfl) rfl (fun h116 => ?_) (fun h116 => ?_)
      · skip
        have hkl : k < g1.length := by omega
        have hkl2 : k < g2.length := by omega
        have hme := mem_at hbl hkl hkl2
        refine run_skip (by kernel_rfl) ?_
        refine run_seq (x := F4.c73) (y := F4.c83) (by kernel_rfl) ?_
        refine run_block (x := F4.c74) (id := 3) (by kernel_rfl) ?_
        refine run_seq (x := F4.c75) (y := F4.c76) (by kernel_rfl) ?_
        refine run_plain (id := 23) (ops := F4.o23) [(0, true), (1, true)] (by kernel_rfl) (by kernel_rfl) ?_
        refine yS (by kernel_rfl : opAt F4.o23 0 = some (some 117, .move (.tmp 115), none)) rfl rfl (fun w' hS => val_move rfl) ?_
        refine yS (by kernel_rfl : opAt F4.o23 1 = some (some 19, .assign (.tmp 117), none)) rfl rfl (fun w' hS => val_assign rfl) ?_
        refine Sch.nil ?_
        refine run_seq (x := F4.c77) (y := F4.c78) (by kernel_rfl) ?_
        refine run_draw (id := 24) (ops := F4.o24) [] (C1) [(0, true), (1, true), (2, true), (3, true), (4, true), (5, true), (6, true), (7, true), (8, true), (9, true), (10, false), (11, true)] Try_mixed (by kernel_rfl) (by kernel_rfl) (by kernel_rfl) ?_
        intro w45 hs
        replace hF := hF.st hs
        replace hT := hT.trans hs (by simp)
        replace hg := hg.st hs (by first | decide | (simp <;> omega))
        replace hg2 := hg2.st hs (by first | decide | (simp <;> omega))
        have hR := Stp.refl [] w45 (C1)
        refine yS (by kernel_rfl : opAt F4.o24 0 = some (some 118, .move (.tmp 13), none)) rfl rfl (fun w' hS => val_move rfl) ?_
        refine yS (by kernel_rfl : opAt F4.o24 1 = some (some 119, .move (.tmp 19), none)) rfl rfl (fun w' hS => val_move rfl) ?_
        refine iS (e := 35) (by kernel_rfl : opAt F4.o24 2 = some (some 120, .indexAddr 29 (.tmp 118) (.tmp 119), none)) rfl rfl hg rfl (by kernel_rfl) rfl (by omega) (by omega) ?_
        intro b120 o120 h120
        try simp only [Int.toNat_natCast] at h120
        have h121 := RA.gmem h120
        refine yS (by kernel_rfl : opAt F4.o24 3 = some (some 121, .fieldAddr 35 (.tmp 120) 1, none)) rfl rfl (fun w' hS => val_fieldAddr (off := 2) (by kernel_rfl) rfl) ?_
        refine lS (by kernel_rfl : opAt F4.o24 4 = some (some 122, .load 22 (.tmp 121), none)) rfl rfl (fun w' hS => h121.stay hS (by first | decide | (simp <;> omega))) h121 (by kernel_rfl) rfl rfl ?_
        intro v122 g122
        refine yS (by kernel_rfl : opAt F4.o24 5 = some (some 123, .move (.tmp 14), none)) rfl rfl (fun w' hS => val_move rfl) ?_
        refine yS (by kernel_rfl : opAt F4.o24 6 = some (some 124, .move (.tmp 19), none)) rfl rfl (fun w' hS => val_move rfl) ?_
        refine iS (e := 35) (by kernel_rfl : opAt F4.o24 7 = some (some 125, .indexAddr 29 (.tmp 123) (.tmp 124), none)) rfl rfl hg2 rfl (by kernel_rfl) rfl (by omega) (by omega) ?_
        intro b125 o125 h125
        try simp only [Int.toNat_natCast] at h125
        have h126 := RA.gmem h125
        refine yS (by kernel_rfl : opAt F4.o24 8 = some (some 126, .fieldAddr 35 (.tmp 125) 1, none)) rfl rfl (fun w' hS => val_fieldAddr (off := 2) (by kernel_rfl) rfl) ?_
        refine lS (by kernel_rfl : opAt F4.o24 9 = some (some 127, .load 22 (.tmp 126), none)) rfl rfl (fun w' hS => h126.stay hS (by first | decide | (simp <;> omega))) h126 (by kernel_rfl) rfl rfl ?_
        intro v127 g127
        refine cS (by kernel_rfl : opAt F4.o24 10 = some (some 128, .call { callee := .value (.func 21), args := #[(.tmp 122), (.tmp 127)], argTypes := #[22, 22] }, none)) rfl rfl (ent Try.call21 rfl) (sameI_ok (l := g1[k].mem) hF g122 (by rw [hme]; exact g127)) ?_
        rintro vw46 w46 ⟨rfl, hs⟩
        refine ⟨(hR.trans hs (by simp)).ext, ?_⟩
        replace hF := hF.st hs
        replace hT := hT.trans hs (by simp)
        replace hg := hg.st hs (by first | decide | (simp <;> omega))
        replace hg2 := hg2.st hs (by first | decide | (simp <;> omega))
        replace hR := hR.trans hs (by simp)
        replace h120 := h120.st hs (by first | decide | (simp <;> omega))
        replace h121 := h121.st hs (by first | decide | (simp <;> omega))
        replace g122 := g122.st hs (by first | decide | (simp <;> omega))
        replace h125 := h125.st hs (by first | decide | (simp <;> omega))
        replace h126 := h126.st hs (by first | decide | (simp <;> omega))
        replace g127 := g127.st hs (by first | decide | (simp <;> omega))
        refine yS (by kernel_rfl : opAt F4.o24 11 = some (some 129, .unOp .not 4 (.tmp 128), none)) rfl rfl (fun w' hS => val_not rfl) ?_
        refine Sch.nil ?_
        refine run_cond (x := F4.c79) (y := F4.c82) (o := .tmp 129) (b := false) (by kernel_rfl) rfl (fun h => by cases h) (fun _ => ?_)
        refine run_skip (by kernel_rfl) ?_
        refine run_inBlock ?_
        refine run_plain (id := 26) (ops := F4.o26) [(0, true), (1, true)] (by kernel_rfl) (by kernel_rfl) ?_
        refine yS (by kernel_rfl : opAt F4.o26 0 = some (some 130, .binOp .add 3 (.tmp 115) (.const (.int .i64 1)) 3, none)) rfl rfl (fun w' hS => val_addi rfl rfl (by omega) (by omega)) ?_
        refine yS (by kernel_rfl : opAt F4.o26 1 = some (some 115, .move (.tmp 130), none)) rfl rfl (fun w' hS => val_move rfl) ?_
        refine Sch.nil ?_
        refine kp (sub_cons 13 rfl rfl (sub_cons 14 rfl rfl (sub_cons 114 rfl rfl (sub_cons 115 rfl (eq_int (by simp)) (sub_nil _))))) (next2 (k + 1, C1) _ ⟨(by first | omega | (simp only; omega)), hF, hT, hg, hg2⟩ (by first | omega | (simp only; omega)))
      · skip
        refine run_exit (id := 2) (by kernel_rfl) rfl ?_
        refine run_seq (x := F4.c85) (y := F4.c86) (by kernel_rfl) ?_
        refine run_plain (id := 27) (ops := F4.o27) [(0, true)] (by kernel_rfl) (by kernel_rfl) ?_
        refine yS (by kernel_rfl : opAt F4.o27 0 = some (some 2, .assign (.const (.bool true)), none)) rfl rfl (fun w' hS => val_assign rfl) ?_
        refine Sch.nil ?_
        refine run_ret1 (by kernel_rfl) Try.func4 Try.results4 rfl ?_
        exact ⟨rfl, hT.out1 (by decide)⟩
namespace F4B
noncomputable def c0 : Code := bodyOf Try.f4
noncomputable def c1 : Code := cl c0
noncomputable def o0 : Array Oper := rops c1
noncomputable def c2 : Code := cr c0
noncomputable def c3 : Code := cl c2
noncomputable def c4 : Code := cl c3
noncomputable def o1 : Array Oper := rops c4
noncomputable def c5 : Code := cr c3
noncomputable def c6 : Code := cl c5
noncomputable def c7 : Code := cl c6
noncomputable def o2 : Array Oper := rops c7
noncomputable def c8 : Code := cr c6
noncomputable def c9 : Code := cr c5
noncomputable def c10 : Code := cr c2
noncomputable def c11 : Code := cl c10
noncomputable def o3 : Array Oper := rops c11
noncomputable def c12 : Code := cr c10
noncomputable def c13 : Code := cl c12
noncomputable def o4 : Array Oper := rops c13
noncomputable def c14 : Code := cr c12
noncomputable def c15 : Code := cl c14
noncomputable def o5 : Array Oper := rops c15
noncomputable def c16 : Code := cr c14
noncomputable def c17 : Code := cl c16
noncomputable def o6 : Array Oper := rops c17
noncomputable def c18 : Code := cr c16
noncomputable def c19 : Code := cl c18
noncomputable def c20 : Code := cl c19
noncomputable def o7 : Array Oper := rops c20
noncomputable def c21 : Code := cr c19
noncomputable def c22 : Code := cl c21
noncomputable def c23 : Code := cl c22
noncomputable def c24 : Code := cl c23
noncomputable def c25 : Code := cl c24
noncomputable def o8 : Array Oper := rops c25
noncomputable def c26 : Code := cr c24
noncomputable def c27 : Code := cl c26
noncomputable def c28 : Code := cr c26
noncomputable def c29 : Code := cr c23
noncomputable def c30 : Code := cl c29
noncomputable def c31 : Code := cl c30
noncomputable def c32 : Code := cl c31
noncomputable def o10 : Array Oper := rops c32
noncomputable def c33 : Code := cr c31
noncomputable def c34 : Code := cl c33
noncomputable def o11 : Array Oper := rops c34
noncomputable def c35 : Code := cr c33
noncomputable def c36 : Code := cl c35
noncomputable def c37 : Code := cl c36
noncomputable def o12 : Array Oper := rops c37
noncomputable def c38 : Code := cr c36
noncomputable def c39 : Code := cl c38
noncomputable def c40 : Code := cl c39
noncomputable def o13 : Array Oper := rops c40
noncomputable def c41 : Code := cr c39
noncomputable def c42 : Code := cr c38
noncomputable def c43 : Code := cr c35
noncomputable def o14 : Array Oper := rops c43
noncomputable def c44 : Code := cr c29
noncomputable def o9 : Array Oper := rops c44
noncomputable def c45 : Code := cr c18
noncomputable def c46 : Code := cl c45
noncomputable def o15 : Array Oper := rops c46
noncomputable def c47 : Code := cr c45
noncomputable def c48 : Code := cl c47
noncomputable def o16 : Array Oper := rops c48
noncomputable def c49 : Code := cr c47
noncomputable def c50 : Code := cl c49
noncomputable def o17 : Array Oper := rops c50
noncomputable def c51 : Code := cr c49
noncomputable def c52 : Code := cl c51
noncomputable def o18 : Array Oper := rops c52
noncomputable def c53 : Code := cr c51
noncomputable def c54 : Code := cl c53
noncomputable def c55 : Code := cl c54
noncomputable def o19 : Array Oper := rops c55
noncomputable def c56 : Code := cr c54
noncomputable def c57 : Code := cl c56
noncomputable def c58 : Code := cl c57
noncomputable def o20 : Array Oper := rops c58
noncomputable def c59 : Code := cr c57
noncomputable def c60 : Code := cr c56
noncomputable def c61 : Code := cr c53
noncomputable def c62 : Code := cl c61
noncomputable def c63 : Code := cl c62
noncomputable def o21 : Array Oper := rops c63
noncomputable def c64 : Code := cr c62
noncomputable def c65 : Code := cl c64
noncomputable def c66 : Code := cl c65
noncomputable def c67 : Code := cl c66
noncomputable def o22 : Array Oper := rops c67
noncomputable def c68 : Code := cr c66
noncomputable def c69 : Code := cl c68
noncomputable def c70 : Code := cl c69
noncomputable def c71 : Code := cr c69
noncomputable def c72 : Code := cr c68
noncomputable def c73 : Code := cl c72
noncomputable def c74 : Code := cl c73
noncomputable def c75 : Code := cl c74
noncomputable def o23 : Array Oper := rops c75
noncomputable def c76 : Code := cr c74
noncomputable def c77 : Code := cl c76
noncomputable def o24 : Array Oper := rops c77
noncomputable def c78 : Code := cr c76
noncomputable def c79 : Code := cl c78
noncomputable def c80 : Code := cl c79
noncomputable def o25 : Array Oper := rops c80
noncomputable def c81 : Code := cr c79
noncomputable def c82 : Code := cr c78
noncomputable def c83 : Code := cr c72
noncomputable def o26 : Array Oper := rops c83
noncomputable def c84 : Code := cr c61
noncomputable def c85 : Code := cl c84
noncomputable def o27 : Array Oper := rops c85
noncomputable def c86 : Code := cr c84
end F4B
/-- .. where more is handed than it looks at. -/
theorem blindLaw_big {w₀ : World} {C : Nat → Nat} {p : Option Addr} {n c : Nat} (hF : Lim w₀ C) (hn : 400 < n) : Calls Try.prog 4 #[.slice p n c] w₀ (Ret fun v w' => v = .bool true ∧ Stp [] w₀ C w' C) := by
  have hF0 := hF
  have hT := Stp.refl [2, 3, 4, 5, 6, 7, 8, 9] w₀ (col1 C)
  replace hF := hF.col1
  refine calls_start (c := F4B.c0) (N := 131) [.slice p n c] Try.func4 (by kernel_rfl) (by kernel_rfl) (by kernel_rfl) ?_
  show Run _ _ _ _ [(0, .slice p n c)] _ _
  refine run_seq (x := F4B.c1) (y := F4B.c2) (by kernel_rfl) ?_
  refine run_plain (id := 0) (ops := F4B.o0) [(0, true)] (by kernel_rfl) (by kernel_rfl) ?_
  refine yS (by kernel_rfl : opAt F4B.o0 0 = some (some 2, .assign (.const (.bool false)), none)) rfl rfl (fun w' hS => val_assign rfl) ?_
  refine Sch.nil ?_
  refine run_seq (x := F4B.c3) (y := F4B.c10) (by kernel_rfl) ?_
  refine run_seq (x := F4B.c4) (y := F4B.c5) (by kernel_rfl) ?_
  refine run_plain (id := 1) (ops := F4B.o1) [(0, false), (1, true), (2, true), (3, true), (4, false), (5, true), (6, true)] (by kernel_rfl) (by kernel_rfl) ?_
  refine cS (by kernel_rfl : opAt F4B.o1 0 = some (some 20, .call { callee := .value (.func 7), args := #[], argTypes := #[] }, none)) rfl rfl (ent Try.call7 rfl) (awake_ok hF) ?_
  rintro vw1 w1 ⟨rfl, hs⟩
  refine ⟨trivial, ?_⟩
  replace hF := hF.st hs
  replace hT := hT.trans hs (by simp)
  refine yS (by kernel_rfl : opAt F4B.o1 1 = some (some 21, .unOp .not 4 (.tmp 20), none)) rfl rfl (fun w' hS => val_not rfl) ?_
  refine yS (by kernel_rfl : opAt F4B.o1 2 = some (some 22, .move (.tmp 21), none)) rfl rfl (fun w' hS => val_move rfl) ?_
  refine yS (by kernel_rfl : opAt F4B.o1 3 = some (some 23, .move (.tmp 0), (some (2, false)))) rfl rfl (fun w' hS => val_move rfl) ?_
  refine cS (by kernel_rfl : opAt F4B.o1 4 = some (some 24, .call { callee := .value (.func 8), args := #[(.tmp 23)], argTypes := #[22] }, (some (2, false)))) rfl rfl (ent Try.call8 rfl) (few_ok _ _ _ _) ?_
  rintro vw2 w2 ⟨rfl, rfl⟩
  refine ⟨trivial, ?_⟩
  rw [decide_eq_false (show ¬ (n : Int) ≤ 400 by omega)]
  refine yS (by kernel_rfl : opAt F4B.o1 5 = some (some 25, .unOp .not 4 (.tmp 24), (some (2, false)))) rfl rfl (fun w' hS => val_not rfl) ?_
  refine yS (by kernel_rfl : opAt F4B.o1 6 = some (some 26, .pick (.tmp 22) (.const (.bool true)) (.tmp 25), none)) rfl rfl (fun w' hS => val_pick_f rfl rfl) ?_
  refine Sch.nil ?_
  refine run_cond (x := F4B.c6) (y := F4B.c9) (o := .tmp 26) (b := true) (by kernel_rfl) rfl (fun _ => ?_) (fun h => by cases h)
  refine run_seq (x := F4B.c7) (y := F4B.c8) (by kernel_rfl) ?_
  refine run_plain (id := 2) (ops := F4B.o2) [(0, false), (1, true)] (by kernel_rfl) (by kernel_rfl) ?_
  refine cS (by kernel_rfl : opAt F4B.o2 0 = some (some 27, .call { callee := .value (.func 7), args := #[], argTypes := #[] }, none)) rfl rfl (ent Try.call7 rfl) (awake_ok hF) ?_
  rintro vw3 w3 ⟨rfl, hs⟩
  refine ⟨trivial, ?_⟩
  replace hF := hF.st hs
  replace hT := hT.trans hs (by simp)
  refine yS (by kernel_rfl : opAt F4B.o2 1 = some (some 2, .assign (.tmp 27), none)) rfl rfl (fun w' hS => val_assign rfl) ?_
  refine Sch.nil ?_
  refine run_ret1 (by kernel_rfl) Try.func4 Try.results4 rfl ?_
  exact ⟨rfl, hT.out1 (by decide)⟩
end Go.Proofs.Ytbdlkdiadplmcaa
