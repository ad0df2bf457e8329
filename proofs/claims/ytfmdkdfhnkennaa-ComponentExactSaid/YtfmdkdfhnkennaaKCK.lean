/- Steps through functions of the program. -/
import Derived.Test.YtfmdkdfhnkennaaKCJ
set_option linter.unusedVariables false
set_option linter.unusedSimpArgs false
set_option maxRecDepth 100000
set_option maxHeartbeats 400000
namespace Go.Proofs.Ytfmdkdfhnkennaa
open Go.K Go.K.Rep

namespace F45
noncomputable def c0 : Code := bodyOf Try.f45
noncomputable def c1 : Code := cl c0
noncomputable def o0 : Array Oper := rops c1
noncomputable def c2 : Code := cr c0
noncomputable def c3 : Code := cl c2
noncomputable def o1 : Array Oper := rops c3
noncomputable def c4 : Code := cr c2
end F45
theorem range_any {w₀ : World} {C : Nat → Nat} {i b : Nat} {lo hi : Int} (hF : Lim w₀ C) (hi0 : i ≠ 0) (hd : DeckIs w₀ C i b) (h1 : lo ≤ hi) (h2 : -1000000000 ≤ lo) (h3 : hi ≤ 1000000000) :
    Calls Try.prog 45 #[.pointer (some ⟨b, 0, none⟩), .int .i64 lo, .int .i64 hi] w₀ (Ret fun v w' => ∃ n : Int, v = .int .i64 n ∧ lo ≤ n ∧ n ≤ hi ∧ Stp [i] w₀ C w' C ∧ DeckIs w' C i b) := by
  have hF0 := hF
  have hbc := hd.colour
  replace hd := hd.col2 hi0
  have hT := Stp.refl [2, 3, 4, 5, 6, 7, 8, 9] w₀ (col2 C i)
  replace hF := hF.col2 i
  refine calls_start (c := F45.c0) (N := 15) [.pointer (some ⟨b, 0, none⟩), .int .i64 lo, .int .i64 hi] Try.func45 (by kernel_rfl) (by kernel_rfl) (by kernel_rfl) ?_
  show Run _ _ _ _ [(0, .pointer (some ⟨b, 0, none⟩)), (1, .int .i64 lo), (2, .int .i64 hi)] _ _
  refine run_seq (x := F45.c1) (y := F45.c2) (by kernel_rfl) ?_
  refine run_plain (id := 0) (ops := F45.o0) [(0, true)] (by kernel_rfl) (by kernel_rfl) ?_
  refine yS (by kernel_rfl : opAt F45.o0 0 = some (some 6, .assign (.const (.int .i64 0)), none)) rfl rfl (fun w' hS => val_assign rfl) ?_
  refine Sch.nil ?_
  refine run_seq (x := F45.c3) (y := F45.c4) (by kernel_rfl) ?_
  refine run_plain (id := 1) (ops := F45.o1) [(0, true), (1, true), (2, true), (3, true), (4, true), (5, true), (6, false), (7, true), (8, true)] (by kernel_rfl) (by kernel_rfl) ?_
  refine yS (by kernel_rfl : opAt F45.o1 0 = some (some 7, .move (.tmp 1), none)) rfl rfl (fun w' hS => val_move rfl) ?_
  refine yS (by kernel_rfl : opAt F45.o1 1 = some (some 8, .move (.tmp 0), none)) rfl rfl (fun w' hS => val_move rfl) ?_
  refine yS (by kernel_rfl : opAt F45.o1 2 = some (some 9, .move (.tmp 2), none)) rfl rfl (fun w' hS => val_move rfl) ?_
  refine yS (by kernel_rfl : opAt F45.o1 3 = some (some 10, .move (.tmp 1), none)) rfl rfl (fun w' hS => val_move rfl) ?_
  refine yS (by kernel_rfl : opAt F45.o1 4 = some (some 11, .binOp .sub 3 (.tmp 9) (.tmp 10) 3, none)) rfl rfl (fun w' hS => val_subi rfl rfl (by omega) (by omega)) ?_
  refine yS (by kernel_rfl : opAt F45.o1 5 = some (some 12, .binOp .add 3 (.tmp 11) (.const (.int .i64 1)) 3, none)) rfl rfl (fun w' hS => val_addi rfl rfl (by omega) (by omega)) ?_
  refine cS (by kernel_rfl : opAt F45.o1 6 = some (some 13, .call { callee := .value (.func 12), args := #[(.tmp 8), (.tmp 12)], argTypes := #[29, 3] }, none)) rfl rfl (ent Try.call12 rfl) (next_any (n := hi - lo + 1) hF (by decide) hd (by omega) (by omega)) ?_
  rintro vw1 w1 ⟨k, rfl, hk, hs, hd⟩
  refine ⟨trivial, ?_⟩
  replace hF := hF.st hs
  replace hT := hT.trans hs (by simp)
  refine yS (by kernel_rfl : opAt F45.o1 7 = some (some 14, .binOp .add 3 (.tmp 7) (.tmp 13) 3, none)) rfl rfl (fun w' hS => val_addi rfl rfl (by omega) (by omega)) ?_
  refine yS (by kernel_rfl : opAt F45.o1 8 = some (some 6, .assign (.tmp 14), none)) rfl rfl (fun w' hS => val_assign rfl) ?_
  refine Sch.nil ?_
  refine run_ret1 (by kernel_rfl) Try.func45 Try.results45 rfl ?_
  exact ⟨_, rfl, by omega, by omega, hT.out2 (by decide), hd.out hT hF0 hbc⟩
namespace F30
noncomputable def c0 : Code := bodyOf Try.f30
noncomputable def c1 : Code := cl c0
noncomputable def o0 : Array Oper := rops c1
noncomputable def c2 : Code := cr c0
noncomputable def c3 : Code := cl c2
noncomputable def c4 : Code := cl c3
noncomputable def o1 : Array Oper := rops c4
noncomputable def c5 : Code := cr c3
noncomputable def c6 : Code := cl c5
noncomputable def c7 : Code := cl c6
noncomputable def o2 : Array Oper := rops c7
noncomputable def c8 : Code := cr c6
noncomputable def c9 : Code := cr c5
noncomputable def c10 : Code := cr c2
noncomputable def c11 : Code := cl c10
noncomputable def o3 : Array Oper := rops c11
noncomputable def c12 : Code := cr c10
end F30
theorem ref_any {w₀ : World} {C : Nat → Nat} {i b : Nat} (hF : Lim w₀ C) (hi : i ≠ 0) (hd : DeckIs w₀ C i b) :
    Calls Try.prog 30 #[.pointer (some ⟨b, 0, none⟩)] w₀ (Ret fun v w' => ∃ c : Couple, v = .agg (encR c).toArray ∧ Stp [i] w₀ C w' C ∧ DeckIs w' C i b) := by
  have hF0 := hF
  have hbc := hd.colour
  replace hd := hd.col2 hi
  have hT := Stp.refl [2, 3, 4, 5, 6, 7, 8, 9] w₀ (col2 C i)
  replace hF := hF.col2 i
  refine calls_start (c := F30.c0) (N := 16) [.pointer (some ⟨b, 0, none⟩)] Try.func30 (by kernel_rfl) (by kernel_rfl) (by kernel_rfl) ?_
  show Run _ _ _ _ [(0, .pointer (some ⟨b, 0, none⟩))] _ _
  refine run_seq (x := F30.c1) (y := F30.c2) (by kernel_rfl) ?_
  refine run_plain (id := 0) (ops := F30.o0) [(0, false)] (by kernel_rfl) (by kernel_rfl) ?_
  refine aS (by kernel_rfl : opAt F30.o0 0 = some (some 2, .alloc 25, none)) rfl rfl (a_alloc (cs := [.int .i64 0, .int .i64 0]) hF 3 (by kernel_rfl)) ?_
  rintro _ w1 ⟨Cw1, bw1, rfl, hs, hx, hF⟩
  refine ⟨trivial, ?_⟩
  replace hT := hT.trans hs (by simp)
  replace hd := hd.st hs (by first | decide | (simp <;> omega)) (by first | decide | (simp <;> omega))
  refine Sch.nil ?_
  refine run_seq (x := F30.c3) (y := F30.c10) (by kernel_rfl) ?_
  refine run_seq (x := F30.c4) (y := F30.c5) (by kernel_rfl) ?_
  refine run_plain (id := 1) (ops := F30.o1) [(0, true), (1, false)] (by kernel_rfl) (by kernel_rfl) ?_
  refine yS (by kernel_rfl : opAt F30.o1 0 = some (some 3, .move (.tmp 0), none)) rfl rfl (fun w' hS => val_move rfl) ?_
  refine cS (by kernel_rfl : opAt F30.o1 1 = some (some 4, .call { callee := .value (.func 28), args := #[(.tmp 3), (.const (.int .i64 20))], argTypes := #[29, 3] }, none)) rfl rfl (ent Try.call28 rfl) (one_any hF (by decide) hd (by decide) (by decide)) ?_
  rintro vw2 w2 ⟨t, rfl, hs, hd⟩
  refine ⟨trivial, ?_⟩
  replace hF := hF.st hs
  replace hT := hT.trans hs (by simp)
  replace hx := hx.st hs (by first | decide | (simp <;> omega))
  refine Sch.nil ?_
  refine run_cond (x := F30.c6) (y := F30.c9) (o := .tmp 4) (by kernel_rfl) rfl (fun h4 => ?_) (fun h4 => ?_)
  · skip
    refine run_seq (x := F30.c7) (y := F30.c8) (by kernel_rfl) ?_
    refine run_plain (id := 2) (ops := F30.o2) [(0, true), (1, false), (2, true), (3, false), (4, true), (5, false)] (by kernel_rfl) (by kernel_rfl) ?_
    refine yS (by kernel_rfl : opAt F30.o2 0 = some (some 5, .move (.tmp 0), none)) rfl rfl (fun w' hS => val_move rfl) ?_
    refine cS (by kernel_rfl : opAt F30.o2 1 = some (some 6, .call { callee := .value (.func 45), args := #[(.tmp 5), (.const (.int .i64 (-1))), (.const (.int .i64 4))], argTypes := #[29, 3, 3] }, none)) rfl rfl (ent Try.call45 rfl) (range_any (lo := -1) (hi := 4) hF (by decide) hd (by decide) (by decide) (by decide)) ?_
    rintro vw3 w3 ⟨x, rfl, _, _, hs, hd⟩
    refine ⟨trivial, ?_⟩
    replace hF := hF.st hs
    replace hT := hT.trans hs (by simp)
    replace hx := hx.st hs (by first | decide | (simp <;> omega))
    refine yS (by kernel_rfl : opAt F30.o2 2 = some (some 7, .move (.tmp 0), none)) rfl rfl (fun w' hS => val_move rfl) ?_
    refine cS (by kernel_rfl : opAt F30.o2 3 = some (some 8, .call { callee := .value (.func 45), args := #[(.tmp 7), (.const (.int .i64 (-1))), (.const (.int .i64 2))], argTypes := #[29, 3, 3] }, none)) rfl rfl (ent Try.call45 rfl) (range_any (lo := -1) (hi := 2) hF (by decide) hd (by decide) (by decide) (by decide)) ?_
    rintro vw4 w4 ⟨y, rfl, _, _, hs, hd⟩
    refine ⟨trivial, ?_⟩
    replace hF := hF.st hs
    replace hT := hT.trans hs (by simp)
    replace hx := hx.st hs (by first | decide | (simp <;> omega))
    refine yS (by kernel_rfl : opAt F30.o2 4 = some (some 9, .build 25 #[(0, (.tmp 6)), (1, (.tmp 8))], none)) rfl rfl (fun w' hS => val_build (zs := [.int .i64 0, .int .i64 0]) (ps := [(0, 1), (1, 1)]) (qs := [(0, [.int .i64 x]), (1, [.int .i64 y])]) (cs := [.int .i64 x, .int .i64 y]) (by kernel_rfl) (by kernel_rfl) ⟨rfl, ⟨_, rfl, rfl⟩, rfl, ⟨_, rfl, rfl⟩, trivial⟩ rfl) ?_
    refine aN (by kernel_rfl : opAt F30.o2 5 = some (none, .store 25 (.tmp 2) (.tmp 9), none)) rfl (a_storeAll (vs := encR ⟨x, y⟩) (n := 2) rfl rfl (by kernel_rfl) rfl rfl (by intro u hu; simp only [encR, List.mem_cons, List.not_mem_nil, or_false] at hu; rcases hu with rfl | rfl <;> rfl) hx rfl) ?_
    rintro _ w5 ⟨rfl, hs, hx⟩
    refine ⟨trivial, ?_⟩
    replace hF := hF.st hs
    replace hT := hT.trans hs (by simp)
    replace hd := hd.st hs (by first | decide | (simp <;> omega)) (by first | decide | (simp <;> omega))
    refine Sch.nil ?_
    refine run_retC1 (by kernel_rfl) Try.func30 Try.results30 rfl hx.at_ (by kernel_rfl) (by kernel_rfl) rfl ?_
    exact ⟨_, rfl, hT.out2 (by decide), hd.out hT hF0 hbc⟩
  · skip
    refine run_skip (by kernel_rfl) ?_
    refine run_seq (x := F30.c11) (y := F30.c12) (by kernel_rfl) ?_
    refine run_plain (id := 3) (ops := F30.o3) [(0, true), (1, false), (2, true), (3, false), (4, true), (5, true), (6, false)] (by kernel_rfl) (by kernel_rfl) ?_
    refine yS (by kernel_rfl : opAt F30.o3 0 = some (some 10, .move (.tmp 0), none)) rfl rfl (fun w' hS => val_move rfl) ?_
    refine cS (by kernel_rfl : opAt F30.o3 1 = some (some 11, .call { callee := .value (.func 12), args := #[(.tmp 10), (.const (.int .i64 3))], argTypes := #[29, 3] }, none)) rfl rfl (ent Try.call12 rfl) (next_any (n := 3) hF (by decide) hd (by omega) (by omega)) ?_
    rintro vw6 w6 ⟨p, rfl, hp, hs, hd⟩
    refine ⟨trivial, ?_⟩
    replace hF := hF.st hs
    replace hT := hT.trans hs (by simp)
    replace hx := hx.st hs (by first | decide | (simp <;> omega))
    refine yS (by kernel_rfl : opAt F30.o3 2 = some (some 12, .move (.tmp 0), none)) rfl rfl (fun w' hS => val_move rfl) ?_
    refine cS (by kernel_rfl : opAt F30.o3 3 = some (some 13, .call { callee := .value (.func 12), args := #[(.tmp 12), (.const (.int .i64 4))], argTypes := #[29, 3] }, none)) rfl rfl (ent Try.call12 rfl) (next_any (n := 4) hF (by decide) hd (by omega) (by omega)) ?_
    rintro vw7 w7 ⟨p2, rfl, hp2, hs, hd⟩
    refine ⟨trivial, ?_⟩
    replace hF := hF.st hs
    replace hT := hT.trans hs (by simp)
    replace hx := hx.st hs (by first | decide | (simp <;> omega))
    refine yS (by kernel_rfl : opAt F30.o3 4 = some (some 14, .binOp .add 3 (.const (.int .i64 1)) (.tmp 13) 3, none)) rfl rfl (fun w' hS => val_addi rfl rfl (by omega) (by omega)) ?_
    refine yS (by kernel_rfl : opAt F30.o3 5 = some (some 15, .build 25 #[(0, (.tmp 11)), (1, (.tmp 14))], none)) rfl rfl (fun w' hS => val_build (zs := [.int .i64 0, .int .i64 0]) (ps := [(0, 1), (1, 1)]) (qs := [(0, [.int .i64 (p : Int)]), (1, [.int .i64 (1 + (p2 : Int))])]) (cs := [.int .i64 (p : Int), .int .i64 (1 + (p2 : Int))]) (by kernel_rfl) (by kernel_rfl) ⟨rfl, ⟨_, rfl, rfl⟩, rfl, ⟨_, rfl, rfl⟩, trivial⟩ rfl) ?_
    refine aN (by kernel_rfl : opAt F30.o3 6 = some (none, .store 25 (.tmp 2) (.tmp 15), none)) rfl (a_storeAll (vs := encR ⟨(p : Int), 1 + (p2 : Int)⟩) (n := 2) rfl rfl (by kernel_rfl) rfl rfl (by intro u hu; simp only [encR, List.mem_cons, List.not_mem_nil, or_false] at hu; rcases hu with rfl | rfl <;> rfl) hx rfl) ?_
    rintro _ w8 ⟨rfl, hs, hx⟩
    refine ⟨trivial, ?_⟩
    replace hF := hF.st hs
    replace hT := hT.trans hs (by simp)
    replace hd := hd.st hs (by first | decide | (simp <;> omega)) (by first | decide | (simp <;> omega))
    refine Sch.nil ?_
    refine run_retC1 (by kernel_rfl) Try.func30 Try.results30 rfl hx.at_ (by kernel_rfl) (by kernel_rfl) rfl ?_
    exact ⟨_, rfl, hT.out2 (by decide), hd.out hT hF0 hbc⟩
namespace F13
noncomputable def c0 : Code := bodyOf Try.f13
noncomputable def c1 : Code := cl c0
noncomputable def o0 : Array Oper := rops c1
noncomputable def c2 : Code := cr c0
noncomputable def c3 : Code := cl c2
noncomputable def o1 : Array Oper := rops c3
noncomputable def c4 : Code := cr c2
noncomputable def c5 : Code := cl c4
noncomputable def c6 : Code := cl c5
noncomputable def o2 : Array Oper := rops c6
noncomputable def c7 : Code := cr c5
noncomputable def c8 : Code := cl c7
noncomputable def c9 : Code := cl c8
noncomputable def o3 : Array Oper := rops c9
noncomputable def c10 : Code := cr c8
noncomputable def c11 : Code := cr c7
noncomputable def c12 : Code := cr c4
noncomputable def c13 : Code := cl c12
noncomputable def o4 : Array Oper := rops c13
noncomputable def c14 : Code := cr c12
noncomputable def c15 : Code := cl c14
noncomputable def c16 : Code := cl c15
noncomputable def o5 : Array Oper := rops c16
noncomputable def c17 : Code := cr c15
noncomputable def c18 : Code := cl c17
noncomputable def c19 : Code := cl c18
noncomputable def o6 : Array Oper := rops c19
noncomputable def c20 : Code := cr c18
noncomputable def c21 : Code := cl c20
noncomputable def o7 : Array Oper := rops c21
noncomputable def c22 : Code := cr c20
noncomputable def c23 : Code := cl c22
noncomputable def o8 : Array Oper := rops c23
noncomputable def c24 : Code := cr c22
noncomputable def c25 : Code := cl c24
noncomputable def o9 : Array Oper := rops c25
noncomputable def c26 : Code := cr c24
noncomputable def c27 : Code := cl c26
noncomputable def o10 : Array Oper := rops c27
noncomputable def c28 : Code := cr c26
noncomputable def c29 : Code := cl c28
noncomputable def o11 : Array Oper := rops c29
noncomputable def c30 : Code := cr c28
noncomputable def c31 : Code := cl c30
noncomputable def o12 : Array Oper := rops c31
noncomputable def c32 : Code := cr c30
noncomputable def c33 : Code := cl c32
noncomputable def o13 : Array Oper := rops c33
noncomputable def c34 : Code := cr c32
noncomputable def c35 : Code := cl c34
noncomputable def o14 : Array Oper := rops c35
noncomputable def c36 : Code := cr c34
noncomputable def c37 : Code := cl c36
noncomputable def o15 : Array Oper := rops c37
noncomputable def c38 : Code := cr c36
noncomputable def c39 : Code := cr c14
noncomputable def c40 : Code := cl c39
noncomputable def o16 : Array Oper := rops c40
noncomputable def c41 : Code := cr c39
end F13
theorem bent_any {w₀ : World} {C : Nat → Nat} {i b : Nat} (hF : Lim w₀ C) (hi : i ≠ 0) (hd : DeckIs w₀ C i b) :
    Calls Try.prog 13 #[.pointer (some ⟨b, 0, none⟩)] w₀ (Ret fun v w' => ∃ l : List Bond, l.length ≤ 4097 ∧ Stp [i] w₀ C w' C ∧ RV w' (Mc C) l v ∧ DeckIs w' C i b) := by
  have hF0 := hF
  have hbc := hd.colour
  replace hd := hd.col2 hi
  have hT := Stp.refl [2, 3, 4, 5, 6, 7, 8, 9] w₀ (col2 C i)
  replace hF := hF.col2 i
  refine calls_start (c := F13.c0) (N := 68) [.pointer (some ⟨b, 0, none⟩)] Try.func13 (by kernel_rfl) (by kernel_rfl) (by kernel_rfl) ?_
  show Run _ _ _ _ [(0, .pointer (some ⟨b, 0, none⟩))] _ _
  refine run_seq (x := F13.c1) (y := F13.c2) (by kernel_rfl) ?_
  refine run_plain (id := 0) (ops := F13.o0) [(0, true)] (by kernel_rfl) (by kernel_rfl) ?_
  refine yS (by kernel_rfl : opAt F13.o0 0 = some (some 2, .assign (.const (.slice none 0 0)), none)) rfl rfl (fun w' hS => val_assign rfl) ?_
  refine Sch.nil ?_
  refine run_seq (x := F13.c3) (y := F13.c4) (by kernel_rfl) ?_
  refine run_plain (id := 1) (ops := F13.o1) [(0, true), (1, false), (2, true)] (by kernel_rfl) (by kernel_rfl) ?_
  refine yS (by kernel_rfl : opAt F13.o1 0 = some (some 5, .move (.tmp 0), none)) rfl rfl (fun w' hS => val_move rfl) ?_
  refine cS (by kernel_rfl : opAt F13.o1 1 = some (some 6, .call { callee := .value (.func 11), args := #[(.tmp 5), (.const (.int .i64 3)), (.const (.int .i64 3)), (.const (.int .i64 4))], argTypes := #[29, 3, 3, 3] }, none)) rfl rfl (ent Try.call11 rfl) (bonds_any (R := 3) (I := 3) (one := 4) hF (by decide) hd (by decide) (by decide) (by decide) (by decide)) ?_
  rintro vb w1 ⟨bl, hbl, _, hall⟩
  obtain ⟨Cb, hs, hF, ho, hd⟩ := hall 4 (by decide)
  have hbL := hbl.2.2
  refine ⟨trivial, ?_⟩
  replace hT := hT.trans hs (by simp)
  refine yS (by kernel_rfl : opAt F13.o1 2 = some (some 3, .assign (.tmp 6), none)) rfl rfl (fun w' hS => val_assign rfl) ?_
  refine Sch.nil ?_
  refine run_seq (x := F13.c5) (y := F13.c12) (by kernel_rfl) ?_
  refine run_seq (x := F13.c6) (y := F13.c7) (by kernel_rfl) ?_
  refine run_plain (id := 2) (ops := F13.o2) [(0, true), (1, true), (2, true)] (by kernel_rfl) (by kernel_rfl) ?_
  refine yS (by kernel_rfl : opAt F13.o2 0 = some (some 7, .move (.tmp 3), none)) rfl rfl (fun w' hS => val_move rfl) ?_
  refine yS (by kernel_rfl : opAt F13.o2 1 = some (some 8, .call { callee := .builtin .len, args := #[(.tmp 7)], argTypes := #[23] }, none)) rfl rfl (fun w' hS => ho.lenV rfl Try.underlying23 w' ) ?_
  refine yS (by kernel_rfl : opAt F13.o2 2 = some (some 9, .binOp .eql 3 (.tmp 8) (.const (.int .i64 0)) 3, none)) rfl rfl (fun w' hS => val_eql rfl rfl) ?_
  refine Sch.nil ?_
  refine run_if (x := F13.c8) (y := F13.c11) (o := .tmp 9) (by kernel_rfl) rfl (fun h9 => ?_) (fun h9 => ?_)
  · skip
    refine run_seq (x := F13.c9) (y := F13.c10) (by kernel_rfl) ?_
    refine run_plain (id := 3) (ops := F13.o3) [(0, true), (1, true)] (by kernel_rfl) (by kernel_rfl) ?_
    refine yS (by kernel_rfl : opAt F13.o3 0 = some (some 10, .move (.tmp 3), none)) rfl rfl (fun w' hS => val_move rfl) ?_
    refine yS (by kernel_rfl : opAt F13.o3 1 = some (some 2, .assign (.tmp 10), none)) rfl rfl (fun w' hS => val_assign rfl) ?_
    refine Sch.nil ?_
    refine run_ret1 (by kernel_rfl) Try.func13 Try.results13 rfl ?_
    exact ⟨_, (by first | omega | (simp only [List.length_set, List.length_append, List.length_cons, List.length_nil]; omega)), hT.out2 (by decide), ho.out hT hF0 (Mc_col2 C i) (fun b _ => col2_lt C i (by decide) b) (by first | omega | (simp only [List.length_set, List.length_append, List.length_cons, List.length_nil]; omega)), hd.out hT hF0 hbc⟩
  · skip
    have hbp : 0 < bl.length := by omega
    refine run_skip (by kernel_rfl) ?_
    refine run_seq (x := F13.c13) (y := F13.c14) (by kernel_rfl) ?_
    refine run_plain (id := 4) (ops := F13.o4) [(0, true), (1, true), (2, true), (3, false), (4, true)] (by kernel_rfl) (by kernel_rfl) ?_
    refine yS (by kernel_rfl : opAt F13.o4 0 = some (some 11, .move (.tmp 0), none)) rfl rfl (fun w' hS => val_move rfl) ?_
    refine yS (by kernel_rfl : opAt F13.o4 1 = some (some 12, .move (.tmp 3), none)) rfl rfl (fun w' hS => val_move rfl) ?_
    refine yS (by kernel_rfl : opAt F13.o4 2 = some (some 13, .call { callee := .builtin .len, args := #[(.tmp 12)], argTypes := #[23] }, none)) rfl rfl (fun w' hS => ho.lenV rfl Try.underlying23 w' ) ?_
    refine cS (by kernel_rfl : opAt F13.o4 3 = some (some 14, .call { callee := .value (.func 12), args := #[(.tmp 11), (.tmp 13)], argTypes := #[29, 3] }, none)) rfl rfl (ent Try.call12 rfl) (next_any (n := (bl.length : Int)) hF (by decide) hd (by omega) (by omega)) ?_
    rintro vw2 w2 ⟨z, rfl, hz, hs, hd⟩
    refine ⟨trivial, ?_⟩
    replace hF := hF.st hs
    replace hT := hT.trans hs (by simp)
    replace ho := ho.st hs (by first | decide | (simp <;> omega)) (by first | decide | (simp <;> omega))
    have hzl : z < bl.length := by omega
    refine yS (by kernel_rfl : opAt F13.o4 4 = some (some 4, .assign (.tmp 14), none)) rfl rfl (fun w' hS => val_assign rfl) ?_
    refine Sch.nil ?_
    refine run_seq (x := F13.c15) (y := F13.c39) (by kernel_rfl) ?_
    refine run_seq (x := F13.c16) (y := F13.c17) (by kernel_rfl) ?_
    refine run_plain (id := 5) (ops := F13.o5) [(0, true), (1, false)] (by kernel_rfl) (by kernel_rfl) ?_
    refine yS (by kernel_rfl : opAt F13.o5 0 = some (some 15, .move (.tmp 0), none)) rfl rfl (fun w' hS => val_move rfl) ?_
    refine cS (by kernel_rfl : opAt F13.o5 1 = some (some 16, .call { callee := .value (.func 12), args := #[(.tmp 15), (.const (.int .i64 8))], argTypes := #[29, 3] }, none)) rfl rfl (ent Try.call12 rfl) (next_any (n := 8) hF (by decide) hd (by omega) (by omega)) ?_
    rintro vw3 w3 ⟨q, rfl, hq, hs, hd⟩
    refine ⟨trivial, ?_⟩
    replace hF := hF.st hs
    replace hT := hT.trans hs (by simp)
    replace ho := ho.st hs (by first | decide | (simp <;> omega)) (by first | decide | (simp <;> omega))
    refine Sch.nil ?_
    refine run_block (x := F13.c18) (id := 0) (by kernel_rfl) ?_
    refine run_seq (x := F13.c19) (y := F13.c20) (by kernel_rfl) ?_
    refine run_plain (id := 6) (ops := F13.o6) [(0, true), (1, true)] (by kernel_rfl) (by kernel_rfl) ?_
    refine yS (by kernel_rfl : opAt F13.o6 0 = some (some 18, .binOp .eql 3 (.tmp 16) (.const (.int .i64 0)) 3, none)) rfl rfl (fun w' hS => val_eql rfl rfl) ?_
    refine yS (by kernel_rfl : opAt F13.o6 1 = some (some 17, .assign (.tmp 18), none)) rfl rfl (fun w' hS => val_assign rfl) ?_
    refine Sch.nil ?_
    refine run_if (x := F13.c21) (y := F13.c22) (o := .tmp 17) (by kernel_rfl) rfl (fun h17 => ?_) (fun h17 => ?_)
    · skip
      refine run_plain (id := 7) (ops := F13.o7) [(0, true), (1, true), (2, true), (3, false), (4, true), (5, true), (6, false)] (by kernel_rfl) (by kernel_rfl) ?_
      refine yS (by kernel_rfl : opAt F13.o7 0 = some (some 19, .move (.tmp 3), none)) rfl rfl (fun w' hS => val_move rfl) ?_
      refine yS (by kernel_rfl : opAt F13.o7 1 = some (some 20, .move (.tmp 4), none)) rfl rfl (fun w' hS => val_move rfl) ?_
      refine yS (by kernel_rfl : opAt F13.o7 2 = some (some 21, .move (.tmp 0), none)) rfl rfl (fun w' hS => val_move rfl) ?_
      refine cS (by kernel_rfl : opAt F13.o7 3 = some (some 22, .call { callee := .value (.func 30), args := #[(.tmp 21)], argTypes := #[29] }, none)) rfl rfl (ent Try.call30 rfl) (ref_any hF (by decide) hd) ?_
      rintro vw4 w4 ⟨c, rfl, hs, hd⟩
      refine ⟨trivial, ?_⟩
      replace hF := hF.st hs
      replace hT := hT.trans hs (by simp)
      replace ho := ho.st hs (by first | decide | (simp <;> omega)) (by first | decide | (simp <;> omega))
      refine oI (e' := 50) (by kernel_rfl : opAt F13.o7 4 = some (some 23, .indexAddr 23 (.tmp 19) (.tmp 20), none)) rfl rfl ho rfl (by kernel_rfl) rfl (by omega) (by omega) ?_
      intro g23 hg23
      try simp only [Int.toNat_natCast]
      refine yS (by kernel_rfl : opAt F13.o7 5 = some (some 24, .fieldAddr 50 (.tmp 23) 0, none)) rfl rfl (fun w' hS => val_fieldAddr (off := 0) (by kernel_rfl) rfl) ?_
      refine aN (by kernel_rfl : opAt F13.o7 6 = some (none, .store 25 (.tmp 24) (.tmp 22), none)) rfl (a_storeF (off := 0) (k := 2) (us := encR c) (x0 := (⟨c, bl[z].B, bl[z].w⟩ : Bond)) ho hg23 (by omega) rfl rfl (by kernel_rfl) rfl rfl (by intro u hu; simp only [encR, List.mem_cons, List.not_mem_nil, or_false] at hu; rcases hu with rfl | rfl <;> rfl) (by decide) (fun vs hv => by rw [rep_bond.1 hv]; exact rep_bond.2 rfl)) ?_
      rintro _ w5 ⟨rfl, hs, ho⟩
      refine ⟨trivial, ?_⟩
      replace hF := hF.st hs
      replace hT := hT.trans hs (by simp)
      replace hd := hd.st hs (by first | decide | (simp <;> omega)) (by first | decide | (simp <;> omega))
      refine Sch.nil ?_
      refine run_inBlock ?_
      refine run_seq (x := F13.c40) (y := F13.c41) (by kernel_rfl) ?_
      refine run_plain (id := 16) (ops := F13.o16) [(0, true), (1, true)] (by kernel_rfl) (by kernel_rfl) ?_
      refine yS (by kernel_rfl : opAt F13.o16 0 = some (some 67, .move (.tmp 3), none)) rfl rfl (fun w' hS => val_move rfl) ?_
      refine yS (by kernel_rfl : opAt F13.o16 1 = some (some 2, .assign (.tmp 67), none)) rfl rfl (fun w' hS => val_assign rfl) ?_
      refine Sch.nil ?_
      refine run_ret1 (by kernel_rfl) Try.func13 Try.results13 rfl ?_
      exact ⟨_, (by first | omega | (simp only [List.length_set, List.length_append, List.length_cons, List.length_nil]; omega)), hT.out2 (by decide), ho.out hT hF0 (Mc_col2 C i) (fun b _ => col2_lt C i (by decide) b) (by first | omega | (simp only [List.length_set, List.length_append, List.length_cons, List.length_nil]; omega)), hd.out hT hF0 hbc⟩
    · skip
      refine run_seq (x := F13.c23) (y := F13.c24) (by kernel_rfl) ?_
      refine run_plain (id := 8) (ops := F13.o8) [(0, true), (1, true)] (by kernel_rfl) (by kernel_rfl) ?_
      refine yS (by kernel_rfl : opAt F13.o8 0 = some (some 26, .binOp .eql 3 (.tmp 16) (.const (.int .i64 1)) 3, none)) rfl rfl (fun w' hS => val_eql rfl rfl) ?_
      refine yS (by kernel_rfl : opAt F13.o8 1 = some (some 25, .assign (.tmp 26), none)) rfl rfl (fun w' hS => val_assign rfl) ?_
      refine Sch.nil ?_
      refine run_if (x := F13.c25) (y := F13.c26) (o := .tmp 25) (by kernel_rfl) rfl (fun h25 => ?_) (fun h25 => ?_)
      · skip
        refine run_plain (id := 9) (ops := F13.o9) [(0, true), (1, true), (2, true), (3, false), (4, true), (5, true), (6, false)] (by kernel_rfl) (by kernel_rfl) ?_
        refine yS (by kernel_rfl : opAt F13.o9 0 = some (some 27, .move (.tmp 3), none)) rfl rfl (fun w' hS => val_move rfl) ?_
        refine yS (by kernel_rfl : opAt F13.o9 1 = some (some 28, .move (.tmp 4), none)) rfl rfl (fun w' hS => val_move rfl) ?_
        refine yS (by kernel_rfl : opAt F13.o9 2 = some (some 29, .move (.tmp 0), none)) rfl rfl (fun w' hS => val_move rfl) ?_
        refine cS (by kernel_rfl : opAt F13.o9 3 = some (some 30, .call { callee := .value (.func 30), args := #[(.tmp 29)], argTypes := #[29] }, none)) rfl rfl (ent Try.call30 rfl) (ref_any hF (by decide) hd) ?_
        rintro vw6 w6 ⟨c, rfl, hs, hd⟩
        refine ⟨trivial, ?_⟩
        replace hF := hF.st hs
        replace hT := hT.trans hs (by simp)
        replace ho := ho.st hs (by first | decide | (simp <;> omega)) (by first | decide | (simp <;> omega))
        refine oI (e' := 50) (by kernel_rfl : opAt F13.o9 4 = some (some 31, .indexAddr 23 (.tmp 27) (.tmp 28), none)) rfl rfl ho rfl (by kernel_rfl) rfl (by omega) (by omega) ?_
        intro g31 hg31
        try simp only [Int.toNat_natCast]
        refine yS (by kernel_rfl : opAt F13.o9 5 = some (some 32, .fieldAddr 50 (.tmp 31) 1, none)) rfl rfl (fun w' hS => val_fieldAddr (off := 2) (by kernel_rfl) rfl) ?_
        refine aN (by kernel_rfl : opAt F13.o9 6 = some (none, .store 25 (.tmp 32) (.tmp 30), none)) rfl (a_storeF (off := 2) (k := 2) (us := encR c) (x0 := (⟨bl[z].A, c, bl[z].w⟩ : Bond)) ho hg31 (by omega) rfl rfl (by kernel_rfl) rfl rfl (by intro u hu; simp only [encR, List.mem_cons, List.not_mem_nil, or_false] at hu; rcases hu with rfl | rfl <;> rfl) (by decide) (fun vs hv => by rw [rep_bond.1 hv]; exact rep_bond.2 rfl)) ?_
        rintro _ w7 ⟨rfl, hs, ho⟩
        refine ⟨trivial, ?_⟩
        replace hF := hF.st hs
        replace hT := hT.trans hs (by simp)
        replace hd := hd.st hs (by first | decide | (simp <;> omega)) (by first | decide | (simp <;> omega))
        refine Sch.nil ?_
        refine run_inBlock ?_
        refine run_seq (x := F13.c40) (y := F13.c41) (by kernel_rfl) ?_
        refine run_plain (id := 16) (ops := F13.o16) [(0, true), (1, true)] (by kernel_rfl) (by kernel_rfl) ?_
        refine yS (by kernel_rfl : opAt F13.o16 0 = some (some 67, .move (.tmp 3), none)) rfl rfl (fun w' hS => val_move rfl) ?_
        refine yS (by kernel_rfl : opAt F13.o16 1 = some (some 2, .assign (.tmp 67), none)) rfl rfl (fun w' hS => val_assign rfl) ?_
        refine Sch.nil ?_
        refine run_ret1 (by kernel_rfl) Try.func13 Try.results13 rfl ?_
        exact ⟨_, (by first | omega | (simp only [List.length_set, List.length_append, List.length_cons, List.length_nil]; omega)), hT.out2 (by decide), ho.out hT hF0 (Mc_col2 C i) (fun b _ => col2_lt C i (by decide) b) (by first | omega | (simp only [List.length_set, List.length_append, List.length_cons, List.length_nil]; omega)), hd.out hT hF0 hbc⟩
      · skip
        refine run_seq (x := F13.c27) (y := F13.c28) (by kernel_rfl) ?_
        refine run_plain (id := 10) (ops := F13.o10) [(0, true), (1, true)] (by kernel_rfl) (by kernel_rfl) ?_
        refine yS (by kernel_rfl : opAt F13.o10 0 = some (some 34, .binOp .eql 3 (.tmp 16) (.const (.int .i64 2)) 3, none)) rfl rfl (fun w' hS => val_eql rfl rfl) ?_
        refine yS (by kernel_rfl : opAt F13.o10 1 = some (some 33, .assign (.tmp 34), none)) rfl rfl (fun w' hS => val_assign rfl) ?_
        refine Sch.nil ?_
        refine run_if (x := F13.c29) (y := F13.c30) (o := .tmp 33) (by kernel_rfl) rfl (fun h33 => ?_) (fun h33 => ?_)
        · skip
          refine run_plain (id := 11) (ops := F13.o11) [(0, true), (1, true), (2, false), (3, true), (4, false), (5, true), (6, false), (7, true), (8, true), (9, false)] (by kernel_rfl) (by kernel_rfl) ?_
          refine yS (by kernel_rfl : opAt F13.o11 0 = some (some 35, .move (.tmp 3), none)) rfl rfl (fun w' hS => val_move rfl) ?_
          refine yS (by kernel_rfl : opAt F13.o11 1 = some (some 36, .move (.tmp 4), none)) rfl rfl (fun w' hS => val_move rfl) ?_
          refine aS (by kernel_rfl : opAt F13.o11 2 = some (some 37, .buildSlice 22 3 #[(0, (.const (.int .i64 0))), (1, (.const (.int .i64 1048576))), (2, (.const (.int .i64 1048577)))], none)) rfl rfl (a_buildSlice (ys := ([0, 1048576, 1048577] : List Int)) (e := 3) (bytes := 8) hF (by kernel_rfl) rfl (by decide) (by decide) ⟨rfl, ⟨_, rfl, rv_int.2 rfl⟩, rfl, ⟨_, rfl, rv_int.2 rfl⟩, rfl, ⟨_, rfl, rv_int.2 rfl⟩, trivial⟩) ?_
          rintro v37 w8 ⟨hs, g37, hF⟩
          refine ⟨trivial, ?_⟩
          replace hT := hT.trans hs (by simp)
          replace hd := hd.st hs (by first | decide | (simp <;> omega)) (by first | decide | (simp <;> omega))
          replace ho := ho.st hs (by first | decide | (simp <;> omega)) (by first | decide | (simp <;> omega))
          refine yS (by kernel_rfl : opAt F13.o11 3 = some (some 38, .move (.tmp 0), none)) rfl rfl (fun w' hS => val_move rfl) ?_
          refine cS (by kernel_rfl : opAt F13.o11 4 = some (some 39, .call { callee := .value (.func 12), args := #[(.tmp 38), (.const (.int .i64 3))], argTypes := #[29, 3] }, none)) rfl rfl (ent Try.call12 rfl) (next_any (n := 3) hF (by decide) hd (by omega) (by omega)) ?_
          rintro vw9 w9 ⟨p, rfl, hp, hs, hd⟩
          refine ⟨trivial, ?_⟩
          replace hF := hF.st hs
          replace hT := hT.trans hs (by simp)
          replace ho := ho.st hs (by first | decide | (simp <;> omega)) (by first | decide | (simp <;> omega))
          replace g37 := g37.st hs (by first | decide | (simp <;> omega))
          have h3l : ([0, 1048576, 1048577] : List Int).length = 3 := rfl
          refine iS (e := 3) (by kernel_rfl : opAt F13.o11 5 = some (some 40, .indexAddr 22 (.tmp 37) (.tmp 39), none)) rfl rfl g37 rfl (by kernel_rfl) rfl (by omega) (by omega) ?_
          intro b40 o40 h40
          try simp only [Int.toNat_natCast] at h40
          try simp only [Int.toNat_natCast] at h40
          refine lN (by kernel_rfl : opAt F13.o11 6 = some (some 41, .load 3 (.tmp 40), none)) rfl rfl trivial h40 (by kernel_rfl) rfl rfl ?_
          intro v41 g41
          first | (obtain rfl := rv_nat.1 g41) | (obtain rfl := rv_int.1 g41)
          refine oI (e' := 50) (by kernel_rfl : opAt F13.o11 7 = some (some 42, .indexAddr 23 (.tmp 35) (.tmp 36), none)) rfl rfl ho rfl (by kernel_rfl) rfl (by omega) (by omega) ?_
          intro g42 hg42
          try simp only [Int.toNat_natCast]
          refine yS (by kernel_rfl : opAt F13.o11 8 = some (some 43, .fieldAddr 50 (.tmp 42) 2, none)) rfl rfl (fun w' hS => val_fieldAddr (off := 4) (by kernel_rfl) rfl) ?_
          refine aN (by kernel_rfl : opAt F13.o11 9 = some (none, .store 3 (.tmp 43) (.tmp 41), none)) rfl (a_storeF (off := 4) (k := 1) (us := [.int .i64 (([0, 1048576, 1048577] : List Int)[p]'(by omega))]) (x0 := (⟨bl[z].A, bl[z].B, ([0, 1048576, 1048577] : List Int)[p]'(by omega)⟩ : Bond)) ho hg42 (by omega) rfl rfl (by kernel_rfl) rfl rfl (by intro u hu; rw [List.mem_singleton.1 hu]; rfl) (by decide) (fun vs hv => by rw [rep_bond.1 hv]; exact rep_bond.2 rfl)) ?_
          rintro _ w10 ⟨rfl, hs, ho⟩
          refine ⟨trivial, ?_⟩
          replace hF := hF.st hs
          replace hT := hT.trans hs (by simp)
          replace hd := hd.st hs (by first | decide | (simp <;> omega)) (by first | decide | (simp <;> omega))
          replace g37 := g37.st hs (by first | decide | (simp <;> omega))
          replace h40 := h40.st hs (by first | decide | (simp <;> omega))
          refine Sch.nil ?_
          refine run_inBlock ?_
          refine run_seq (x := F13.c40) (y := F13.c41) (by kernel_rfl) ?_
          refine run_plain (id := 16) (ops := F13.o16) [(0, true), (1, true)] (by kernel_rfl) (by kernel_rfl) ?_
          refine yS (by kernel_rfl : opAt F13.o16 0 = some (some 67, .move (.tmp 3), none)) rfl rfl (fun w' hS => val_move rfl) ?_
          refine yS (by kernel_rfl : opAt F13.o16 1 = some (some 2, .assign (.tmp 67), none)) rfl rfl (fun w' hS => val_assign rfl) ?_
          refine Sch.nil ?_
          refine run_ret1 (by kernel_rfl) Try.func13 Try.results13 rfl ?_
          exact ⟨_, (by first | omega | (simp only [List.length_set, List.length_append, List.length_cons, List.length_nil]; omega)), hT.out2 (by decide), ho.out hT hF0 (Mc_col2 C i) (fun b _ => col2_lt C i (by decide) b) (by first | omega | (simp only [List.length_set, List.length_append, List.length_cons, List.length_nil]; omega)), hd.out hT hF0 hbc⟩
        · skip
          refine run_seq (x := F13.c31) (y := F13.c32) (by kernel_rfl) ?_
          refine run_plain (id := 12) (ops := F13.o12) [(0, true), (1, true)] (by kernel_rfl) (by kernel_rfl) ?_
          refine yS (by kernel_rfl : opAt F13.o12 0 = some (some 45, .binOp .eql 3 (.tmp 16) (.const (.int .i64 3)) 3, none)) rfl rfl (fun w' hS => val_eql rfl rfl) ?_
          refine yS (by kernel_rfl : opAt F13.o12 1 = some (some 44, .assign (.tmp 45), none)) rfl rfl (fun w' hS => val_assign rfl) ?_
          refine Sch.nil ?_
          refine run_if (x := F13.c33) (y := F13.c34) (o := .tmp 44) (by kernel_rfl) rfl (fun h44 => ?_) (fun h44 => ?_)
          · skip
            refine run_plain (id := 13) (ops := F13.o13) [(0, true), (1, true), (2, true), (3, true), (4, false), (5, false), (6, false), (7, true)] (by kernel_rfl) (by kernel_rfl) ?_
            refine yS (by kernel_rfl : opAt F13.o13 0 = some (some 46, .move (.tmp 3), none)) rfl rfl (fun w' hS => val_move rfl) ?_
            refine yS (by kernel_rfl : opAt F13.o13 1 = some (some 47, .move (.tmp 3), none)) rfl rfl (fun w' hS => val_move rfl) ?_
            refine yS (by kernel_rfl : opAt F13.o13 2 = some (some 48, .move (.tmp 4), none)) rfl rfl (fun w' hS => val_move rfl) ?_
            refine oI (e' := 50) (by kernel_rfl : opAt F13.o13 3 = some (some 49, .indexAddr 23 (.tmp 47) (.tmp 48), none)) rfl rfl ho rfl (by kernel_rfl) rfl (by omega) (by omega) ?_
            intro g49 hg49
            try simp only [Int.toNat_natCast]
            refine oNA (by kernel_rfl : opAt F13.o13 4 = some (some 50, .load 50 (.tmp 49), none)) rfl rfl trivial ho hg49 (by omega) (by kernel_rfl) (by kernel_rfl) rfl rfl ?_
            intro v50 g50
            try simp only [Int.toNat_natCast] at g50
            obtain rfl := rv_bond.1 g50
            refine aS (by kernel_rfl : opAt F13.o13 5 = some (some 51, .buildSlice 23 1 #[(0, (.tmp 50))], none)) rfl rfl (a_buildSlice (ys := ([bl[z]] : List Bond)) (e := 50) (bytes := 40) hF (by kernel_rfl) rfl (by decide) (by decide) ⟨rfl, ⟨_, rfl, rv_bond.2 rfl⟩, trivial⟩) ?_
            rintro v51 w11 ⟨hs, g51, hF⟩
            refine ⟨trivial, ?_⟩
            replace hT := hT.trans hs (by simp)
            replace hd := hd.st hs (by first | decide | (simp <;> omega)) (by first | decide | (simp <;> omega))
            replace ho := ho.st hs (by first | decide | (simp <;> omega)) (by first | decide | (simp <;> omega))
            replace g50 := g50.st hs (by first | decide | (simp <;> omega))
            refine aS (by kernel_rfl : opAt F13.o13 6 = some (some 52, .call { callee := .builtin .append, args := #[(.tmp 46), (.tmp 51)], argTypes := #[23, 23] }, none)) rfl rfl (a_append (e := 50) (bytes := 40) hF (by decide) rfl rfl (by kernel_rfl) (by decide) ho g51 (by simp only [List.length_cons, List.length_nil]; omega) (by simp only [List.length_cons, List.length_nil]; omega)) ?_
            rintro v52 w12 ⟨Cw12, hs, ho, hF⟩
            refine ⟨trivial, ?_⟩
            replace hT := hT.trans hs (by simp)
            replace hd := hd.st hs (by first | decide | (simp <;> omega)) (by first | decide | (simp <;> omega))
            replace g50 := g50.st hs (by first | decide | (simp <;> omega))
            replace g51 := g51.st hs (by first | decide | (simp <;> omega))
            refine yS (by kernel_rfl : opAt F13.o13 7 = some (some 3, .assign (.tmp 52), none)) rfl rfl (fun w' hS => val_assign rfl) ?_
            refine Sch.nil ?_
            refine run_inBlock ?_
            refine run_seq (x := F13.c40) (y := F13.c41) (by kernel_rfl) ?_
            refine run_plain (id := 16) (ops := F13.o16) [(0, true), (1, true)] (by kernel_rfl) (by kernel_rfl) ?_
            refine yS (by kernel_rfl : opAt F13.o16 0 = some (some 67, .move (.tmp 3), none)) rfl rfl (fun w' hS => val_move rfl) ?_
            refine yS (by kernel_rfl : opAt F13.o16 1 = some (some 2, .assign (.tmp 67), none)) rfl rfl (fun w' hS => val_assign rfl) ?_
            refine Sch.nil ?_
            refine run_ret1 (by kernel_rfl) Try.func13 Try.results13 rfl ?_
            exact ⟨_, (by first | omega | (simp only [List.length_set, List.length_append, List.length_cons, List.length_nil]; omega)), hT.out2 (by decide), ho.out hT hF0 (Mc_col2 C i) (fun b _ => col2_lt C i (by decide) b) (by first | omega | (simp only [List.length_set, List.length_append, List.length_cons, List.length_nil]; omega)), hd.out hT hF0 hbc⟩
          · skip
            refine run_seq (x := F13.c35) (y := F13.c36) (by kernel_rfl) ?_
            refine run_plain (id := 14) (ops := F13.o14) [(0, true), (1, true)] (by kernel_rfl) (by kernel_rfl) ?_
            refine yS (by kernel_rfl : opAt F13.o14 0 = some (some 54, .binOp .eql 3 (.tmp 16) (.const (.int .i64 4)) 3, none)) rfl rfl (fun w' hS => val_eql rfl rfl) ?_
            refine yS (by kernel_rfl : opAt F13.o14 1 = some (some 53, .assign (.tmp 54), none)) rfl rfl (fun w' hS => val_assign rfl) ?_
            refine Sch.nil ?_
            refine run_if (x := F13.c37) (y := F13.c38) (o := .tmp 53) (by kernel_rfl) rfl (fun h53 => ?_) (fun h53 => ?_)
            · skip
              refine run_draw2 (id := 15) (ops := F13.o15) [4] (Cb) [0, 1, 2, 3, 4, 6, 7, 8] 5 [(9, false), (10, true), (11, false), (12, true), (13, false)] 9 [(5, false), (10, true), (11, false), (12, true), (13, false)] Try_mixed (by kernel_rfl) (by kernel_rfl) (by kernel_rfl) ?_ ?_
              · skip
                intro w13 hs
                replace hF := hF.st hs
                replace hT := hT.trans hs (by simp)
                replace hd := hd.st hs (by first | decide | (simp <;> omega)) (by first | decide | (simp <;> omega))
                replace ho := ho.st hs (by first | decide | (simp <;> omega)) (by first | decide | (simp <;> omega))
                show Sch _ _ _ _ _ _ _ [(0, true), (1, true), (2, true), (3, true), (4, true), (6, true), (7, true), (8, true), (5, false), (9, false), (10, true), (11, false), (12, true), (13, false)] _ _
                have hR := Stp.refl [4] w13 (Cb)
                refine yS (by kernel_rfl : opAt F13.o15 0 = some (some 55, .move (.tmp 3), none)) rfl rfl (fun w' hS => val_move rfl) ?_
                refine yS (by kernel_rfl : opAt F13.o15 1 = some (some 56, .move (.tmp 4), none)) rfl rfl (fun w' hS => val_move rfl) ?_
                refine yS (by kernel_rfl : opAt F13.o15 2 = some (some 57, .move (.tmp 3), none)) rfl rfl (fun w' hS => val_move rfl) ?_
                refine yS (by kernel_rfl : opAt F13.o15 3 = some (some 58, .move (.tmp 3), none)) rfl rfl (fun w' hS => val_move rfl) ?_
                refine oI (e' := 50) (by kernel_rfl : opAt F13.o15 4 = some (some 59, .indexAddr 23 (.tmp 58) (.const (.int .i64 0)), none)) rfl rfl ho rfl (by kernel_rfl) rfl (by omega) (by omega) ?_
                intro g59 hg59
                try simp only [Int.toNat_natCast]
                refine yS (by kernel_rfl : opAt F13.o15 6 = some (some 61, .move (.tmp 3), none)) rfl rfl (fun w' hS => val_move rfl) ?_
                refine yS (by kernel_rfl : opAt F13.o15 7 = some (some 62, .move (.tmp 4), none)) rfl rfl (fun w' hS => val_move rfl) ?_
                refine oI (e' := 50) (by kernel_rfl : opAt F13.o15 8 = some (some 63, .indexAddr 23 (.tmp 61) (.tmp 62), none)) rfl rfl ho rfl (by kernel_rfl) rfl (by omega) (by omega) ?_
                intro g63 hg63
                try simp only [Int.toNat_natCast]
                refine oNA (by kernel_rfl : opAt F13.o15 5 = some (some 60, .load 50 (.tmp 59), none)) rfl rfl hR.ext ho hg59 (by omega) (by kernel_rfl) (by kernel_rfl) rfl rfl ?_
                intro v60 g60
                try simp only [Int.toNat_natCast] at g60
                try simp only [show (0 : Int).toNat = 0 from rfl] at g60
                refine oNA (by kernel_rfl : opAt F13.o15 9 = some (some 64, .load 50 (.tmp 63), none)) rfl rfl hR.ext ho hg63 (by omega) (by kernel_rfl) (by kernel_rfl) rfl rfl ?_
                intro v64 g64
                try simp only [Int.toNat_natCast] at g64
                skip
                refine oI (e' := 50) (by kernel_rfl : opAt F13.o15 10 = some (some 65, .indexAddr 23 (.tmp 55) (.tmp 56), none)) rfl rfl ho rfl (by kernel_rfl) rfl (by omega) (by omega) ?_
                intro g65 hg65
                try simp only [Int.toNat_natCast]
                refine aN (by kernel_rfl : opAt F13.o15 11 = some (none, .store 50 (.tmp 65) (.tmp 60), none)) rfl (a_storeO ho hg65 (by omega) rfl rfl (by kernel_rfl) g60) ?_
                rintro _ w14 ⟨rfl, hs, ho⟩
                refine ⟨(hR.trans hs (by simp)).ext, ?_⟩
                replace hF := hF.st hs
                replace hT := hT.trans hs (by simp)
                replace hd := hd.st hs (by first | decide | (simp <;> omega)) (by first | decide | (simp <;> omega))
                replace hR := hR.trans hs (by simp)
                replace g60 := g60.st hs (by first | decide | (simp <;> omega))
                replace g64 := g64.st hs (by first | decide | (simp <;> omega))
                have hsl : (bl.set z bl[0]).length = bl.length := List.length_set
                refine oI (e' := 50) (by kernel_rfl : opAt F13.o15 12 = some (some 66, .indexAddr 23 (.tmp 57) (.const (.int .i64 0)), none)) rfl rfl ho rfl (by kernel_rfl) rfl (by omega) (by omega) ?_
                intro g66 hg66
                try simp only [Int.toNat_natCast]
                refine Sch.free rfl ?_
                refine aN (by kernel_rfl : opAt F13.o15 13 = some (none, .store 50 (.tmp 66) (.tmp 64), none)) rfl (a_storeO ho hg66 (by omega) rfl rfl (by kernel_rfl) g64) ?_
                rintro _ w15 ⟨rfl, hs, ho⟩
                refine ⟨trivial, ?_⟩
                replace hF := hF.st hs
                replace hT := hT.trans hs (by simp)
                replace hd := hd.st hs (by first | decide | (simp <;> omega)) (by first | decide | (simp <;> omega))
                replace g60 := g60.st hs (by first | decide | (simp <;> omega))
                replace g64 := g64.st hs (by first | decide | (simp <;> omega))
                refine Sch.nil ?_
                refine run_inBlock ?_
                refine run_seq (x := F13.c40) (y := F13.c41) (by kernel_rfl) ?_
                refine run_plain (id := 16) (ops := F13.o16) [(0, true), (1, true)] (by kernel_rfl) (by kernel_rfl) ?_
                refine yS (by kernel_rfl : opAt F13.o16 0 = some (some 67, .move (.tmp 3), none)) rfl rfl (fun w' hS => val_move rfl) ?_
                refine yS (by kernel_rfl : opAt F13.o16 1 = some (some 2, .assign (.tmp 67), none)) rfl rfl (fun w' hS => val_assign rfl) ?_
                refine Sch.nil ?_
                refine run_ret1 (by kernel_rfl) Try.func13 Try.results13 rfl ?_
                exact ⟨_, (by first | omega | (simp only [List.length_set, List.length_append, List.length_cons, List.length_nil]; omega)), hT.out2 (by decide), ho.out hT hF0 (Mc_col2 C i) (fun b _ => col2_lt C i (by decide) b) (by first | omega | (simp only [List.length_set, List.length_append, List.length_cons, List.length_nil]; omega)), hd.out hT hF0 hbc⟩
              · skip
                intro w16 hs
                replace hF := hF.st hs
                replace hT := hT.trans hs (by simp)
                replace hd := hd.st hs (by first | decide | (simp <;> omega)) (by first | decide | (simp <;> omega))
                replace ho := ho.st hs (by first | decide | (simp <;> omega)) (by first | decide | (simp <;> omega))
                show Sch _ _ _ _ _ _ _ [(0, true), (1, true), (2, true), (3, true), (4, true), (6, true), (7, true), (8, true), (9, false), (5, false), (10, true), (11, false), (12, true), (13, false)] _ _
                have hR := Stp.refl [4] w16 (Cb)
                refine yS (by kernel_rfl : opAt F13.o15 0 = some (some 55, .move (.tmp 3), none)) rfl rfl (fun w' hS => val_move rfl) ?_
                refine yS (by kernel_rfl : opAt F13.o15 1 = some (some 56, .move (.tmp 4), none)) rfl rfl (fun w' hS => val_move rfl) ?_
                refine yS (by kernel_rfl : opAt F13.o15 2 = some (some 57, .move (.tmp 3), none)) rfl rfl (fun w' hS => val_move rfl) ?_
                refine yS (by kernel_rfl : opAt F13.o15 3 = some (some 58, .move (.tmp 3), none)) rfl rfl (fun w' hS => val_move rfl) ?_
                refine oI (e' := 50) (by kernel_rfl : opAt F13.o15 4 = some (some 59, .indexAddr 23 (.tmp 58) (.const (.int .i64 0)), none)) rfl rfl ho rfl (by kernel_rfl) rfl (by omega) (by omega) ?_
                intro g59 hg59
                try simp only [Int.toNat_natCast]
                refine yS (by kernel_rfl : opAt F13.o15 6 = some (some 61, .move (.tmp 3), none)) rfl rfl (fun w' hS => val_move rfl) ?_
                refine yS (by kernel_rfl : opAt F13.o15 7 = some (some 62, .move (.tmp 4), none)) rfl rfl (fun w' hS => val_move rfl) ?_
                refine oI (e' := 50) (by kernel_rfl : opAt F13.o15 8 = some (some 63, .indexAddr 23 (.tmp 61) (.tmp 62), none)) rfl rfl ho rfl (by kernel_rfl) rfl (by omega) (by omega) ?_
                intro g63 hg63
                try simp only [Int.toNat_natCast]
                refine oNA (by kernel_rfl : opAt F13.o15 9 = some (some 64, .load 50 (.tmp 63), none)) rfl rfl hR.ext ho hg63 (by omega) (by kernel_rfl) (by kernel_rfl) rfl rfl ?_
                intro v64 g64
                try simp only [Int.toNat_natCast] at g64
                skip
                refine oNA (by kernel_rfl : opAt F13.o15 5 = some (some 60, .load 50 (.tmp 59), none)) rfl rfl hR.ext ho hg59 (by omega) (by kernel_rfl) (by kernel_rfl) rfl rfl ?_
                intro v60 g60
                try simp only [Int.toNat_natCast] at g60
                try simp only [show (0 : Int).toNat = 0 from rfl] at g60
                refine oI (e' := 50) (by kernel_rfl : opAt F13.o15 10 = some (some 65, .indexAddr 23 (.tmp 55) (.tmp 56), none)) rfl rfl ho rfl (by kernel_rfl) rfl (by omega) (by omega) ?_
                intro g65 hg65
                try simp only [Int.toNat_natCast]
                refine aN (by kernel_rfl : opAt F13.o15 11 = some (none, .store 50 (.tmp 65) (.tmp 60), none)) rfl (a_storeO ho hg65 (by omega) rfl rfl (by kernel_rfl) g60) ?_
                rintro _ w17 ⟨rfl, hs, ho⟩
                refine ⟨(hR.trans hs (by simp)).ext, ?_⟩
                replace hF := hF.st hs
                replace hT := hT.trans hs (by simp)
                replace hd := hd.st hs (by first | decide | (simp <;> omega)) (by first | decide | (simp <;> omega))
                replace hR := hR.trans hs (by simp)
                replace g64 := g64.st hs (by first | decide | (simp <;> omega))
                replace g60 := g60.st hs (by first | decide | (simp <;> omega))
                have hsl : (bl.set z bl[0]).length = bl.length := List.length_set
                refine oI (e' := 50) (by kernel_rfl : opAt F13.o15 12 = some (some 66, .indexAddr 23 (.tmp 57) (.const (.int .i64 0)), none)) rfl rfl ho rfl (by kernel_rfl) rfl (by omega) (by omega) ?_
                intro g66 hg66
                try simp only [Int.toNat_natCast]
                refine Sch.free rfl ?_
                refine aN (by kernel_rfl : opAt F13.o15 13 = some (none, .store 50 (.tmp 66) (.tmp 64), none)) rfl (a_storeO ho hg66 (by omega) rfl rfl (by kernel_rfl) g64) ?_
                rintro _ w18 ⟨rfl, hs, ho⟩
                refine ⟨trivial, ?_⟩
                replace hF := hF.st hs
                replace hT := hT.trans hs (by simp)
                replace hd := hd.st hs (by first | decide | (simp <;> omega)) (by first | decide | (simp <;> omega))
                replace g64 := g64.st hs (by first | decide | (simp <;> omega))
                replace g60 := g60.st hs (by first | decide | (simp <;> omega))
                refine Sch.nil ?_
                refine run_inBlock ?_
                refine run_seq (x := F13.c40) (y := F13.c41) (by kernel_rfl) ?_
                refine run_plain (id := 16) (ops := F13.o16) [(0, true), (1, true)] (by kernel_rfl) (by kernel_rfl) ?_
                refine yS (by kernel_rfl : opAt F13.o16 0 = some (some 67, .move (.tmp 3), none)) rfl rfl (fun w' hS => val_move rfl) ?_
                refine yS (by kernel_rfl : opAt F13.o16 1 = some (some 2, .assign (.tmp 67), none)) rfl rfl (fun w' hS => val_assign rfl) ?_
                refine Sch.nil ?_
                refine run_ret1 (by kernel_rfl) Try.func13 Try.results13 rfl ?_
                exact ⟨_, (by first | omega | (simp only [List.length_set, List.length_append, List.length_cons, List.length_nil]; omega)), hT.out2 (by decide), ho.out hT hF0 (Mc_col2 C i) (fun b _ => col2_lt C i (by decide) b) (by first | omega | (simp only [List.length_set, List.length_append, List.length_cons, List.length_nil]; omega)), hd.out hT hF0 hbc⟩
            · skip
              refine run_skip (by kernel_rfl) ?_
              refine run_inBlock ?_
              refine run_seq (x := F13.c40) (y := F13.c41) (by kernel_rfl) ?_
              refine run_plain (id := 16) (ops := F13.o16) [(0, true), (1, true)] (by kernel_rfl) (by kernel_rfl) ?_
              refine yS (by kernel_rfl : opAt F13.o16 0 = some (some 67, .move (.tmp 3), none)) rfl rfl (fun w' hS => val_move rfl) ?_
              refine yS (by kernel_rfl : opAt F13.o16 1 = some (some 2, .assign (.tmp 67), none)) rfl rfl (fun w' hS => val_assign rfl) ?_
              refine Sch.nil ?_
              refine run_ret1 (by kernel_rfl) Try.func13 Try.results13 rfl ?_
              exact ⟨_, (by first | omega | (simp only [List.length_set, List.length_append, List.length_cons, List.length_nil]; omega)), hT.out2 (by decide), ho.out hT hF0 (Mc_col2 C i) (fun b _ => col2_lt C i (by decide) b) (by first | omega | (simp only [List.length_set, List.length_append, List.length_cons, List.length_nil]; omega)), hd.out hT hF0 hbc⟩
end Go.Proofs.Ytfmdkdfhnkennaa

