/- Steps through functions of the program. -/
import Derived.Test.YthdkcbakiiokiaaJG5
set_option linter.unusedVariables false
set_option linter.unusedSimpArgs false
set_option maxRecDepth 100000
set_option maxHeartbeats 4000000
namespace Go.Proofs.Ythdkcbakiiokiaa
open Go.K Go.K.Rep

theorem changes_len {x : Tx} (hx : TokOK x) {k : Nat} (hk : k < x.l.length) {c : UInt8} {t : Tx} (ht : t ∈ changes x.l k [c]) : t.l.length ≤ 9 := by
  have h8 := hx.2.1
  simp only [changes, List.mem_cons, List.not_mem_nil, or_false] at ht
  rcases ht with rfl | rfl | rfl <;> (simp only [List.length_append, List.length_take, List.length_drop, List.length_cons, List.length_nil]; omega)
namespace F5
noncomputable def c0 : Code := bodyOf Try.f5
noncomputable def c1 : Code := cl c0
noncomputable def o0 : Array Oper := rops c1
noncomputable def c2 : Code := cr c0
noncomputable def c3 : Code := cl c2
noncomputable def c4 : Code := cl c3
noncomputable def o1 : Array Oper := rops c4
noncomputable def c5 : Code := cr c3
noncomputable def c6 : Code := cl c5
noncomputable def c7 : Code := cl c6
noncomputable def o2 : Array Oper := rops c7
noncomputable def c8 : Code := cr c6
noncomputable def c9 : Code := cr c5
noncomputable def c10 : Code := cr c2
noncomputable def c11 : Code := cl c10
noncomputable def o3 : Array Oper := rops c11
noncomputable def c12 : Code := cr c10
noncomputable def c13 : Code := cl c12
noncomputable def o4 : Array Oper := rops c13
noncomputable def c14 : Code := cr c12
noncomputable def c15 : Code := cl c14
noncomputable def o5 : Array Oper := rops c15
noncomputable def c16 : Code := cr c14
noncomputable def c17 : Code := cl c16
noncomputable def o6 : Array Oper := rops c17
noncomputable def c18 : Code := cr c16
noncomputable def c19 : Code := cl c18
noncomputable def o7 : Array Oper := rops c19
noncomputable def c20 : Code := cr c18
noncomputable def c21 : Code := cl c20
noncomputable def c22 : Code := cl c21
noncomputable def o8 : Array Oper := rops c22
noncomputable def c23 : Code := cr c21
noncomputable def c24 : Code := cl c23
noncomputable def c25 : Code := cl c24
noncomputable def c26 : Code := cl c25
noncomputable def o9 : Array Oper := rops c26
noncomputable def c27 : Code := cr c25
noncomputable def c28 : Code := cl c27
noncomputable def c29 : Code := cl c28
noncomputable def c30 : Code := cr c28
noncomputable def c31 : Code := cr c27
noncomputable def c32 : Code := cl c31
noncomputable def c33 : Code := cl c32
noncomputable def c34 : Code := cl c33
noncomputable def o10 : Array Oper := rops c34
noncomputable def c35 : Code := cr c33
noncomputable def c36 : Code := cl c35
noncomputable def o11 : Array Oper := rops c36
noncomputable def c37 : Code := cr c35
noncomputable def c38 : Code := cl c37
noncomputable def c39 : Code := cl c38
noncomputable def o12 : Array Oper := rops c39
noncomputable def c40 : Code := cr c38
noncomputable def c41 : Code := cr c37
noncomputable def c42 : Code := cr c31
noncomputable def o13 : Array Oper := rops c42
noncomputable def c43 : Code := cr c20
noncomputable def c44 : Code := cl c43
noncomputable def o14 : Array Oper := rops c44
noncomputable def c45 : Code := cr c43
end F5
/-- The statement's function answers true. -/
theorem gramChange_ok {w₀ : World} {C : Nat → Nat} {l : List Int} {vl : Value} {m n8 : Nat} (hm : m < 256) (hn8 : n8 < 256) (hF : Lim w₀ C) (hl : RV w₀ (Mc C) l vl) : Calls Try.prog 5 #[vl, .int .u8 (m : Int), .int .u8 (n8 : Int)] w₀ (Ret fun v w' => v = .bool true ∧ Stp [] w₀ C w' C) := by
  have hF0 := hF
  have hT := Stp.refl [2, 3, 4, 5, 6, 7, 8, 9] w₀ (col1 C)
  replace hF := hF.col1
  replace hl : RV w₀ (Mc (col1 C)) l vl := by rw [Mc_col1]; exact hl
  refine calls_start (c := F5.c0) (N := 84) [vl, .int .u8 (m : Int), .int .u8 (n8 : Int)] Try.func5 (by kernel_rfl) (by kernel_rfl) (by kernel_rfl) ?_
  show Run _ _ _ _ [(0, vl), (1, .int .u8 (m : Int)), (2, .int .u8 (n8 : Int))] _ _
  refine run_seq (x := F5.c1) (y := F5.c2) (by kernel_rfl) ?_
  refine run_plain (id := 0) (ops := F5.o0) [(0, true)] (by kernel_rfl) (by kernel_rfl) ?_
  refine yS (by kernel_rfl : opAt F5.o0 0 = some (some 6, .assign (.const (.bool false)), none)) rfl rfl (fun w' hS => val_assign rfl) ?_
  refine Sch.nil ?_
  refine run_seq (x := F5.c3) (y := F5.c10) (by kernel_rfl) ?_
  refine run_seq (x := F5.c4) (y := F5.c5) (by kernel_rfl) ?_
  refine run_plain (id := 1) (ops := F5.o1) [(0, false), (1, true), (2, true), (3, true), (4, false), (5, true), (6, true)] (by kernel_rfl) (by kernel_rfl) ?_
  refine cS (by kernel_rfl : opAt F5.o1 0 = some (some 14, .call { callee := .value (.func 8), args := #[], argTypes := #[] }, none)) rfl rfl (ent Try.call8 rfl) (awake_ok hF) ?_
  rintro vw1 w1 ⟨rfl, hs⟩
  refine ⟨trivial, ?_⟩
  replace hF := hF.st hs
  replace hT := hT.trans hs (by simp)
  replace hl := hl.st hs (by first | decide | (simp <;> omega))
  refine yS (by kernel_rfl : opAt F5.o1 1 = some (some 15, .unOp .not 4 (.tmp 14), none)) rfl rfl (fun w' hS => val_not rfl) ?_
  refine yS (by kernel_rfl : opAt F5.o1 2 = some (some 16, .move (.tmp 15), none)) rfl rfl (fun w' hS => val_move rfl) ?_
  refine yS (by kernel_rfl : opAt F5.o1 3 = some (some 17, .move (.tmp 0), (some (2, false)))) rfl rfl (fun w' hS => val_move rfl) ?_
  refine cS (by kernel_rfl : opAt F5.o1 4 = some (some 18, .call { callee := .value (.func 9), args := #[(.tmp 17)], argTypes := #[22] }, (some (2, false)))) rfl rfl (ent Try.call9 rfl) (few_any hl) ?_
  rintro vw2 w2 ⟨rfl, rfl⟩
  refine ⟨trivial, ?_⟩
  refine yS (by kernel_rfl : opAt F5.o1 5 = some (some 19, .unOp .not 4 (.tmp 18), (some (2, false)))) rfl rfl (fun w' hS => val_notd rfl) ?_
  refine yS (by kernel_rfl : opAt F5.o1 6 = some (some 20, .pick (.tmp 16) (.const (.bool true)) (.tmp 19), none)) rfl rfl (fun w' hS => val_pick_f rfl rfl) ?_
  refine Sch.nil ?_
  refine run_if (x := F5.c6) (y := F5.c9) (o := .tmp 20) (by kernel_rfl) rfl (fun h20 => ?_) (fun h20 => ?_)
  · skip
    refine run_seq (x := F5.c7) (y := F5.c8) (by kernel_rfl) ?_
    refine run_plain (id := 2) (ops := F5.o2) [(0, false), (1, true)] (by kernel_rfl) (by kernel_rfl) ?_
    refine cS (by kernel_rfl : opAt F5.o2 0 = some (some 21, .call { callee := .value (.func 8), args := #[], argTypes := #[] }, none)) rfl rfl (ent Try.call8 rfl) (awake_ok hF) ?_
    rintro vw3 w3 ⟨rfl, hs⟩
    refine ⟨trivial, ?_⟩
    replace hF := hF.st hs
    replace hT := hT.trans hs (by simp)
    replace hl := hl.st hs (by first | decide | (simp <;> omega))
    refine yS (by kernel_rfl : opAt F5.o2 1 = some (some 6, .assign (.tmp 21), none)) rfl rfl (fun w' hS => val_assign rfl) ?_
    refine Sch.nil ?_
    refine run_ret1 (by kernel_rfl) Try.func5 Try.results5 rfl ?_
    exact ⟨rfl, hT.out1 (by decide)⟩
  · skip
    refine run_skip (by kernel_rfl) ?_
    refine run_seq (x := F5.c11) (y := F5.c12) (by kernel_rfl) ?_
    refine run_plain (id := 3) (ops := F5.o3) [(0, true), (1, false), (2, true)] (by kernel_rfl) (by kernel_rfl) ?_
    refine yS (by kernel_rfl : opAt F5.o3 0 = some (some 22, .move (.tmp 0), none)) rfl rfl (fun w' hS => val_move rfl) ?_
    refine cS (by kernel_rfl : opAt F5.o3 1 = some (some 23, .call { callee := .value (.func 11), args := #[(.tmp 22)], argTypes := #[22] }, none)) rfl rfl (ent Try.call11 rfl) (new_any hF hl) ?_
    rintro vw4 w4 ⟨Cd, bd, rfl, hs, hF, hd⟩
    refine ⟨trivial, ?_⟩
    replace hT := hT.trans hs (by simp)
    replace hl := hl.st hs (by first | decide | (simp <;> omega))
    refine yS (by kernel_rfl : opAt F5.o3 2 = some (some 7, .assign (.tmp 23), none)) rfl rfl (fun w' hS => val_assign rfl) ?_
    refine Sch.nil ?_
    refine run_seq (x := F5.c13) (y := F5.c14) (by kernel_rfl) ?_
    refine run_plain (id := 4) (ops := F5.o4) [(0, true), (1, false), (2, true)] (by kernel_rfl) (by kernel_rfl) ?_
    refine yS (by kernel_rfl : opAt F5.o4 0 = some (some 24, .move (.tmp 7), none)) rfl rfl (fun w' hS => val_move rfl) ?_
    refine cS (by kernel_rfl : opAt F5.o4 1 = some (some 25, .call { callee := .value (.func 19), args := #[(.tmp 24)], argTypes := #[27] }, none)) rfl rfl (ent Try.call19 rfl) (token_ok hF (by decide) hd) ?_
    rintro vw5 w5 ⟨xt, rfl, hxxt, hs, hd⟩
    refine ⟨trivial, ?_⟩
    replace hF := hF.st hs
    replace hT := hT.trans hs (by simp)
    replace hl := hl.st hs (by first | decide | (simp <;> omega))
    have h8xt := hxxt.2.1
    have h1xt := hxxt.1
    refine yS (by kernel_rfl : opAt F5.o4 2 = some (some 8, .assign (.tmp 25), none)) rfl rfl (fun w' hS => val_assign rfl) ?_
    refine Sch.nil ?_
    refine run_seq (x := F5.c15) (y := F5.c16) (by kernel_rfl) ?_
    refine run_plain (id := 5) (ops := F5.o5) [(0, true), (1, true), (2, true), (3, true), (4, true), (5, true)] (by kernel_rfl) (by kernel_rfl) ?_
    refine yS (by kernel_rfl : opAt F5.o5 0 = some (some 26, .move (.tmp 1), none)) rfl rfl (fun w' hS => val_move rfl) ?_
    refine yS (by kernel_rfl : opAt F5.o5 1 = some (some 27, .convert 5 3 (.tmp 26), none)) rfl rfl (fun w' hS => val_convE (r := (m : Int)) rfl ⟨_, Try.underlying5⟩ Try.underlying3 (wrap_i64 (by omega) (by omega))) ?_
    refine yS (by kernel_rfl : opAt F5.o5 2 = some (some 28, .move (.tmp 8), none)) rfl rfl (fun w' hS => val_move rfl) ?_
    refine yS (by kernel_rfl : opAt F5.o5 3 = some (some 29, .call { callee := .builtin .len, args := #[(.tmp 28)], argTypes := #[9] }, none)) rfl rfl (fun w' hS => val_lenT rfl Try.underlying9) ?_
    refine yS (by kernel_rfl : opAt F5.o5 4 = some (some 30, .binOp .rem 3 (.tmp 27) (.tmp 29) 3, none)) rfl rfl (fun w' hS => val_is (val_modi rfl rfl (by omega) (by omega)) (eq_int (Int.natCast_emod m xt.l.length).symm)) ?_
    obtain ⟨k, hkd⟩ : ∃ k, k = m % xt.l.length := ⟨_, rfl⟩
    rw [← hkd]
    have hk : k < xt.l.length := by rw [hkd]; exact Nat.mod_lt _ (by omega)
    refine yS (by kernel_rfl : opAt F5.o5 5 = some (some 9, .assign (.tmp 30), none)) rfl rfl (fun w' hS => val_assign rfl) ?_
    refine Sch.nil ?_
    refine run_seq (x := F5.c17) (y := F5.c18) (by kernel_rfl) ?_
    refine run_plain (id := 6) (ops := F5.o6) [(0, true), (1, true), (2, true), (3, false), (4, false), (5, true)] (by kernel_rfl) (by kernel_rfl) ?_
    refine yS (by kernel_rfl : opAt F5.o6 0 = some (some 31, .move (.tmp 2), none)) rfl rfl (fun w' hS => val_move rfl) ?_
    refine yS (by kernel_rfl : opAt F5.o6 1 = some (some 32, .binOp .rem 5 (.tmp 31) (.const (.int .u8 26)) 5, none)) rfl rfl (fun w' hS => val_is (val_rem rfl rfl (by decide)) (eq_int (show (n8 : Int).tmod 26 = ((n8 % 26 : Nat) : Int) from by rw [Int.tmod_eq_emod_of_nonneg (by omega)]; omega))) ?_
    obtain ⟨q, hqd⟩ : ∃ q, q = n8 % 26 := ⟨_, rfl⟩
    rw [← hqd]
    have hq : q < 26 := by omega
    refine yS (by kernel_rfl : opAt F5.o6 2 = some (some 33, .binOp .add 5 (.const (.int .u8 97)) (.tmp 32) 5, none)) rfl rfl (fun w' hS => val_add rfl rfl) ?_
    refine aS (by kernel_rfl : opAt F5.o6 3 = some (some 34, .buildSlice 39 1 #[(0, (.tmp 33))], none)) rfl rfl (a_buildSlice (ys := ([⟨IntKind.u8.wrap (97 + (q : Int))⟩] : List U8)) (e := 5) (bytes := 1) hF (by kernel_rfl) rfl (by decide) (by decide) ⟨rfl, ⟨_, rfl, rv_num.2 rfl⟩, trivial⟩) ?_
    rintro v34 w6 ⟨hs, hbs, hF⟩
    refine ⟨trivial, ?_⟩
    replace hT := hT.trans hs (by simp)
    replace hl := hl.st hs (by first | decide | (simp <;> omega))
    replace hd := hd.st hs (by first | decide | (simp <;> omega)) (by first | decide | (simp <;> omega))
    refine nS (by kernel_rfl : opAt F5.o6 4 = some (some 35, .convert 39 9 (.tmp 34), none)) rfl rfl trivial (val_is (val_ofBytes (e := 5) hbs rfl Try.underlying39 Try.underlying5 Try.underlying9 (by simp)) (by rw [letter_bs (by omega)])) ?_
    refine yS (by kernel_rfl : opAt F5.o6 5 = some (some 10, .assign (.tmp 35), none)) rfl rfl (fun w' hS => val_assign rfl) ?_
    refine Sch.nil ?_
    refine run_seq (x := F5.c19) (y := F5.c20) (by kernel_rfl) ?_
    refine run_plain (id := 7) (ops := F5.o7) [(0, true), (1, false), (2, true)] (by kernel_rfl) (by kernel_rfl) ?_
    refine yS (by kernel_rfl : opAt F5.o7 0 = some (some 36, .move (.tmp 8), none)) rfl rfl (fun w' hS => val_move rfl) ?_
    refine cS (by kernel_rfl : opAt F5.o7 1 = some (some 37, .call { callee := .value (.func 15), args := #[(.tmp 36)], argTypes := #[9] }, none)) rfl rfl (ent Try.call15 rfl) (grams_ok hF (by omega)) ?_
    rintro vhA w7 ⟨hs, hA⟩
    refine ⟨trivial, ?_⟩
    replace hF := hF.st hs
    replace hT := hT.trans hs (by simp)
    replace hl := hl.st hs (by first | decide | (simp <;> omega))
    replace hd := hd.st hs (by first | decide | (simp <;> omega)) (by first | decide | (simp <;> omega))
    replace hbs := hbs.st hs (by first | decide | (simp <;> omega))
    refine yS (by kernel_rfl : opAt F5.o7 2 = some (some 11, .assign (.tmp 37), none)) rfl rfl (fun w' hS => val_assign rfl) ?_
    refine Sch.nil ?_
    refine run_seq (x := F5.c21) (y := F5.c43) (by kernel_rfl) ?_
    refine run_seq (x := F5.c22) (y := F5.c23) (by kernel_rfl) ?_
    refine run_draw (id := 8) (ops := F5.o8) [] (Cd) [(0, true), (1, true), (2, true), (3, true), (4, true), (5, true), (6, true), (7, true), (8, true), (9, true), (10, true), (11, true), (12, true), (13, true), (14, true), (15, true), (16, true), (17, true), (18, true), (19, true), (20, true), (21, true), (22, true), (23, true), (24, true), (25, true), (26, true), (29, true), (27, false), (28, true)] Try_mixed (by kernel_rfl) (by kernel_rfl) (by kernel_rfl) ?_
    intro w8 hs
    replace hF := hF.st hs
    replace hT := hT.trans hs (by simp)
    replace hl := hl.st hs (by first | decide | (simp <;> omega))
    replace hd := hd.st hs (by first | decide | (simp <;> omega)) (by first | decide | (simp <;> omega))
    replace hbs := hbs.st hs (by first | decide | (simp <;> omega))
    replace hA := hA.st hs (by first | decide | (simp <;> omega))
    have hR := Stp.refl [] w8 (Cd)
    refine yS (by kernel_rfl : opAt F5.o8 0 = some (some 38, .move (.tmp 8), none)) rfl rfl (fun w' hS => val_move rfl) ?_
    refine yS (by kernel_rfl : opAt F5.o8 1 = some (some 39, .move (.tmp 9), none)) rfl rfl (fun w' hS => val_move rfl) ?_
    refine yS (by kernel_rfl : opAt F5.o8 2 = some (some 40, .slice 9 (.tmp 38) none (some (.tmp 39)) none, none)) rfl rfl (fun w' hS => val_subToN rfl rfl Try.underlying9 (by omega)) ?_
    refine yS (by kernel_rfl : opAt F5.o8 3 = some (some 41, .move (.tmp 10), none)) rfl rfl (fun w' hS => val_move rfl) ?_
    refine yS (by kernel_rfl : opAt F5.o8 4 = some (some 42, .binOp .add 9 (.tmp 40) (.tmp 41) 9, none)) rfl rfl (fun w' hS => val_cat rfl rfl (by simp only [List.length_append, List.length_take, List.length_drop, List.length_cons, List.length_nil]; omega)) ?_
    refine yS (by kernel_rfl : opAt F5.o8 5 = some (some 43, .move (.tmp 8), none)) rfl rfl (fun w' hS => val_move rfl) ?_
    refine yS (by kernel_rfl : opAt F5.o8 6 = some (some 44, .move (.tmp 9), none)) rfl rfl (fun w' hS => val_move rfl) ?_
    refine yS (by kernel_rfl : opAt F5.o8 7 = some (some 45, .binOp .add 3 (.tmp 44) (.const (.int .i64 1)) 3, none)) rfl rfl (fun w' hS => val_addi rfl rfl (by omega) (by omega)) ?_
    refine yS (by kernel_rfl : opAt F5.o8 8 = some (some 46, .slice 9 (.tmp 43) (some (.tmp 45)) none none, none)) rfl rfl (fun w' hS => val_subFromE (r := xt.l.drop (k + 1)) rfl rfl Try.underlying9 (by omega) (by omega) (by rw [show ((k : Int) + 1).toNat = k + 1 from by omega])) ?_
    refine yS (by kernel_rfl : opAt F5.o8 9 = some (some 47, .binOp .add 9 (.tmp 42) (.tmp 46) 9, none)) rfl rfl (fun w' hS => val_cat rfl rfl (by simp only [List.length_append, List.length_take, List.length_drop, List.length_cons, List.length_nil]; omega)) ?_
    refine yS (by kernel_rfl : opAt F5.o8 10 = some (some 48, .move (.tmp 8), none)) rfl rfl (fun w' hS => val_move rfl) ?_
    refine yS (by kernel_rfl : opAt F5.o8 11 = some (some 49, .move (.tmp 9), none)) rfl rfl (fun w' hS => val_move rfl) ?_
    refine yS (by kernel_rfl : opAt F5.o8 12 = some (some 50, .slice 9 (.tmp 48) none (some (.tmp 49)) none, none)) rfl rfl (fun w' hS => val_subToN rfl rfl Try.underlying9 (by omega)) ?_
    refine yS (by kernel_rfl : opAt F5.o8 13 = some (some 51, .move (.tmp 10), none)) rfl rfl (fun w' hS => val_move rfl) ?_
    refine yS (by kernel_rfl : opAt F5.o8 14 = some (some 52, .binOp .add 9 (.tmp 50) (.tmp 51) 9, none)) rfl rfl (fun w' hS => val_cat rfl rfl (by simp only [List.length_append, List.length_take, List.length_drop, List.length_cons, List.length_nil]; omega)) ?_
    refine yS (by kernel_rfl : opAt F5.o8 15 = some (some 53, .move (.tmp 8), none)) rfl rfl (fun w' hS => val_move rfl) ?_
    refine yS (by kernel_rfl : opAt F5.o8 16 = some (some 54, .move (.tmp 9), none)) rfl rfl (fun w' hS => val_move rfl) ?_
    refine yS (by kernel_rfl : opAt F5.o8 17 = some (some 55, .slice 9 (.tmp 53) (some (.tmp 54)) none none, none)) rfl rfl (fun w' hS => val_subFromN rfl rfl Try.underlying9 (by omega)) ?_
    refine yS (by kernel_rfl : opAt F5.o8 18 = some (some 56, .binOp .add 9 (.tmp 52) (.tmp 55) 9, none)) rfl rfl (fun w' hS => val_cat rfl rfl (by simp only [List.length_append, List.length_take, List.length_drop, List.length_cons, List.length_nil]; omega)) ?_
    refine yS (by kernel_rfl : opAt F5.o8 19 = some (some 57, .move (.tmp 8), none)) rfl rfl (fun w' hS => val_move rfl) ?_
    refine yS (by kernel_rfl : opAt F5.o8 20 = some (some 58, .move (.tmp 9), none)) rfl rfl (fun w' hS => val_move rfl) ?_
    refine yS (by kernel_rfl : opAt F5.o8 21 = some (some 59, .slice 9 (.tmp 57) none (some (.tmp 58)) none, none)) rfl rfl (fun w' hS => val_subToN rfl rfl Try.underlying9 (by omega)) ?_
    refine yS (by kernel_rfl : opAt F5.o8 22 = some (some 60, .move (.tmp 8), none)) rfl rfl (fun w' hS => val_move rfl) ?_
    refine yS (by kernel_rfl : opAt F5.o8 23 = some (some 61, .move (.tmp 9), none)) rfl rfl (fun w' hS => val_move rfl) ?_
    refine yS (by kernel_rfl : opAt F5.o8 24 = some (some 62, .binOp .add 3 (.tmp 61) (.const (.int .i64 1)) 3, none)) rfl rfl (fun w' hS => val_addi rfl rfl (by omega) (by omega)) ?_
    refine yS (by kernel_rfl : opAt F5.o8 25 = some (some 63, .slice 9 (.tmp 60) (some (.tmp 62)) none none, none)) rfl rfl (fun w' hS => val_subFromE (r := xt.l.drop (k + 1)) rfl rfl Try.underlying9 (by omega) (by omega) (by rw [show ((k : Int) + 1).toNat = k + 1 from by omega])) ?_
    refine yS (by kernel_rfl : opAt F5.o8 26 = some (some 64, .binOp .add 9 (.tmp 59) (.tmp 63) 9, none)) rfl rfl (fun w' hS => val_cat rfl rfl (by simp only [List.length_append, List.length_take, List.length_drop, List.length_cons, List.length_nil]; omega)) ?_
    refine yS (by kernel_rfl : opAt F5.o8 29 = some (some 67, .move (.const (.int .i64 0)), none)) rfl rfl (fun w' hS => val_move rfl) ?_
    refine aS (by kernel_rfl : opAt F5.o8 27 = some (some 65, .buildSlice 23 3 #[(0, (.tmp 47)), (1, (.tmp 56)), (2, (.tmp 64))], none)) rfl rfl (a_buildSlice (ys := (changes xt.l k [UInt8.ofNat (97 + q)])) (e := 9) (bytes := 16) hF (by kernel_rfl) rfl (by decide) (by decide) ⟨rfl, ⟨_, rfl, rv_tx.2 ⟨rfl, by simp only [List.length_append, List.length_take, List.length_drop, List.length_cons, List.length_nil]; omega⟩⟩, rfl, ⟨_, rfl, rv_tx.2 ⟨rfl, by simp only [List.length_append, List.length_take, List.length_drop, List.length_cons, List.length_nil]; omega⟩⟩, rfl, ⟨_, rfl, rv_tx.2 ⟨rfl, by simp only [List.length_append, List.length_take, List.length_drop, List.length_cons, List.length_nil]; omega⟩⟩, trivial⟩) ?_
    rintro v65 w9 ⟨hs, hch, hF⟩
    refine ⟨(hR.trans hs (by simp)).ext, ?_⟩
    replace hT := hT.trans hs (by simp)
    replace hl := hl.st hs (by first | decide | (simp <;> omega))
    replace hd := hd.st hs (by first | decide | (simp <;> omega)) (by first | decide | (simp <;> omega))
    replace hbs := hbs.st hs (by first | decide | (simp <;> omega))
    replace hA := hA.st hs (by first | decide | (simp <;> omega))
    replace hR := hR.trans hs (by simp)
    refine yS (by kernel_rfl : opAt F5.o8 28 = some (some 66, .call { callee := .builtin .len, args := #[(.tmp 65)], argTypes := #[23] }, none)) rfl rfl (fun w' hS => hch.lenV rfl Try.underlying23 w' ) ?_
    refine Sch.nil ?_
    refine run_block (x := F5.c24) (id := 0) (by kernel_rfl) ?_
    have hcl : (changes xt.l k [UInt8.ofNat (97 + q)]).length = 3 := rfl
    refine run_loop (ι := Nat × (Nat → Nat)) (I := fun x w => x.1 ≤ 3 ∧ Lim w x.2 ∧ Stp [2, 3, 4, 5, 6, 7, 8, 9] w₀ (col1 C) w x.2 ∧ RV w (Mc x.2) (gramsT xt.l) vhA ∧ RV w (Mc x.2) (changes xt.l k [UInt8.ofNat (97 + q)]) v65) (e := fun x => [(11, vhA), (65, v65), (66, .int .i64 (3 : Nat)), (67, .int .i64 x.1)]) (m := fun x => 3 - x.1) (x₀ := (0, Cd)) (body := F5.c25) (by kernel_rfl) (sub_cons 11 rfl rfl (sub_cons 65 rfl rfl (sub_cons 66 rfl rfl (sub_cons 67 rfl rfl (sub_nil _))))) ?_ ?_
    · exact ⟨Nat.zero_le _, hF, hT, hA, hch⟩
    intro ⟨p, C1⟩ w10 hI next
    obtain ⟨hp, hF, hT, hA, hch⟩ := hI
    try simp only at hp hF hT hA hch
    have next1 := next
    clear next
    show Run _ _ _ _ [(11, vhA), (65, v65), (66, .int .i64 (3 : Nat)), (67, .int .i64 p)] _ _
    refine run_seq (x := F5.c26) (y := F5.c27) (by kernel_rfl) ?_
    refine run_plain (id := 9) (ops := F5.o9) [(0, true)] (by kernel_rfl) (by kernel_rfl) ?_
    refine yS (by kernel_rfl : opAt F5.o9 0 = some (some 68, .binOp .lss 3 (.tmp 67) (.tmp 66) 3, none)) rfl rfl (fun w' hS => val_lss rfl rfl) ?_
    refine Sch.nil ?_
    refine run_seq (x := F5.c28) (y := F5.c31) (by kernel_rfl) ?_
    refine run_if (x := F5.c29) (y := F5.c30) (o := .tmp 68) (by kernel_rfl) rfl (fun h68 => ?_) (fun h68 => ?_)
    · skip
      have hpl : p < (changes xt.l k [UInt8.ofNat (97 + q)]).length := by omega
      refine run_skip (by kernel_rfl) ?_
      refine run_seq (x := F5.c32) (y := F5.c42) (by kernel_rfl) ?_
      refine run_block (x := F5.c33) (id := 1) (by kernel_rfl) ?_
      refine run_seq (x := F5.c34) (y := F5.c35) (by kernel_rfl) ?_
      refine run_plain (id := 10) (ops := F5.o10) [(0, true), (1, false), (2, true)] (by kernel_rfl) (by kernel_rfl) ?_
      refine iS (e := 9) (by kernel_rfl : opAt F5.o10 0 = some (some 69, .indexAddr 23 (.tmp 65) (.tmp 67), none)) rfl rfl hch rfl (by kernel_rfl) rfl (by omega) (by omega) ?_
      intro b69 o69 h69
      try simp only [Int.toNat_natCast] at h69
      refine lN (by kernel_rfl : opAt F5.o10 1 = some (some 70, .load 9 (.tmp 69), none)) rfl rfl trivial h69 (by kernel_rfl) rfl rfl ?_
      intro v70 g70
      obtain ⟨rfl, hb70⟩ := rv_tx.1 g70
      refine yS (by kernel_rfl : opAt F5.o10 2 = some (some 13, .assign (.tmp 70), none)) rfl rfl (fun w' hS => val_assign rfl) ?_
      refine Sch.nil ?_
      obtain ⟨t, ht⟩ : ∃ t, t = (changes xt.l k [UInt8.ofNat (97 + q)])[p]'hpl := ⟨_, rfl⟩
      rw [← ht] at hb70 ⊢
      have htm : t ∈ (changes xt.l k [UInt8.ofNat (97 + q)]) := by rw [ht]; exact List.getElem_mem _
      have htl := changes_len hxxt hk htm
      refine run_seq (x := F5.c36) (y := F5.c37) (by kernel_rfl) ?_
      refine run_cut 82 (false) (C1) ?_ ?_
      · intro hcut
        by_cases hA0 : t.l ≠ []
        · skip
          refine run_plain (id := 11) (ops := F5.o11) [(0, true), (1, true), (2, true), (3, true), (4, true), (5, false), (6, false), (7, true), (8, true), (9, true), (10, true), (11, true)] (by kernel_rfl) (by kernel_rfl) ?_
          have hcs := Stp.reflF hF
          refine yS (by kernel_rfl : opAt F5.o11 0 = some (some 71, .move (.tmp 13), none)) rfl rfl (fun w' hS => val_move rfl) ?_
          refine yS (by kernel_rfl : opAt F5.o11 1 = some (some 72, .binOp .neq 9 (.tmp 71) (.const (.string ⟨#[]⟩)) 9, none)) rfl rfl (fun w' hS => val_T (val_neT rfl rfl) hA0) ?_
          refine yS (by kernel_rfl : opAt F5.o11 2 = some (some 73, .move (.tmp 72), none)) rfl rfl (fun w' hS => val_move rfl) ?_
          refine yS (by kernel_rfl : opAt F5.o11 3 = some (some 74, .move (.tmp 11), (some (2, true)))) rfl rfl (fun w' hS => val_move rfl) ?_
          refine yS (by kernel_rfl : opAt F5.o11 4 = some (some 75, .move (.tmp 13), (some (2, true)))) rfl rfl (fun w' hS => val_move rfl) ?_
          refine cS (by kernel_rfl : opAt F5.o11 5 = some (some 76, .call { callee := .value (.func 15), args := #[(.tmp 75)], argTypes := #[9] }, (some (2, true)))) rfl rfl (ent Try.call15 rfl) (grams_ok hF (by omega)) ?_
          rintro vhG w11 ⟨hs, hG⟩
          refine ⟨trivial, ?_⟩
          replace hF := hF.st hs
          replace hT := hT.trans hs (by simp)
          replace hA := hA.st hs (by first | decide | (simp <;> omega))
          replace hch := hch.st hs (by first | decide | (simp <;> omega))
          replace h69 := h69.st hs (by first | decide | (simp <;> omega))
          replace hcs := hcs.trans hs (by simp)
          refine cS (by kernel_rfl : opAt F5.o11 6 = some (some 77, .call { callee := .value (.func 20), args := #[(.tmp 74), (.tmp 76)], argTypes := #[23, 23] }, (some (2, true)))) rfl rfl (ent Try.call20 rfl) (common_ok hF hA hG (by have := grams_len xt.l; omega) (by have := grams_len t.l; omega)) ?_
          rintro vw12 w12 ⟨rfl, hs⟩
          refine ⟨trivial, ?_⟩
          replace hF := hF.st hs
          replace hT := hT.trans hs (by simp)
          replace hA := hA.st hs (by first | decide | (simp <;> omega))
          replace hch := hch.st hs (by first | decide | (simp <;> omega))
          replace h69 := h69.st hs (by first | decide | (simp <;> omega))
          replace hcs := hcs.trans hs (by simp)
          replace hG := hG.st hs (by first | decide | (simp <;> omega))
          refine yS (by kernel_rfl : opAt F5.o11 7 = some (some 78, .move (.tmp 11), (some (2, true)))) rfl rfl (fun w' hS => val_move rfl) ?_
          refine yS (by kernel_rfl : opAt F5.o11 8 = some (some 79, .call { callee := .builtin .len, args := #[(.tmp 78)], argTypes := #[23] }, (some (2, true)))) rfl rfl (fun w' hS => hA.lenV rfl Try.underlying23 w' ) ?_
          have hgx := grams_len xt.l
          refine yS (by kernel_rfl : opAt F5.o11 9 = some (some 80, .binOp .sub 3 (.tmp 79) (.const (.int .i64 2)) 3, (some (2, true)))) rfl rfl (fun w' hS => val_subi rfl rfl (by omega) (by omega)) ?_
          refine yS (by kernel_rfl : opAt F5.o11 10 = some (some 81, .binOp .lss 3 (.tmp 77) (.tmp 80) 3, (some (2, true)))) rfl rfl (fun w' hS => val_F (val_lss rfl rfl) (by have := changes_law hxxt hk (letter_in hq) htm hA0; omega)) ?_
          refine yS (by kernel_rfl : opAt F5.o11 11 = some (some 82, .pick (.tmp 73) (.tmp 81) (.const (.bool false)), none)) rfl rfl (fun w' hS => val_pick_t rfl rfl) ?_
          exact Sch.nil (hcut _ _ _ hcs rfl (rfl) (sub_skip rfl (sub_skip rfl (sub_skip rfl (sub_skip rfl (sub_skip rfl (sub_skip rfl (sub_skip rfl (sub_skip rfl (sub_skip rfl (sub_skip rfl (sub_skip rfl (sub_skip rfl (Sub.refl _))))))))))))))
        · skip
          refine run_plain (id := 11) (ops := F5.o11) [(0, true), (1, true), (2, true), (3, true), (4, true), (5, false), (6, false), (7, true), (8, true), (9, true), (10, true), (11, true)] (by kernel_rfl) (by kernel_rfl) ?_
          have hcs := Stp.reflF hF
          refine yS (by kernel_rfl : opAt F5.o11 0 = some (some 71, .move (.tmp 13), none)) rfl rfl (fun w' hS => val_move rfl) ?_
          refine yS (by kernel_rfl : opAt F5.o11 1 = some (some 72, .binOp .neq 9 (.tmp 71) (.const (.string ⟨#[]⟩)) 9, none)) rfl rfl (fun w' hS => val_F (val_neT rfl rfl) (fun e => hA0 e)) ?_
          refine yS (by kernel_rfl : opAt F5.o11 2 = some (some 73, .move (.tmp 72), none)) rfl rfl (fun w' hS => val_move rfl) ?_
          refine pS (by kernel_rfl : opAt F5.o11 3 = some (some 74, .move (.tmp 11), (some (2, true)))) rfl rfl ?_
          refine pS (by kernel_rfl : opAt F5.o11 4 = some (some 75, .move (.tmp 13), (some (2, true)))) rfl rfl ?_
          refine pW (by kernel_rfl : opAt F5.o11 5 = some (some 76, .call { callee := .value (.func 15), args := #[(.tmp 75)], argTypes := #[9] }, (some (2, true)))) rfl rfl trivial ?_
          refine pW (by kernel_rfl : opAt F5.o11 6 = some (some 77, .call { callee := .value (.func 20), args := #[(.tmp 74), (.tmp 76)], argTypes := #[23, 23] }, (some (2, true)))) rfl rfl trivial ?_
          refine pS (by kernel_rfl : opAt F5.o11 7 = some (some 78, .move (.tmp 11), (some (2, true)))) rfl rfl ?_
          refine pS (by kernel_rfl : opAt F5.o11 8 = some (some 79, .call { callee := .builtin .len, args := #[(.tmp 78)], argTypes := #[23] }, (some (2, true)))) rfl rfl ?_
          refine pS (by kernel_rfl : opAt F5.o11 9 = some (some 80, .binOp .sub 3 (.tmp 79) (.const (.int .i64 2)) 3, (some (2, true)))) rfl rfl ?_
          refine pS (by kernel_rfl : opAt F5.o11 10 = some (some 81, .binOp .lss 3 (.tmp 77) (.tmp 80) 3, (some (2, true)))) rfl rfl ?_
          refine yS (by kernel_rfl : opAt F5.o11 11 = some (some 82, .pick (.tmp 73) (.tmp 81) (.const (.bool false)), none)) rfl rfl (fun w' hS => val_pick_f rfl rfl) ?_
          exact Sch.nil (hcut _ _ _ hcs rfl (rfl) (sub_skip rfl (sub_skip rfl (sub_skip rfl (sub_skip rfl (sub_skip rfl (sub_skip rfl (sub_skip rfl (sub_skip rfl (sub_skip rfl (sub_skip rfl (sub_skip rfl (sub_skip rfl (Sub.refl _))))))))))))))
      intro w13 hs
      replace hF := hF.st hs
      replace hT := hT.trans hs (by simp)
      replace hA := hA.st hs (by first | decide | (simp <;> omega))
      replace hch := hch.st hs (by first | decide | (simp <;> omega))
      replace h69 := h69.st hs (by first | decide | (simp <;> omega))
      refine run_cond (x := F5.c38) (y := F5.c41) (o := .tmp 82) (b := false) (by kernel_rfl) rfl (fun h => by cases h) (fun _ => ?_)
      refine run_skip (by kernel_rfl) ?_
      refine run_inBlock ?_
      refine run_plain (id := 13) (ops := F5.o13) [(0, true), (1, true)] (by kernel_rfl) (by kernel_rfl) ?_
      refine yS (by kernel_rfl : opAt F5.o13 0 = some (some 83, .binOp .add 3 (.tmp 67) (.const (.int .i64 1)) 3, none)) rfl rfl (fun w' hS => val_addi rfl rfl (by omega) (by omega)) ?_
      refine yS (by kernel_rfl : opAt F5.o13 1 = some (some 67, .move (.tmp 83), none)) rfl rfl (fun w' hS => val_move rfl) ?_
      refine Sch.nil ?_
      refine kp (sub_cons 11 rfl rfl (sub_cons 65 rfl rfl (sub_cons 66 rfl rfl (sub_cons 67 rfl (eq_int (by simp)) (sub_nil _))))) (next1 (p + 1, C1) _ ⟨(by first | omega | (simp only; omega)), hF, hT, hA, hch⟩ (by first | omega | (simp only; omega)))
    · skip
      refine run_exit (id := 0) (by kernel_rfl) rfl ?_
      refine run_seq (x := F5.c44) (y := F5.c45) (by kernel_rfl) ?_
      refine run_plain (id := 14) (ops := F5.o14) [(0, true)] (by kernel_rfl) (by kernel_rfl) ?_
      refine yS (by kernel_rfl : opAt F5.o14 0 = some (some 6, .assign (.const (.bool true)), none)) rfl rfl (fun w' hS => val_assign rfl) ?_
      refine Sch.nil ?_
      refine run_ret1 (by kernel_rfl) Try.func5 Try.results5 rfl ?_
      exact ⟨rfl, hT.out1 (by decide)⟩
end Go.Proofs.Ythdkcbakiiokiaa
