/- Steps through functions of the program. -/
import Derived.Test.YthdkcbakiiokiaaJG7
set_option linter.unusedVariables false
set_option linter.unusedSimpArgs false
set_option maxRecDepth 100000
set_option maxHeartbeats 4000000
namespace Go.Proofs.Ythdkcbakiiokiaa
open Go.K Go.K.Rep

def sixL (s t : List UInt8) : List Tx := [⟨s⟩, ⟨t⟩, ⟨t ++ s⟩, ⟨[49, 57, 56, 48, 48, 50, 48, 51]⟩, ⟨[97, 98, 99, 100, 101, 102, 103, 104, 105, 106, 107, 108, 109, 110, 111, 112, 113, 114, 115, 116, 117, 118, 119, 120, 121, 122]⟩, ⟨[97, 98, 99, 100, 101, 102, 103, 104, 105, 106, 107, 108, 109, 110, 111, 112, 113, 114, 115, 116, 117, 118, 119, 120, 121, 122, 49]⟩]
theorem six_len {s : List UInt8} {x : Tx} (hs : s.length ≤ 200) (hx : x.l.length ≤ 200) : ∀ z ∈ sixL s x.l, z.l.length ≤ 400 := fun z hz => by
  simp only [sixL, List.mem_cons, List.not_mem_nil, or_false] at hz
  rcases hz with rfl | rfl | rfl | rfl | rfl | rfl
  · simp only; omega
  · simp only; omega
  · simp only [List.length_append]; omega
  all_goals decide
theorem three_ok {a b : List Tx} {s : List UInt8} (hC : a.length ≤ 60) (hD : b.length ≤ 60) (hE : ∀ y ∈ a, y.l.length ≤ 200) (hG : ∀ y ∈ b, y.l.length ≤ 200) : ∀ z ∈ ([a, gramsT s, b] : List (List Tx)), z.length ≤ 4225 ∧ ∀ y ∈ z, y.l.length ≤ 200 := fun z hz => by
  simp only [List.mem_cons, List.not_mem_nil, or_false] at hz
  rcases hz with rfl | rfl | rfl
  · exact ⟨by omega, hE⟩
  · exact ⟨grams_len s, fun y hy => by have := grams_short hy; omega⟩
  · exact ⟨by omega, hG⟩
theorem three_ok2 {b : List Tx} {s t : List UInt8} (hD : b.length ≤ 60) (hG : ∀ y ∈ b, y.l.length ≤ 200) : ∀ z ∈ ([b, gramsT s, gramsT t] : List (List Tx)), z.length ≤ 4225 ∧ ∀ y ∈ z, y.l.length ≤ 200 := fun z hz => by
  simp only [List.mem_cons, List.not_mem_nil, or_false] at hz
  rcases hz with rfl | rfl | rfl
  · exact ⟨by omega, hG⟩
  · exact ⟨grams_len s, fun y hy => by have := grams_short hy; omega⟩
  · exact ⟨grams_len t, fun y hy => by have := grams_short hy; omega⟩
namespace F3
noncomputable def c0 : Code := bodyOf Try.f3
noncomputable def c1 : Code := cl c0
noncomputable def o0 : Array Oper := rops c1
noncomputable def c2 : Code := cr c0
noncomputable def c3 : Code := cl c2
noncomputable def c4 : Code := cl c3
noncomputable def o1 : Array Oper := rops c4
noncomputable def c5 : Code := cr c3
noncomputable def c6 : Code := cl c5
noncomputable def c7 : Code := cl c6
noncomputable def o2 : Array Oper := rops c7
noncomputable def c8 : Code := cr c6
noncomputable def c9 : Code := cr c5
noncomputable def c10 : Code := cr c2
noncomputable def c11 : Code := cl c10
noncomputable def o3 : Array Oper := rops c11
noncomputable def c12 : Code := cr c10
noncomputable def c13 : Code := cl c12
noncomputable def o4 : Array Oper := rops c13
noncomputable def c14 : Code := cr c12
noncomputable def c15 : Code := cl c14
noncomputable def c16 : Code := cl c15
noncomputable def o5 : Array Oper := rops c16
noncomputable def c17 : Code := cr c15
noncomputable def c18 : Code := cl c17
noncomputable def c19 : Code := cl c18
noncomputable def c20 : Code := cl c19
noncomputable def o6 : Array Oper := rops c20
noncomputable def c21 : Code := cr c19
noncomputable def c22 : Code := cl c21
noncomputable def c23 : Code := cl c22
noncomputable def c24 : Code := cr c22
noncomputable def c25 : Code := cr c21
noncomputable def c26 : Code := cl c25
noncomputable def c27 : Code := cl c26
noncomputable def c28 : Code := cl c27
noncomputable def o7 : Array Oper := rops c28
noncomputable def c29 : Code := cr c27
noncomputable def c30 : Code := cl c29
noncomputable def o8 : Array Oper := rops c30
noncomputable def c31 : Code := cr c29
noncomputable def c32 : Code := cl c31
noncomputable def c33 : Code := cl c32
noncomputable def o9 : Array Oper := rops c33
noncomputable def c34 : Code := cr c32
noncomputable def c35 : Code := cr c31
noncomputable def c36 : Code := cr c25
noncomputable def o10 : Array Oper := rops c36
noncomputable def c37 : Code := cr c14
noncomputable def c38 : Code := cl c37
noncomputable def o11 : Array Oper := rops c38
noncomputable def c39 : Code := cr c37
noncomputable def c40 : Code := cl c39
noncomputable def c41 : Code := cl c40
noncomputable def o12 : Array Oper := rops c41
noncomputable def c42 : Code := cr c40
noncomputable def c43 : Code := cl c42
noncomputable def c44 : Code := cl c43
noncomputable def c45 : Code := cl c44
noncomputable def o13 : Array Oper := rops c45
noncomputable def c46 : Code := cr c44
noncomputable def c47 : Code := cl c46
noncomputable def c48 : Code := cl c47
noncomputable def c49 : Code := cr c47
noncomputable def c50 : Code := cr c46
noncomputable def c51 : Code := cl c50
noncomputable def c52 : Code := cl c51
noncomputable def c53 : Code := cl c52
noncomputable def o14 : Array Oper := rops c53
noncomputable def c54 : Code := cr c52
noncomputable def c55 : Code := cl c54
noncomputable def c56 : Code := cl c55
noncomputable def o15 : Array Oper := rops c56
noncomputable def c57 : Code := cr c55
noncomputable def c58 : Code := cl c57
noncomputable def c59 : Code := cl c58
noncomputable def c60 : Code := cl c59
noncomputable def o16 : Array Oper := rops c60
noncomputable def c61 : Code := cr c59
noncomputable def c62 : Code := cl c61
noncomputable def c63 : Code := cl c62
noncomputable def c64 : Code := cr c62
noncomputable def c65 : Code := cr c61
noncomputable def c66 : Code := cl c65
noncomputable def c67 : Code := cl c66
noncomputable def c68 : Code := cl c67
noncomputable def o17 : Array Oper := rops c68
noncomputable def c69 : Code := cr c67
noncomputable def c70 : Code := cl c69
noncomputable def o18 : Array Oper := rops c70
noncomputable def c71 : Code := cr c69
noncomputable def c72 : Code := cl c71
noncomputable def c73 : Code := cl c72
noncomputable def o19 : Array Oper := rops c73
noncomputable def c74 : Code := cr c72
noncomputable def c75 : Code := cr c71
noncomputable def c76 : Code := cr c65
noncomputable def o20 : Array Oper := rops c76
noncomputable def c77 : Code := cr c54
noncomputable def c78 : Code := cl c77
noncomputable def o21 : Array Oper := rops c78
noncomputable def c79 : Code := cr c77
noncomputable def c80 : Code := cl c79
noncomputable def c81 : Code := cl c80
noncomputable def o22 : Array Oper := rops c81
noncomputable def c82 : Code := cr c80
noncomputable def c83 : Code := cr c79
noncomputable def c84 : Code := cr c50
noncomputable def o23 : Array Oper := rops c84
noncomputable def c85 : Code := cr c39
noncomputable def c86 : Code := cl c85
noncomputable def o24 : Array Oper := rops c86
noncomputable def c87 : Code := cr c85
end F3
/-- The statement's function answers true. -/
theorem gramExact_ok {w₀ : World} {C : Nat → Nat} {l : List Int} {vl va vb : Value} {s : List UInt8} {a b : List Tx} (hsm : s.length ≤ 9223372036854775807) (hF : Lim w₀ C) (hl : RV w₀ (Mc C) l vl) (ha : RV w₀ (Mc C) a va) (hbb : RV w₀ (Mc C) b vb) : Calls Try.prog 3 #[vl, bs s, va, vb] w₀ (Ret fun v w' => v = .bool true ∧ Stp [] w₀ C w' C) := by
  have hF0 := hF
  have hT := Stp.refl [2, 3, 4, 5, 6, 7, 8, 9] w₀ (col1 C)
  replace hF := hF.col1
  replace hl : RV w₀ (Mc (col1 C)) l vl := by rw [Mc_col1]; exact hl
  replace ha : RV w₀ (Mc (col1 C)) a va := by rw [Mc_col1]; exact ha
  replace hbb : RV w₀ (Mc (col1 C)) b vb := by rw [Mc_col1]; exact hbb
  refine calls_start (c := F3.c0) (N := 136) [vl, bs s, va, vb] Try.func3 (by kernel_rfl) (by kernel_rfl) (by kernel_rfl) ?_
  show Run _ _ _ _ [(0, vl), (1, bs s), (2, va), (3, vb)] _ _
  refine run_seq (x := F3.c1) (y := F3.c2) (by kernel_rfl) ?_
  refine run_plain (id := 0) (ops := F3.o0) [(0, true)] (by kernel_rfl) (by kernel_rfl) ?_
  refine yS (by kernel_rfl : opAt F3.o0 0 = some (some 8, .assign (.const (.bool false)), none)) rfl rfl (fun w' hS => val_assign rfl) ?_
  refine Sch.nil ?_
  refine run_seq (x := F3.c3) (y := F3.c10) (by kernel_rfl) ?_
  refine run_seq (x := F3.c4) (y := F3.c5) (by kernel_rfl) ?_
  by_cases hA : (l.length : Int) ≤ 400
  · skip
    by_cases hB : ∀ y ∈ ([⟨s⟩] : List Tx), y.l.length ≤ 200
    · skip
      by_cases hC : a.length ≤ 60
      · skip
        by_cases hD : b.length ≤ 60
        · skip
          by_cases hE : ∀ y ∈ a, y.l.length ≤ 200
          · skip
            by_cases hG : ∀ y ∈ b, y.l.length ≤ 200
            · skip
              refine run_plain (id := 1) (ops := F3.o1) [(0, false), (1, true), (2, true), (3, true), (4, false), (5, true), (6, true), (7, true), (8, true), (9, false), (10, false), (11, true), (12, true), (13, true), (14, true), (15, true), (16, true), (17, true), (18, true), (19, true), (20, true), (21, true), (22, true), (23, true), (24, true), (25, false), (26, true), (27, true), (28, true), (29, true), (30, false), (31, true), (32, true)] (by kernel_rfl) (by kernel_rfl) ?_
              refine cS (by kernel_rfl : opAt F3.o1 0 = some (some 20, .call { callee := .value (.func 8), args := #[], argTypes := #[] }, none)) rfl rfl (ent Try.call8 rfl) (awake_ok hF) ?_
              rintro vw1 w1 ⟨rfl, hs⟩
              refine ⟨trivial, ?_⟩
              replace hF := hF.st hs
              replace hT := hT.trans hs (by simp)
              replace hl := hl.st hs (by first | decide | (simp <;> omega))
              replace ha := ha.st hs (by first | decide | (simp <;> omega))
              replace hbb := hbb.st hs (by first | decide | (simp <;> omega))
              refine yS (by kernel_rfl : opAt F3.o1 1 = some (some 21, .unOp .not 4 (.tmp 20), none)) rfl rfl (fun w' hS => val_not rfl) ?_
              refine yS (by kernel_rfl : opAt F3.o1 2 = some (some 22, .move (.tmp 21), none)) rfl rfl (fun w' hS => val_move rfl) ?_
              refine yS (by kernel_rfl : opAt F3.o1 3 = some (some 23, .move (.tmp 0), (some (2, false)))) rfl rfl (fun w' hS => val_move rfl) ?_
              refine cS (by kernel_rfl : opAt F3.o1 4 = some (some 24, .call { callee := .value (.func 9), args := #[(.tmp 23)], argTypes := #[22] }, (some (2, false)))) rfl rfl (ent Try.call9 rfl) (few_any hl) ?_
              rintro vw2 w2 ⟨rfl, rfl⟩
              rw [decide_eq_true (hA)]
              refine ⟨trivial, ?_⟩
              refine yS (by kernel_rfl : opAt F3.o1 5 = some (some 25, .unOp .not 4 (.tmp 24), (some (2, false)))) rfl rfl (fun w' hS => val_not rfl) ?_
              refine yS (by kernel_rfl : opAt F3.o1 6 = some (some 26, .pick (.tmp 22) (.const (.bool true)) (.tmp 25), none)) rfl rfl (fun w' hS => val_pick_f rfl rfl) ?_
              refine yS (by kernel_rfl : opAt F3.o1 7 = some (some 27, .move (.tmp 26), none)) rfl rfl (fun w' hS => val_move rfl) ?_
              refine yS (by kernel_rfl : opAt F3.o1 8 = some (some 28, .move (.tmp 1), (some (7, false)))) rfl rfl (fun w' hS => val_move rfl) ?_
              refine aS (by kernel_rfl : opAt F3.o1 9 = some (some 29, .buildSlice 23 1 #[(0, (.tmp 28))], (some (7, false)))) rfl rfl (a_buildSlice (ys := ([⟨s⟩] : List Tx)) (e := 9) (bytes := 16) hF (by kernel_rfl) rfl (by decide) (by decide) ⟨rfl, ⟨_, rfl, rv_tx.2 ⟨rfl, (by first | omega | (simp only; omega))⟩⟩, trivial⟩) ?_
              rintro v29 w3 ⟨hs, hs1, hF⟩
              refine ⟨trivial, ?_⟩
              replace hT := hT.trans hs (by simp)
              replace hl := hl.st hs (by first | decide | (simp <;> omega))
              replace ha := ha.st hs (by first | decide | (simp <;> omega))
              replace hbb := hbb.st hs (by first | decide | (simp <;> omega))
              refine cS (by kernel_rfl : opAt F3.o1 10 = some (some 30, .call { callee := .value (.func 10), args := #[(.tmp 29)], argTypes := #[23] }, (some (7, false)))) rfl rfl (ent Try.call10 rfl) (short_ok hs1) ?_
              rintro vw4 w4 ⟨rfl, rfl⟩
              rw [decide_eq_true (hB)]
              refine ⟨trivial, ?_⟩
              refine yS (by kernel_rfl : opAt F3.o1 11 = some (some 31, .unOp .not 4 (.tmp 30), (some (7, false)))) rfl rfl (fun w' hS => val_not rfl) ?_
              refine yS (by kernel_rfl : opAt F3.o1 12 = some (some 32, .pick (.tmp 27) (.const (.bool true)) (.tmp 31), none)) rfl rfl (fun w' hS => val_pick_f rfl rfl) ?_
              refine yS (by kernel_rfl : opAt F3.o1 13 = some (some 33, .move (.tmp 32), none)) rfl rfl (fun w' hS => val_move rfl) ?_
              refine yS (by kernel_rfl : opAt F3.o1 14 = some (some 34, .move (.tmp 2), (some (13, false)))) rfl rfl (fun w' hS => val_move rfl) ?_
              refine yS (by kernel_rfl : opAt F3.o1 15 = some (some 35, .call { callee := .builtin .len, args := #[(.tmp 34)], argTypes := #[23] }, (some (13, false)))) rfl rfl (fun w' hS => ha.lenV rfl Try.underlying23 w' ) ?_
              refine yS (by kernel_rfl : opAt F3.o1 16 = some (some 36, .binOp .gtr 3 (.tmp 35) (.const (.int .i64 60)) 3, (some (13, false)))) rfl rfl (fun w' hS => val_F (val_gtr rfl rfl) (by omega)) ?_
              refine yS (by kernel_rfl : opAt F3.o1 17 = some (some 37, .pick (.tmp 33) (.const (.bool true)) (.tmp 36), none)) rfl rfl (fun w' hS => val_pick_f rfl rfl) ?_
              refine yS (by kernel_rfl : opAt F3.o1 18 = some (some 38, .move (.tmp 37), none)) rfl rfl (fun w' hS => val_move rfl) ?_
              refine yS (by kernel_rfl : opAt F3.o1 19 = some (some 39, .move (.tmp 3), (some (18, false)))) rfl rfl (fun w' hS => val_move rfl) ?_
              refine yS (by kernel_rfl : opAt F3.o1 20 = some (some 40, .call { callee := .builtin .len, args := #[(.tmp 39)], argTypes := #[23] }, (some (18, false)))) rfl rfl (fun w' hS => hbb.lenV rfl Try.underlying23 w' ) ?_
              refine yS (by kernel_rfl : opAt F3.o1 21 = some (some 41, .binOp .gtr 3 (.tmp 40) (.const (.int .i64 60)) 3, (some (18, false)))) rfl rfl (fun w' hS => val_F (val_gtr rfl rfl) (by omega)) ?_
              refine yS (by kernel_rfl : opAt F3.o1 22 = some (some 42, .pick (.tmp 38) (.const (.bool true)) (.tmp 41), none)) rfl rfl (fun w' hS => val_pick_f rfl rfl) ?_
              refine yS (by kernel_rfl : opAt F3.o1 23 = some (some 43, .move (.tmp 42), none)) rfl rfl (fun w' hS => val_move rfl) ?_
              refine yS (by kernel_rfl : opAt F3.o1 24 = some (some 44, .move (.tmp 2), (some (23, false)))) rfl rfl (fun w' hS => val_move rfl) ?_
              refine cS (by kernel_rfl : opAt F3.o1 25 = some (some 45, .call { callee := .value (.func 10), args := #[(.tmp 44)], argTypes := #[23] }, (some (23, false)))) rfl rfl (ent Try.call10 rfl) (short_ok ha) ?_
              rintro vw5 w5 ⟨rfl, rfl⟩
              rw [decide_eq_true (hE)]
              refine ⟨trivial, ?_⟩
              refine yS (by kernel_rfl : opAt F3.o1 26 = some (some 46, .unOp .not 4 (.tmp 45), (some (23, false)))) rfl rfl (fun w' hS => val_not rfl) ?_
              refine yS (by kernel_rfl : opAt F3.o1 27 = some (some 47, .pick (.tmp 43) (.const (.bool true)) (.tmp 46), none)) rfl rfl (fun w' hS => val_pick_f rfl rfl) ?_
              refine yS (by kernel_rfl : opAt F3.o1 28 = some (some 48, .move (.tmp 47), none)) rfl rfl (fun w' hS => val_move rfl) ?_
              refine yS (by kernel_rfl : opAt F3.o1 29 = some (some 49, .move (.tmp 3), (some (28, false)))) rfl rfl (fun w' hS => val_move rfl) ?_
              refine cS (by kernel_rfl : opAt F3.o1 30 = some (some 50, .call { callee := .value (.func 10), args := #[(.tmp 49)], argTypes := #[23] }, (some (28, false)))) rfl rfl (ent Try.call10 rfl) (short_ok hbb) ?_
              rintro vw6 w6 ⟨rfl, rfl⟩
              rw [decide_eq_true (hG)]
              refine ⟨trivial, ?_⟩
              refine yS (by kernel_rfl : opAt F3.o1 31 = some (some 51, .unOp .not 4 (.tmp 50), (some (28, false)))) rfl rfl (fun w' hS => val_not rfl) ?_
              refine yS (by kernel_rfl : opAt F3.o1 32 = some (some 52, .pick (.tmp 48) (.const (.bool true)) (.tmp 51), none)) rfl rfl (fun w' hS => val_pick_f rfl rfl) ?_
              refine Sch.nil ?_
              refine run_cond (x := F3.c6) (y := F3.c9) (o := .tmp 52) (b := false) (by kernel_rfl) rfl (fun h => by cases h) (fun _ => ?_)
              refine run_skip (by kernel_rfl) ?_
              refine run_seq (x := F3.c11) (y := F3.c12) (by kernel_rfl) ?_
              refine run_plain (id := 3) (ops := F3.o3) [(0, true), (1, false), (2, true)] (by kernel_rfl) (by kernel_rfl) ?_
              refine yS (by kernel_rfl : opAt F3.o3 0 = some (some 54, .move (.tmp 0), none)) rfl rfl (fun w' hS => val_move rfl) ?_
              refine cS (by kernel_rfl : opAt F3.o3 1 = some (some 55, .call { callee := .value (.func 11), args := #[(.tmp 54)], argTypes := #[22] }, none)) rfl rfl (ent Try.call11 rfl) (new_any hF hl) ?_
              rintro vw7 w7 ⟨Cd, bd, rfl, hs, hF, hd⟩
              refine ⟨trivial, ?_⟩
              replace hT := hT.trans hs (by simp)
              replace hl := hl.st hs (by first | decide | (simp <;> omega))
              replace ha := ha.st hs (by first | decide | (simp <;> omega))
              replace hbb := hbb.st hs (by first | decide | (simp <;> omega))
              replace hs1 := hs1.st hs (by first | decide | (simp <;> omega))
              refine yS (by kernel_rfl : opAt F3.o3 2 = some (some 9, .assign (.tmp 55), none)) rfl rfl (fun w' hS => val_assign rfl) ?_
              refine Sch.nil ?_
              refine run_seq (x := F3.c13) (y := F3.c14) (by kernel_rfl) ?_
              refine run_plain (id := 4) (ops := F3.o4) [(0, true), (1, false), (2, false), (3, true), (4, true), (5, true), (6, true), (7, true)] (by kernel_rfl) (by kernel_rfl) ?_
              refine yS (by kernel_rfl : opAt F3.o4 0 = some (some 57, .move (.tmp 9), none)) rfl rfl (fun w' hS => val_move rfl) ?_
              have hsl2 : s.length ≤ 200 := hB ⟨s⟩ (by simp)
              refine cS (by kernel_rfl : opAt F3.o4 1 = some (some 58, .call { callee := .value (.func 13), args := #[(.tmp 57)], argTypes := #[27] }, none)) rfl rfl (ent Try.call13 rfl) (text_ok hF (by decide) hd) ?_
              rintro vw8 w8 ⟨xt, rfl, hxt, hs, hd⟩
              refine ⟨trivial, ?_⟩
              replace hF := hF.st hs
              replace hT := hT.trans hs (by simp)
              replace hl := hl.st hs (by first | decide | (simp <;> omega))
              replace ha := ha.st hs (by first | decide | (simp <;> omega))
              replace hbb := hbb.st hs (by first | decide | (simp <;> omega))
              replace hs1 := hs1.st hs (by first | decide | (simp <;> omega))
              refine cS (by kernel_rfl : opAt F3.o4 2 = some (some 59, .call { callee := .value (.func 12), args := #[(.tmp 58)], argTypes := #[9] }, none)) rfl rfl (ent Try.call12 rfl) (fold_ok hF (by omega)) ?_
              rintro vw9 w9 ⟨xf, ee, rfl, hxf, hs⟩
              refine ⟨trivial, ?_⟩
              replace hF := hF.st hs
              replace hT := hT.trans hs (by simp)
              replace hl := hl.st hs (by first | decide | (simp <;> omega))
              replace ha := ha.st hs (by first | decide | (simp <;> omega))
              replace hbb := hbb.st hs (by first | decide | (simp <;> omega))
              replace hs1 := hs1.st hs (by first | decide | (simp <;> omega))
              replace hd := hd.st hs (by first | decide | (simp <;> omega)) (by first | decide | (simp <;> omega))
              refine yS (by kernel_rfl : opAt F3.o4 3 = some (some 56, .move (.tmp 59), none)) rfl rfl (fun w' hS => val_move rfl) ?_
              refine yS (by kernel_rfl : opAt F3.o4 4 = some (some 60, .extract (.tmp 56) 0, none)) rfl rfl (fun w' hS => val_extract rfl rfl) ?_
              refine yS (by kernel_rfl : opAt F3.o4 5 = some (some 61, .extract (.tmp 56) 1, none)) rfl rfl (fun w' hS => val_extract rfl rfl) ?_
              refine yS (by kernel_rfl : opAt F3.o4 6 = some (some 10, .assign (.tmp 60), none)) rfl rfl (fun w' hS => val_assign rfl) ?_
              refine yS (by kernel_rfl : opAt F3.o4 7 = some (some 11, .assign (.tmp 61), none)) rfl rfl (fun w' hS => val_assign rfl) ?_
              refine Sch.nil ?_
              refine run_seq (x := F3.c15) (y := F3.c37) (by kernel_rfl) ?_
              refine run_seq (x := F3.c16) (y := F3.c17) (by kernel_rfl) ?_
              refine run_plain (id := 5) (ops := F3.o5) [(0, true), (1, true), (2, true), (3, true), (4, true), (5, false), (6, true), (7, true)] (by kernel_rfl) (by kernel_rfl) ?_
              refine yS (by kernel_rfl : opAt F3.o5 0 = some (some 62, .move (.tmp 1), none)) rfl rfl (fun w' hS => val_move rfl) ?_
              refine yS (by kernel_rfl : opAt F3.o5 1 = some (some 63, .move (.tmp 10), none)) rfl rfl (fun w' hS => val_move rfl) ?_
              refine yS (by kernel_rfl : opAt F3.o5 2 = some (some 64, .move (.tmp 10), none)) rfl rfl (fun w' hS => val_move rfl) ?_
              refine yS (by kernel_rfl : opAt F3.o5 3 = some (some 65, .move (.tmp 1), none)) rfl rfl (fun w' hS => val_move rfl) ?_
              refine yS (by kernel_rfl : opAt F3.o5 4 = some (some 66, .binOp .add 9 (.tmp 64) (.tmp 65) 9, none)) rfl rfl (fun w' hS => val_cat rfl rfl (by (try simp only [List.length_append, List.length_cons, List.length_nil]); omega)) ?_
              refine aS (by kernel_rfl : opAt F3.o5 5 = some (some 67, .buildSlice 23 6 #[(0, (.tmp 62)), (1, (.tmp 63)), (2, (.tmp 66)), (3, (.const (.string ⟨#[49, 57, 56, 48, 48, 50, 48, 51]⟩))), (4, (.const (.string ⟨#[97, 98, 99, 100, 101, 102, 103, 104, 105, 106, 107, 108, 109, 110, 111, 112, 113, 114, 115, 116, 117, 118, 119, 120, 121, 122]⟩))), (5, (.const (.string ⟨#[97, 98, 99, 100, 101, 102, 103, 104, 105, 106, 107, 108, 109, 110, 111, 112, 113, 114, 115, 116, 117, 118, 119, 120, 121, 122, 49]⟩)))], none)) rfl rfl (a_buildSlice (ys := (sixL s xf.l)) (e := 9) (bytes := 16) hF (by kernel_rfl) rfl (by decide) (by decide) ⟨rfl, ⟨_, rfl, rv_tx.2 ⟨rfl, by simp only; omega⟩⟩, rfl, ⟨_, rfl, rv_tx.2 ⟨rfl, by simp only; omega⟩⟩, rfl, ⟨_, rfl, rv_tx.2 ⟨rfl, by simp only [List.length_append]; omega⟩⟩, rfl, ⟨_, rfl, rv_tx.2 ⟨rfl, by decide⟩⟩, rfl, ⟨_, rfl, rv_tx.2 ⟨rfl, by decide⟩⟩, rfl, ⟨_, rfl, rv_tx.2 ⟨rfl, by decide⟩⟩, trivial⟩) ?_
              rintro v67 w10 ⟨hs, hsix, hF⟩
              refine ⟨trivial, ?_⟩
              replace hT := hT.trans hs (by simp)
              replace hl := hl.st hs (by first | decide | (simp <;> omega))
              replace ha := ha.st hs (by first | decide | (simp <;> omega))
              replace hbb := hbb.st hs (by first | decide | (simp <;> omega))
              replace hs1 := hs1.st hs (by first | decide | (simp <;> omega))
              replace hd := hd.st hs (by first | decide | (simp <;> omega)) (by first | decide | (simp <;> omega))
              refine yS (by kernel_rfl : opAt F3.o5 6 = some (some 68, .call { callee := .builtin .len, args := #[(.tmp 67)], argTypes := #[23] }, none)) rfl rfl (fun w' hS => hsix.lenV rfl Try.underlying23 w' ) ?_
              refine yS (by kernel_rfl : opAt F3.o5 7 = some (some 69, .move (.const (.int .i64 0)), none)) rfl rfl (fun w' hS => val_move rfl) ?_
              refine Sch.nil ?_
              refine run_block (x := F3.c18) (id := 0) (by kernel_rfl) ?_
              have hsl : (sixL s xf.l).length = 6 := rfl
              refine run_loop (ι := Nat × (Nat → Nat)) (I := fun x w => x.1 ≤ 6 ∧ Lim w x.2 ∧ Stp [2, 3, 4, 5, 6, 7, 8, 9] w₀ (col1 C) w x.2 ∧ DeckIs w x.2 3 bd ∧ RV w (Mc x.2) a va ∧ RV w (Mc x.2) b vb ∧ RV w (Mc x.2) (sixL s xf.l) v67) (e := fun x => [(2, va), (3, vb), (9, .pointer (some ⟨bd, 0, none⟩)), (67, v67), (68, .int .i64 (6 : Nat)), (69, .int .i64 x.1)]) (m := fun x => 6 - x.1) (x₀ := (0, Cd)) (body := F3.c19) (by kernel_rfl) (sub_cons 2 rfl rfl (sub_cons 3 rfl rfl (sub_cons 9 rfl rfl (sub_cons 67 rfl rfl (sub_cons 68 rfl rfl (sub_cons 69 rfl rfl (sub_nil _))))))) ?_ ?_
              · exact ⟨Nat.zero_le _, hF, hT, hd, ha, hbb, hsix⟩
              intro ⟨p, C1⟩ w11 hI next
              obtain ⟨hp, hF, hT, hd, ha, hbb, hsix⟩ := hI
              try simp only at hp hF hT hd ha hbb hsix
              have next1 := next
              clear next
              show Run _ _ _ _ [(2, va), (3, vb), (9, .pointer (some ⟨bd, 0, none⟩)), (67, v67), (68, .int .i64 (6 : Nat)), (69, .int .i64 p)] _ _
              refine run_seq (x := F3.c20) (y := F3.c21) (by kernel_rfl) ?_
              refine run_plain (id := 6) (ops := F3.o6) [(0, true)] (by kernel_rfl) (by kernel_rfl) ?_
              refine yS (by kernel_rfl : opAt F3.o6 0 = some (some 70, .binOp .lss 3 (.tmp 69) (.tmp 68) 3, none)) rfl rfl (fun w' hS => val_lss rfl rfl) ?_
              refine Sch.nil ?_
              refine run_seq (x := F3.c22) (y := F3.c25) (by kernel_rfl) ?_
              refine run_if (x := F3.c23) (y := F3.c24) (o := .tmp 70) (by kernel_rfl) rfl (fun h70 => ?_) (fun h70 => ?_)
              · skip
                have hpl : p < (sixL s xf.l).length := by omega
                refine run_skip (by kernel_rfl) ?_
                refine run_seq (x := F3.c26) (y := F3.c36) (by kernel_rfl) ?_
                refine run_block (x := F3.c27) (id := 1) (by kernel_rfl) ?_
                refine run_seq (x := F3.c28) (y := F3.c29) (by kernel_rfl) ?_
                refine run_plain (id := 7) (ops := F3.o7) [(0, true), (1, false), (2, true)] (by kernel_rfl) (by kernel_rfl) ?_
                refine iS (e := 9) (by kernel_rfl : opAt F3.o7 0 = some (some 71, .indexAddr 23 (.tmp 67) (.tmp 69), none)) rfl rfl hsix rfl (by kernel_rfl) rfl (by omega) (by omega) ?_
                intro b71 o71 h71
                try simp only [Int.toNat_natCast] at h71
                refine lN (by kernel_rfl : opAt F3.o7 1 = some (some 72, .load 9 (.tmp 71), none)) rfl rfl trivial h71 (by kernel_rfl) rfl rfl ?_
                intro v72 g72
                obtain ⟨rfl, hb72⟩ := rv_tx.1 g72
                refine yS (by kernel_rfl : opAt F3.o7 2 = some (some 13, .assign (.tmp 72), none)) rfl rfl (fun w' hS => val_assign rfl) ?_
                refine Sch.nil ?_
                obtain ⟨t, ht⟩ : ∃ t, t = (sixL s xf.l)[p]'hpl := ⟨_, rfl⟩
                rw [← ht] at hb72 ⊢
                have htl : t.l.length ≤ 400 := by rw [ht]; exact six_len hsl2 hxf _ (List.getElem_mem _)
                refine run_seq (x := F3.c30) (y := F3.c31) (by kernel_rfl) ?_
                refine run_plain (id := 8) (ops := F3.o8) [(0, true), (1, false), (2, true), (3, false), (4, false), (5, true), (6, true), (7, true), (8, false), (9, true), (10, false), (11, false), (12, true), (13, true)] (by kernel_rfl) (by kernel_rfl) ?_
                refine yS (by kernel_rfl : opAt F3.o8 0 = some (some 73, .move (.tmp 13), none)) rfl rfl (fun w' hS => val_move rfl) ?_
                refine cS (by kernel_rfl : opAt F3.o8 1 = some (some 74, .call { callee := .value (.func 15), args := #[(.tmp 73)], argTypes := #[9] }, none)) rfl rfl (ent Try.call15 rfl) (grams_ok hF (by omega)) ?_
                rintro vhG1 w12 ⟨hs, hG1⟩
                refine ⟨trivial, ?_⟩
                replace hF := hF.st hs
                replace hT := hT.trans hs (by simp)
                replace hd := hd.st hs (by first | decide | (simp <;> omega)) (by first | decide | (simp <;> omega))
                replace ha := ha.st hs (by first | decide | (simp <;> omega))
                replace hbb := hbb.st hs (by first | decide | (simp <;> omega))
                replace hsix := hsix.st hs (by first | decide | (simp <;> omega))
                replace h71 := h71.st hs (by first | decide | (simp <;> omega))
                refine yS (by kernel_rfl : opAt F3.o8 2 = some (some 75, .move (.tmp 13), none)) rfl rfl (fun w' hS => val_move rfl) ?_
                refine cS (by kernel_rfl : opAt F3.o8 3 = some (some 76, .call { callee := .value (.func 16), args := #[(.tmp 75)], argTypes := #[9] }, none)) rfl rfl (ent Try.call16 rfl) (rgrams_ok hF (by omega)) ?_
                rintro vhG2 w13 ⟨hs, hG2⟩
                refine ⟨trivial, ?_⟩
                replace hF := hF.st hs
                replace hT := hT.trans hs (by simp)
                replace hd := hd.st hs (by first | decide | (simp <;> omega)) (by first | decide | (simp <;> omega))
                replace ha := ha.st hs (by first | decide | (simp <;> omega))
                replace hbb := hbb.st hs (by first | decide | (simp <;> omega))
                replace hsix := hsix.st hs (by first | decide | (simp <;> omega))
                replace h71 := h71.st hs (by first | decide | (simp <;> omega))
                replace hG1 := hG1.st hs (by first | decide | (simp <;> omega))
                refine cS (by kernel_rfl : opAt F3.o8 4 = some (some 77, .call { callee := .value (.func 14), args := #[(.tmp 74), (.tmp 76)], argTypes := #[23, 23] }, none)) rfl rfl (ent Try.call14 rfl) (same_ok hF hG1 hG2) ?_
                rintro vw14 w14 ⟨rfl, hs⟩
                rw [decide_eq_true (rfl)]
                refine ⟨trivial, ?_⟩
                replace hF := hF.st hs
                replace hT := hT.trans hs (by simp)
                replace hd := hd.st hs (by first | decide | (simp <;> omega)) (by first | decide | (simp <;> omega))
                replace ha := ha.st hs (by first | decide | (simp <;> omega))
                replace hbb := hbb.st hs (by first | decide | (simp <;> omega))
                replace hsix := hsix.st hs (by first | decide | (simp <;> omega))
                replace h71 := h71.st hs (by first | decide | (simp <;> omega))
                replace hG1 := hG1.st hs (by first | decide | (simp <;> omega))
                replace hG2 := hG2.st hs (by first | decide | (simp <;> omega))
                refine yS (by kernel_rfl : opAt F3.o8 5 = some (some 78, .unOp .not 4 (.tmp 77), none)) rfl rfl (fun w' hS => val_not rfl) ?_
                refine yS (by kernel_rfl : opAt F3.o8 6 = some (some 79, .move (.tmp 78), none)) rfl rfl (fun w' hS => val_move rfl) ?_
                refine yS (by kernel_rfl : opAt F3.o8 7 = some (some 80, .move (.tmp 13), (some (6, false)))) rfl rfl (fun w' hS => val_move rfl) ?_
                refine cS (by kernel_rfl : opAt F3.o8 8 = some (some 81, .call { callee := .value (.func 17), args := #[(.tmp 80)], argTypes := #[9] }, (some (6, false)))) rfl rfl (ent Try.call17 rfl) (pos_ok hF (by omega)) ?_
                rintro vhP1 w15 ⟨hs, hP1⟩
                refine ⟨trivial, ?_⟩
                replace hF := hF.st hs
                replace hT := hT.trans hs (by simp)
                replace hd := hd.st hs (by first | decide | (simp <;> omega)) (by first | decide | (simp <;> omega))
                replace ha := ha.st hs (by first | decide | (simp <;> omega))
                replace hbb := hbb.st hs (by first | decide | (simp <;> omega))
                replace hsix := hsix.st hs (by first | decide | (simp <;> omega))
                replace h71 := h71.st hs (by first | decide | (simp <;> omega))
                replace hG1 := hG1.st hs (by first | decide | (simp <;> omega))
                replace hG2 := hG2.st hs (by first | decide | (simp <;> omega))
                refine yS (by kernel_rfl : opAt F3.o8 9 = some (some 82, .move (.tmp 13), (some (6, false)))) rfl rfl (fun w' hS => val_move rfl) ?_
                refine cS (by kernel_rfl : opAt F3.o8 10 = some (some 83, .call { callee := .value (.func 18), args := #[(.tmp 82)], argTypes := #[9] }, (some (6, false)))) rfl rfl (ent Try.call18 rfl) (rpos_ok hF (by omega)) ?_
                rintro vhP2 w16 ⟨hs, hP2⟩
                refine ⟨trivial, ?_⟩
                replace hF := hF.st hs
                replace hT := hT.trans hs (by simp)
                replace hd := hd.st hs (by first | decide | (simp <;> omega)) (by first | decide | (simp <;> omega))
                replace ha := ha.st hs (by first | decide | (simp <;> omega))
                replace hbb := hbb.st hs (by first | decide | (simp <;> omega))
                replace hsix := hsix.st hs (by first | decide | (simp <;> omega))
                replace h71 := h71.st hs (by first | decide | (simp <;> omega))
                replace hG1 := hG1.st hs (by first | decide | (simp <;> omega))
                replace hG2 := hG2.st hs (by first | decide | (simp <;> omega))
                replace hP1 := hP1.st hs (by first | decide | (simp <;> omega))
                refine cS (by kernel_rfl : opAt F3.o8 11 = some (some 84, .call { callee := .value (.func 14), args := #[(.tmp 81), (.tmp 83)], argTypes := #[23, 23] }, (some (6, false)))) rfl rfl (ent Try.call14 rfl) (same_ok hF hP1 hP2) ?_
                rintro vw17 w17 ⟨rfl, hs⟩
                rw [decide_eq_true (rfl)]
                refine ⟨trivial, ?_⟩
                replace hF := hF.st hs
                replace hT := hT.trans hs (by simp)
                replace hd := hd.st hs (by first | decide | (simp <;> omega)) (by first | decide | (simp <;> omega))
                replace ha := ha.st hs (by first | decide | (simp <;> omega))
                replace hbb := hbb.st hs (by first | decide | (simp <;> omega))
                replace hsix := hsix.st hs (by first | decide | (simp <;> omega))
                replace h71 := h71.st hs (by first | decide | (simp <;> omega))
                replace hG1 := hG1.st hs (by first | decide | (simp <;> omega))
                replace hG2 := hG2.st hs (by first | decide | (simp <;> omega))
                replace hP1 := hP1.st hs (by first | decide | (simp <;> omega))
                replace hP2 := hP2.st hs (by first | decide | (simp <;> omega))
                refine yS (by kernel_rfl : opAt F3.o8 12 = some (some 85, .unOp .not 4 (.tmp 84), (some (6, false)))) rfl rfl (fun w' hS => val_not rfl) ?_
                refine yS (by kernel_rfl : opAt F3.o8 13 = some (some 86, .pick (.tmp 79) (.const (.bool true)) (.tmp 85), none)) rfl rfl (fun w' hS => val_pick_f rfl rfl) ?_
                refine Sch.nil ?_
                refine run_cond (x := F3.c32) (y := F3.c35) (o := .tmp 86) (b := false) (by kernel_rfl) rfl (fun h => by cases h) (fun _ => ?_)
                refine run_skip (by kernel_rfl) ?_
                refine run_inBlock ?_
                refine run_plain (id := 10) (ops := F3.o10) [(0, true), (1, true)] (by kernel_rfl) (by kernel_rfl) ?_
                refine yS (by kernel_rfl : opAt F3.o10 0 = some (some 87, .binOp .add 3 (.tmp 69) (.const (.int .i64 1)) 3, none)) rfl rfl (fun w' hS => val_addi rfl rfl (by omega) (by omega)) ?_
                refine yS (by kernel_rfl : opAt F3.o10 1 = some (some 69, .move (.tmp 87), none)) rfl rfl (fun w' hS => val_move rfl) ?_
                refine Sch.nil ?_
                refine kp (sub_cons 2 rfl rfl (sub_cons 3 rfl rfl (sub_cons 9 rfl rfl (sub_cons 67 rfl rfl (sub_cons 68 rfl rfl (sub_cons 69 rfl (eq_int (by simp)) (sub_nil _))))))) (next1 (p + 1, C1) _ ⟨(by first | omega | (simp only; omega)), hF, hT, hd, ha, hbb, hsix⟩ (by first | omega | (simp only; omega)))
              · skip
                refine run_exit (id := 0) (by kernel_rfl) rfl ?_
                refine run_seq (x := F3.c38) (y := F3.c39) (by kernel_rfl) ?_
                refine run_plain (id := 11) (ops := F3.o11) [(0, true), (1, false), (2, false), (3, true), (4, false), (5, false), (6, true), (7, true)] (by kernel_rfl) (by kernel_rfl) ?_
                refine yS (by kernel_rfl : opAt F3.o11 0 = some (some 88, .move (.tmp 9), none)) rfl rfl (fun w' hS => val_move rfl) ?_
                refine cS (by kernel_rfl : opAt F3.o11 1 = some (some 89, .call { callee := .value (.func 19), args := #[(.tmp 88)], argTypes := #[27] }, none)) rfl rfl (ent Try.call19 rfl) (token_ok hF (by decide) hd) ?_
                rintro vw18 w18 ⟨xt2, rfl, hxxt2, hs, hd⟩
                refine ⟨trivial, ?_⟩
                replace hF := hF.st hs
                replace hT := hT.trans hs (by simp)
                replace ha := ha.st hs (by first | decide | (simp <;> omega))
                replace hbb := hbb.st hs (by first | decide | (simp <;> omega))
                replace hsix := hsix.st hs (by first | decide | (simp <;> omega))
                have h8xt2 := hxxt2.2.1
                have h1xt2 := hxxt2.1
                refine cS (by kernel_rfl : opAt F3.o11 2 = some (some 90, .call { callee := .value (.func 16), args := #[(.tmp 89)], argTypes := #[9] }, none)) rfl rfl (ent Try.call16 rfl) (rgrams_ok hF (by omega)) ?_
                rintro vhX w19 ⟨hs, hX⟩
                refine ⟨trivial, ?_⟩
                replace hF := hF.st hs
                replace hT := hT.trans hs (by simp)
                replace hd := hd.st hs (by first | decide | (simp <;> omega)) (by first | decide | (simp <;> omega))
                replace ha := ha.st hs (by first | decide | (simp <;> omega))
                replace hbb := hbb.st hs (by first | decide | (simp <;> omega))
                replace hsix := hsix.st hs (by first | decide | (simp <;> omega))
                refine yS (by kernel_rfl : opAt F3.o11 3 = some (some 91, .move (.tmp 9), none)) rfl rfl (fun w' hS => val_move rfl) ?_
                refine cS (by kernel_rfl : opAt F3.o11 4 = some (some 92, .call { callee := .value (.func 19), args := #[(.tmp 91)], argTypes := #[27] }, none)) rfl rfl (ent Try.call19 rfl) (token_ok hF (by decide) hd) ?_
                rintro vw20 w20 ⟨yt, rfl, hxyt, hs, hd⟩
                refine ⟨trivial, ?_⟩
                replace hF := hF.st hs
                replace hT := hT.trans hs (by simp)
                replace ha := ha.st hs (by first | decide | (simp <;> omega))
                replace hbb := hbb.st hs (by first | decide | (simp <;> omega))
                replace hsix := hsix.st hs (by first | decide | (simp <;> omega))
                replace hX := hX.st hs (by first | decide | (simp <;> omega))
                have h8yt := hxyt.2.1
                have h1yt := hxyt.1
                refine cS (by kernel_rfl : opAt F3.o11 5 = some (some 93, .call { callee := .value (.func 16), args := #[(.tmp 92)], argTypes := #[9] }, none)) rfl rfl (ent Try.call16 rfl) (rgrams_ok hF (by omega)) ?_
                rintro vhY w21 ⟨hs, hY⟩
                refine ⟨trivial, ?_⟩
                replace hF := hF.st hs
                replace hT := hT.trans hs (by simp)
                replace hd := hd.st hs (by first | decide | (simp <;> omega)) (by first | decide | (simp <;> omega))
                replace ha := ha.st hs (by first | decide | (simp <;> omega))
                replace hbb := hbb.st hs (by first | decide | (simp <;> omega))
                replace hsix := hsix.st hs (by first | decide | (simp <;> omega))
                replace hX := hX.st hs (by first | decide | (simp <;> omega))
                refine yS (by kernel_rfl : opAt F3.o11 6 = some (some 14, .assign (.tmp 90), none)) rfl rfl (fun w' hS => val_assign rfl) ?_
                refine yS (by kernel_rfl : opAt F3.o11 7 = some (some 15, .assign (.tmp 93), none)) rfl rfl (fun w' hS => val_assign rfl) ?_
                refine Sch.nil ?_
                refine run_seq (x := F3.c40) (y := F3.c85) (by kernel_rfl) ?_
                refine run_seq (x := F3.c41) (y := F3.c42) (by kernel_rfl) ?_
                refine run_plain (id := 12) (ops := F3.o12) [(0, true), (1, true), (2, true), (3, false), (4, true), (5, true)] (by kernel_rfl) (by kernel_rfl) ?_
                refine yS (by kernel_rfl : opAt F3.o12 0 = some (some 94, .move (.tmp 2), none)) rfl rfl (fun w' hS => val_move rfl) ?_
                refine yS (by kernel_rfl : opAt F3.o12 1 = some (some 95, .move (.tmp 14), none)) rfl rfl (fun w' hS => val_move rfl) ?_
                refine yS (by kernel_rfl : opAt F3.o12 2 = some (some 96, .move (.tmp 3), none)) rfl rfl (fun w' hS => val_move rfl) ?_
                refine aS (by kernel_rfl : opAt F3.o12 3 = some (some 97, .buildSlice 35 3 #[(0, (.tmp 94)), (1, (.tmp 95)), (2, (.tmp 96))], none)) rfl rfl (a_buildSlice (ys := ([a, gramsT xt2.l, b] : List (List Tx))) (e := 23) (bytes := 24) hF (by kernel_rfl) rfl (by decide) (by decide) ⟨rfl, ⟨_, rfl, ha⟩, rfl, ⟨_, rfl, hX⟩, rfl, ⟨_, rfl, hbb⟩, trivial⟩) ?_
                rintro v97 w22 ⟨hs, hPL, hF⟩
                refine ⟨trivial, ?_⟩
                replace hT := hT.trans hs (by simp)
                replace hd := hd.st hs (by first | decide | (simp <;> omega)) (by first | decide | (simp <;> omega))
                replace ha := ha.st hs (by first | decide | (simp <;> omega))
                replace hbb := hbb.st hs (by first | decide | (simp <;> omega))
                replace hsix := hsix.st hs (by first | decide | (simp <;> omega))
                replace hX := hX.st hs (by first | decide | (simp <;> omega))
                replace hY := hY.st hs (by first | decide | (simp <;> omega))
                refine yS (by kernel_rfl : opAt F3.o12 4 = some (some 98, .call { callee := .builtin .len, args := #[(.tmp 97)], argTypes := #[35] }, none)) rfl rfl (fun w' hS => hPL.lenV rfl Try.underlying35 w' ) ?_
                refine yS (by kernel_rfl : opAt F3.o12 5 = some (some 99, .move (.const (.int .i64 0)), none)) rfl rfl (fun w' hS => val_move rfl) ?_
                refine Sch.nil ?_
                refine run_block (x := F3.c43) (id := 2) (by kernel_rfl) ?_
                have hpl3 : ([a, gramsT xt2.l, b] : List (List Tx)).length = 3 := rfl
                refine run_loop (ι := Nat × (Nat → Nat)) (I := fun x w => x.1 ≤ 3 ∧ Lim w x.2 ∧ Stp [2, 3, 4, 5, 6, 7, 8, 9] w₀ (col1 C) w x.2 ∧ RV w (Mc x.2) b vb ∧ RV w (Mc x.2) (gramsT xt2.l) vhX ∧ RV w (Mc x.2) (gramsT yt.l) vhY ∧ RV w (Mc x.2) ([a, gramsT xt2.l, b] : List (List Tx)) v97) (e := fun x => [(3, vb), (14, vhX), (15, vhY), (97, v97), (98, .int .i64 (3 : Nat)), (99, .int .i64 x.1)]) (m := fun x => 3 - x.1) (x₀ := (0, C1)) (body := F3.c44) (by kernel_rfl) (sub_cons 3 rfl rfl (sub_cons 14 rfl rfl (sub_cons 15 rfl rfl (sub_cons 97 rfl rfl (sub_cons 98 rfl rfl (sub_cons 99 rfl rfl (sub_nil _))))))) ?_ ?_
                · exact ⟨Nat.zero_le _, hF, hT, hbb, hX, hY, hPL⟩
                intro ⟨p, C2⟩ w23 hI next
                obtain ⟨hp, hF, hT, hbb, hX, hY, hPL⟩ := hI
                try simp only at hp hF hT hbb hX hY hPL
                have next2 := next
                clear next
                show Run _ _ _ _ [(3, vb), (14, vhX), (15, vhY), (97, v97), (98, .int .i64 (3 : Nat)), (99, .int .i64 p)] _ _
                refine run_seq (x := F3.c45) (y := F3.c46) (by kernel_rfl) ?_
                refine run_plain (id := 13) (ops := F3.o13) [(0, true)] (by kernel_rfl) (by kernel_rfl) ?_
                refine yS (by kernel_rfl : opAt F3.o13 0 = some (some 100, .binOp .lss 3 (.tmp 99) (.tmp 98) 3, none)) rfl rfl (fun w' hS => val_lss rfl rfl) ?_
                refine Sch.nil ?_
                refine run_seq (x := F3.c47) (y := F3.c50) (by kernel_rfl) ?_
                refine run_if (x := F3.c48) (y := F3.c49) (o := .tmp 100) (by kernel_rfl) rfl (fun h100 => ?_) (fun h100 => ?_)
                · skip
                  have hpl : p < ([a, gramsT xt2.l, b] : List (List Tx)).length := by omega
                  refine run_skip (by kernel_rfl) ?_
                  refine run_seq (x := F3.c51) (y := F3.c84) (by kernel_rfl) ?_
                  refine run_block (x := F3.c52) (id := 3) (by kernel_rfl) ?_
                  refine run_seq (x := F3.c53) (y := F3.c54) (by kernel_rfl) ?_
                  refine run_plain (id := 14) (ops := F3.o14) [(0, true), (1, false), (2, true)] (by kernel_rfl) (by kernel_rfl) ?_
                  refine iS (e := 23) (by kernel_rfl : opAt F3.o14 0 = some (some 101, .indexAddr 35 (.tmp 97) (.tmp 99), none)) rfl rfl hPL rfl (by kernel_rfl) rfl (by omega) (by omega) ?_
                  intro b101 o101 h101
                  try simp only [Int.toNat_natCast] at h101
                  refine lN (by kernel_rfl : opAt F3.o14 1 = some (some 102, .load 23 (.tmp 101), none)) rfl rfl trivial h101 (by kernel_rfl) rfl rfl ?_
                  intro v102 g102
                  refine yS (by kernel_rfl : opAt F3.o14 2 = some (some 17, .assign (.tmp 102), none)) rfl rfl (fun w' hS => val_assign rfl) ?_
                  refine Sch.nil ?_
                  obtain ⟨pl, hpl⟩ : ∃ pl, pl = ([a, gramsT xt2.l, b] : List (List Tx))[p]'hpl := ⟨_, rfl⟩
                  rw [← hpl] at g102
                  have hzpl := three_ok hC hD hE hG pl (by rw [hpl]; exact List.getElem_mem _)
                  have hnpl := hzpl.1
                  refine run_seq (x := F3.c55) (y := F3.c77) (by kernel_rfl) ?_
                  refine run_seq (x := F3.c56) (y := F3.c57) (by kernel_rfl) ?_
                  refine run_plain (id := 15) (ops := F3.o15) [(0, true), (1, true), (2, true), (3, false), (4, true), (5, true)] (by kernel_rfl) (by kernel_rfl) ?_
                  refine yS (by kernel_rfl : opAt F3.o15 0 = some (some 103, .move (.tmp 3), none)) rfl rfl (fun w' hS => val_move rfl) ?_
                  refine yS (by kernel_rfl : opAt F3.o15 1 = some (some 104, .move (.tmp 15), none)) rfl rfl (fun w' hS => val_move rfl) ?_
                  refine yS (by kernel_rfl : opAt F3.o15 2 = some (some 105, .move (.tmp 14), none)) rfl rfl (fun w' hS => val_move rfl) ?_
                  refine aS (by kernel_rfl : opAt F3.o15 3 = some (some 106, .buildSlice 35 3 #[(0, (.tmp 103)), (1, (.tmp 104)), (2, (.tmp 105))], none)) rfl rfl (a_buildSlice (ys := ([b, gramsT yt.l, gramsT xt2.l] : List (List Tx))) (e := 23) (bytes := 24) hF (by kernel_rfl) rfl (by decide) (by decide) ⟨rfl, ⟨_, rfl, hbb⟩, rfl, ⟨_, rfl, hY⟩, rfl, ⟨_, rfl, hX⟩, trivial⟩) ?_
                  rintro v106 w24 ⟨hs, hQL, hF⟩
                  refine ⟨trivial, ?_⟩
                  replace hT := hT.trans hs (by simp)
                  replace hbb := hbb.st hs (by first | decide | (simp <;> omega))
                  replace hX := hX.st hs (by first | decide | (simp <;> omega))
                  replace hY := hY.st hs (by first | decide | (simp <;> omega))
                  replace hPL := hPL.st hs (by first | decide | (simp <;> omega))
                  replace h101 := h101.st hs (by first | decide | (simp <;> omega))
                  replace g102 := g102.st hs (by first | decide | (simp <;> omega))
                  refine yS (by kernel_rfl : opAt F3.o15 4 = some (some 107, .call { callee := .builtin .len, args := #[(.tmp 106)], argTypes := #[35] }, none)) rfl rfl (fun w' hS => hQL.lenV rfl Try.underlying35 w' ) ?_
                  refine yS (by kernel_rfl : opAt F3.o15 5 = some (some 108, .move (.const (.int .i64 0)), none)) rfl rfl (fun w' hS => val_move rfl) ?_
                  refine Sch.nil ?_
                  refine run_block (x := F3.c58) (id := 4) (by kernel_rfl) ?_
                  have hql3 : ([b, gramsT yt.l, gramsT xt2.l] : List (List Tx)).length = 3 := rfl
                  refine run_loop (ι := Nat × (Nat → Nat)) (I := fun x w => x.1 ≤ 3 ∧ Lim w x.2 ∧ Stp [2, 3, 4, 5, 6, 7, 8, 9] w₀ (col1 C) w x.2 ∧ RV w (Mc x.2) b vb ∧ RV w (Mc x.2) (gramsT xt2.l) vhX ∧ RV w (Mc x.2) (gramsT yt.l) vhY ∧ RV w (Mc x.2) ([a, gramsT xt2.l, b] : List (List Tx)) v97 ∧ RV w (Mc x.2) pl v102 ∧ RV w (Mc x.2) ([b, gramsT yt.l, gramsT xt2.l] : List (List Tx)) v106) (e := fun x => [(3, vb), (14, vhX), (15, vhY), (17, v102), (97, v97), (98, .int .i64 (3 : Nat)), (99, .int .i64 p), (106, v106), (107, .int .i64 (3 : Nat)), (108, .int .i64 x.1)]) (m := fun x => 3 - x.1) (x₀ := (0, C2)) (body := F3.c59) (by kernel_rfl) (sub_cons 3 rfl rfl (sub_cons 14 rfl rfl (sub_cons 15 rfl rfl (sub_cons 17 rfl rfl (sub_cons 97 rfl rfl (sub_cons 98 rfl rfl (sub_cons 99 rfl rfl (sub_cons 106 rfl rfl (sub_cons 107 rfl rfl (sub_cons 108 rfl rfl (sub_nil _))))))))))) ?_ ?_
                  · exact ⟨Nat.zero_le _, hF, hT, hbb, hX, hY, hPL, g102, hQL⟩
                  intro ⟨q, C3⟩ w25 hI next
                  obtain ⟨hq, hF, hT, hbb, hX, hY, hPL, g102, hQL⟩ := hI
                  try simp only at hq hF hT hbb hX hY hPL g102 hQL
                  have next3 := next
                  clear next
                  show Run _ _ _ _ [(3, vb), (14, vhX), (15, vhY), (17, v102), (97, v97), (98, .int .i64 (3 : Nat)), (99, .int .i64 p), (106, v106), (107, .int .i64 (3 : Nat)), (108, .int .i64 q)] _ _
                  refine run_seq (x := F3.c60) (y := F3.c61) (by kernel_rfl) ?_
                  refine run_plain (id := 16) (ops := F3.o16) [(0, true)] (by kernel_rfl) (by kernel_rfl) ?_
                  refine yS (by kernel_rfl : opAt F3.o16 0 = some (some 109, .binOp .lss 3 (.tmp 108) (.tmp 107) 3, none)) rfl rfl (fun w' hS => val_lss rfl rfl) ?_
                  refine Sch.nil ?_
                  refine run_seq (x := F3.c62) (y := F3.c65) (by kernel_rfl) ?_
                  refine run_if (x := F3.c63) (y := F3.c64) (o := .tmp 109) (by kernel_rfl) rfl (fun h109 => ?_) (fun h109 => ?_)
                  · skip
                    have hql : q < ([b, gramsT yt.l, gramsT xt2.l] : List (List Tx)).length := by omega
                    refine run_skip (by kernel_rfl) ?_
                    refine run_seq (x := F3.c66) (y := F3.c76) (by kernel_rfl) ?_
                    refine run_block (x := F3.c67) (id := 5) (by kernel_rfl) ?_
                    refine run_seq (x := F3.c68) (y := F3.c69) (by kernel_rfl) ?_
                    refine run_plain (id := 17) (ops := F3.o17) [(0, true), (1, false), (2, true)] (by kernel_rfl) (by kernel_rfl) ?_
                    refine iS (e := 23) (by kernel_rfl : opAt F3.o17 0 = some (some 110, .indexAddr 35 (.tmp 106) (.tmp 108), none)) rfl rfl hQL rfl (by kernel_rfl) rfl (by omega) (by omega) ?_
                    intro b110 o110 h110
                    try simp only [Int.toNat_natCast] at h110
                    refine lN (by kernel_rfl : opAt F3.o17 1 = some (some 111, .load 23 (.tmp 110), none)) rfl rfl trivial h110 (by kernel_rfl) rfl rfl ?_
                    intro v111 g111
                    refine yS (by kernel_rfl : opAt F3.o17 2 = some (some 19, .assign (.tmp 111), none)) rfl rfl (fun w' hS => val_assign rfl) ?_
                    refine Sch.nil ?_
                    obtain ⟨ql, hql⟩ : ∃ ql, ql = ([b, gramsT yt.l, gramsT xt2.l] : List (List Tx))[q]'hql := ⟨_, rfl⟩
                    rw [← hql] at g111
                    have hzql := three_ok2 hD hG ql (by rw [hql]; exact List.getElem_mem _)
                    have hnql := hzql.1
                    refine run_seq (x := F3.c70) (y := F3.c71) (by kernel_rfl) ?_
                    refine run_plain (id := 18) (ops := F3.o18) [(0, true), (1, true), (2, false), (3, true), (4, true), (5, false), (6, true), (7, true), (8, true), (9, true), (10, false), (11, true), (12, true), (13, false), (14, true), (15, true)] (by kernel_rfl) (by kernel_rfl) ?_
                    refine yS (by kernel_rfl : opAt F3.o18 0 = some (some 112, .move (.tmp 17), none)) rfl rfl (fun w' hS => val_move rfl) ?_
                    refine yS (by kernel_rfl : opAt F3.o18 1 = some (some 113, .move (.tmp 19), none)) rfl rfl (fun w' hS => val_move rfl) ?_
                    refine cS (by kernel_rfl : opAt F3.o18 2 = some (some 114, .call { callee := .value (.func 20), args := #[(.tmp 112), (.tmp 113)], argTypes := #[23, 23] }, none)) rfl rfl (ent Try.call20 rfl) (common_ok hF g102 g111 (by omega) (by omega)) ?_
                    rintro vw26 w26 ⟨rfl, hs⟩
                    refine ⟨trivial, ?_⟩
                    replace hF := hF.st hs
                    replace hT := hT.trans hs (by simp)
                    replace hbb := hbb.st hs (by first | decide | (simp <;> omega))
                    replace hX := hX.st hs (by first | decide | (simp <;> omega))
                    replace hY := hY.st hs (by first | decide | (simp <;> omega))
                    replace hPL := hPL.st hs (by first | decide | (simp <;> omega))
                    replace g102 := g102.st hs (by first | decide | (simp <;> omega))
                    replace hQL := hQL.st hs (by first | decide | (simp <;> omega))
                    replace h110 := h110.st hs (by first | decide | (simp <;> omega))
                    replace g111 := g111.st hs (by first | decide | (simp <;> omega))
                    refine yS (by kernel_rfl : opAt F3.o18 3 = some (some 115, .move (.tmp 17), none)) rfl rfl (fun w' hS => val_move rfl) ?_
                    refine yS (by kernel_rfl : opAt F3.o18 4 = some (some 116, .move (.tmp 19), none)) rfl rfl (fun w' hS => val_move rfl) ?_
                    refine cS (by kernel_rfl : opAt F3.o18 5 = some (some 117, .call { callee := .value (.func 21), args := #[(.tmp 115), (.tmp 116)], argTypes := #[23, 23] }, none)) rfl rfl (ent Try.call21 rfl) (rcommon_ok hF g102 g111 (by omega) (by omega)) ?_
                    rintro vw27 w27 ⟨rfl, hs⟩
                    refine ⟨trivial, ?_⟩
                    replace hF := hF.st hs
                    replace hT := hT.trans hs (by simp)
                    replace hbb := hbb.st hs (by first | decide | (simp <;> omega))
                    replace hX := hX.st hs (by first | decide | (simp <;> omega))
                    replace hY := hY.st hs (by first | decide | (simp <;> omega))
                    replace hPL := hPL.st hs (by first | decide | (simp <;> omega))
                    replace g102 := g102.st hs (by first | decide | (simp <;> omega))
                    replace hQL := hQL.st hs (by first | decide | (simp <;> omega))
                    replace h110 := h110.st hs (by first | decide | (simp <;> omega))
                    replace g111 := g111.st hs (by first | decide | (simp <;> omega))
                    refine yS (by kernel_rfl : opAt F3.o18 6 = some (some 118, .binOp .neq 3 (.tmp 114) (.tmp 117) 3, none)) rfl rfl (fun w' hS => val_F (val_neq rfl rfl) (fun e => e rfl)) ?_
                    refine yS (by kernel_rfl : opAt F3.o18 7 = some (some 119, .move (.tmp 118), none)) rfl rfl (fun w' hS => val_move rfl) ?_
                    refine yS (by kernel_rfl : opAt F3.o18 8 = some (some 120, .move (.tmp 17), (some (7, false)))) rfl rfl (fun w' hS => val_move rfl) ?_
                    refine yS (by kernel_rfl : opAt F3.o18 9 = some (some 121, .move (.tmp 19), (some (7, false)))) rfl rfl (fun w' hS => val_move rfl) ?_
                    refine cS (by kernel_rfl : opAt F3.o18 10 = some (some 122, .call { callee := .value (.func 22), args := #[(.tmp 120), (.tmp 121)], argTypes := #[23, 23] }, (some (7, false)))) rfl rfl (ent Try.call22 rfl) (dice_ok hF g102 g111 (by omega) (by omega)) ?_
                    rintro vw28 w28 ⟨rfl, hs⟩
                    refine ⟨trivial, ?_⟩
                    replace hF := hF.st hs
                    replace hT := hT.trans hs (by simp)
                    replace hbb := hbb.st hs (by first | decide | (simp <;> omega))
                    replace hX := hX.st hs (by first | decide | (simp <;> omega))
                    replace hY := hY.st hs (by first | decide | (simp <;> omega))
                    replace hPL := hPL.st hs (by first | decide | (simp <;> omega))
                    replace g102 := g102.st hs (by first | decide | (simp <;> omega))
                    replace hQL := hQL.st hs (by first | decide | (simp <;> omega))
                    replace h110 := h110.st hs (by first | decide | (simp <;> omega))
                    replace g111 := g111.st hs (by first | decide | (simp <;> omega))
                    refine yS (by kernel_rfl : opAt F3.o18 11 = some (some 123, .move (.tmp 17), (some (7, false)))) rfl rfl (fun w' hS => val_move rfl) ?_
                    refine yS (by kernel_rfl : opAt F3.o18 12 = some (some 124, .move (.tmp 19), (some (7, false)))) rfl rfl (fun w' hS => val_move rfl) ?_
                    refine cS (by kernel_rfl : opAt F3.o18 13 = some (some 125, .call { callee := .value (.func 23), args := #[(.tmp 123), (.tmp 124)], argTypes := #[23, 23] }, (some (7, false)))) rfl rfl (ent Try.call23 rfl) (rdice_ok hF g102 g111 (by omega) (by omega)) ?_
                    rintro vw29 w29 ⟨rfl, hs⟩
                    refine ⟨trivial, ?_⟩
                    replace hF := hF.st hs
                    replace hT := hT.trans hs (by simp)
                    replace hbb := hbb.st hs (by first | decide | (simp <;> omega))
                    replace hX := hX.st hs (by first | decide | (simp <;> omega))
                    replace hY := hY.st hs (by first | decide | (simp <;> omega))
                    replace hPL := hPL.st hs (by first | decide | (simp <;> omega))
                    replace g102 := g102.st hs (by first | decide | (simp <;> omega))
                    replace hQL := hQL.st hs (by first | decide | (simp <;> omega))
                    replace h110 := h110.st hs (by first | decide | (simp <;> omega))
                    replace g111 := g111.st hs (by first | decide | (simp <;> omega))
                    refine yS (by kernel_rfl : opAt F3.o18 14 = some (some 126, .binOp .neq 3 (.tmp 122) (.tmp 125) 3, (some (7, false)))) rfl rfl (fun w' hS => val_F (val_neq rfl rfl) (fun e => e rfl)) ?_
                    refine yS (by kernel_rfl : opAt F3.o18 15 = some (some 127, .pick (.tmp 119) (.const (.bool true)) (.tmp 126), none)) rfl rfl (fun w' hS => val_pick_f rfl rfl) ?_
                    refine Sch.nil ?_
                    refine run_cond (x := F3.c72) (y := F3.c75) (o := .tmp 127) (b := false) (by kernel_rfl) rfl (fun h => by cases h) (fun _ => ?_)
                    refine run_skip (by kernel_rfl) ?_
                    refine run_inBlock ?_
                    refine run_plain (id := 20) (ops := F3.o20) [(0, true), (1, true)] (by kernel_rfl) (by kernel_rfl) ?_
                    refine yS (by kernel_rfl : opAt F3.o20 0 = some (some 128, .binOp .add 3 (.tmp 108) (.const (.int .i64 1)) 3, none)) rfl rfl (fun w' hS => val_addi rfl rfl (by omega) (by omega)) ?_
                    refine yS (by kernel_rfl : opAt F3.o20 1 = some (some 108, .move (.tmp 128), none)) rfl rfl (fun w' hS => val_move rfl) ?_
                    refine Sch.nil ?_
                    refine kp (sub_cons 3 rfl rfl (sub_cons 14 rfl rfl (sub_cons 15 rfl rfl (sub_cons 17 rfl rfl (sub_cons 97 rfl rfl (sub_cons 98 rfl rfl (sub_cons 99 rfl rfl (sub_cons 106 rfl rfl (sub_cons 107 rfl rfl (sub_cons 108 rfl (eq_int (by simp)) (sub_nil _))))))))))) (next3 (q + 1, C3) _ ⟨(by first | omega | (simp only; omega)), hF, hT, hbb, hX, hY, hPL, g102, hQL⟩ (by first | omega | (simp only; omega)))
                  · skip
                    refine run_exit (id := 4) (by kernel_rfl) rfl ?_
                    refine run_seq (x := F3.c78) (y := F3.c79) (by kernel_rfl) ?_
                    refine run_plain (id := 21) (ops := F3.o21) [(0, true), (1, false), (2, true), (3, false), (4, false), (5, true)] (by kernel_rfl) (by kernel_rfl) ?_
                    refine yS (by kernel_rfl : opAt F3.o21 0 = some (some 129, .move (.tmp 17), none)) rfl rfl (fun w' hS => val_move rfl) ?_
                    refine cS (by kernel_rfl : opAt F3.o21 1 = some (some 130, .call { callee := .value (.func 24), args := #[(.tmp 129)], argTypes := #[23] }, none)) rfl rfl (ent Try.call24 rfl) (set_ok hF g102 (fun y hy => by have := hzpl.2 y hy; omega) (by omega)) ?_
                    rintro vhS1 w30 ⟨hs, hS1⟩
                    refine ⟨trivial, ?_⟩
                    replace hF := hF.st hs
                    replace hT := hT.trans hs (by simp)
                    replace hbb := hbb.st hs (by first | decide | (simp <;> omega))
                    replace hX := hX.st hs (by first | decide | (simp <;> omega))
                    replace hY := hY.st hs (by first | decide | (simp <;> omega))
                    replace hPL := hPL.st hs (by first | decide | (simp <;> omega))
                    replace g102 := g102.st hs (by first | decide | (simp <;> omega))
                    replace hQL := hQL.st hs (by first | decide | (simp <;> omega))
                    refine yS (by kernel_rfl : opAt F3.o21 2 = some (some 131, .move (.tmp 17), none)) rfl rfl (fun w' hS => val_move rfl) ?_
                    refine cS (by kernel_rfl : opAt F3.o21 3 = some (some 132, .call { callee := .value (.func 25), args := #[(.tmp 131)], argTypes := #[23] }, none)) rfl rfl (ent Try.call25 rfl) (rset_ok hF g102 (by omega)) ?_
                    rintro vhS2 w31 ⟨hs, hS2⟩
                    refine ⟨trivial, ?_⟩
                    replace hF := hF.st hs
                    replace hT := hT.trans hs (by simp)
                    replace hbb := hbb.st hs (by first | decide | (simp <;> omega))
                    replace hX := hX.st hs (by first | decide | (simp <;> omega))
                    replace hY := hY.st hs (by first | decide | (simp <;> omega))
                    replace hPL := hPL.st hs (by first | decide | (simp <;> omega))
                    replace g102 := g102.st hs (by first | decide | (simp <;> omega))
                    replace hQL := hQL.st hs (by first | decide | (simp <;> omega))
                    replace hS1 := hS1.st hs (by first | decide | (simp <;> omega))
                    refine cS (by kernel_rfl : opAt F3.o21 4 = some (some 133, .call { callee := .value (.func 14), args := #[(.tmp 130), (.tmp 132)], argTypes := #[23, 23] }, none)) rfl rfl (ent Try.call14 rfl) (same_ok hF hS1 hS2) ?_
                    rintro vw32 w32 ⟨rfl, hs⟩
                    rw [decide_eq_true (rfl)]
                    refine ⟨trivial, ?_⟩
                    replace hF := hF.st hs
                    replace hT := hT.trans hs (by simp)
                    replace hbb := hbb.st hs (by first | decide | (simp <;> omega))
                    replace hX := hX.st hs (by first | decide | (simp <;> omega))
                    replace hY := hY.st hs (by first | decide | (simp <;> omega))
                    replace hPL := hPL.st hs (by first | decide | (simp <;> omega))
                    replace g102 := g102.st hs (by first | decide | (simp <;> omega))
                    replace hQL := hQL.st hs (by first | decide | (simp <;> omega))
                    replace hS1 := hS1.st hs (by first | decide | (simp <;> omega))
                    replace hS2 := hS2.st hs (by first | decide | (simp <;> omega))
                    refine yS (by kernel_rfl : opAt F3.o21 5 = some (some 134, .unOp .not 4 (.tmp 133), none)) rfl rfl (fun w' hS => val_not rfl) ?_
                    refine Sch.nil ?_
                    refine run_cond (x := F3.c80) (y := F3.c83) (o := .tmp 134) (b := false) (by kernel_rfl) rfl (fun h => by cases h) (fun _ => ?_)
                    refine run_skip (by kernel_rfl) ?_
                    refine run_inBlock ?_
                    refine run_plain (id := 23) (ops := F3.o23) [(0, true), (1, true)] (by kernel_rfl) (by kernel_rfl) ?_
                    refine yS (by kernel_rfl : opAt F3.o23 0 = some (some 135, .binOp .add 3 (.tmp 99) (.const (.int .i64 1)) 3, none)) rfl rfl (fun w' hS => val_addi rfl rfl (by omega) (by omega)) ?_
                    refine yS (by kernel_rfl : opAt F3.o23 1 = some (some 99, .move (.tmp 135), none)) rfl rfl (fun w' hS => val_move rfl) ?_
                    refine Sch.nil ?_
                    refine kp (sub_cons 3 rfl rfl (sub_cons 14 rfl rfl (sub_cons 15 rfl rfl (sub_cons 97 rfl rfl (sub_cons 98 rfl rfl (sub_cons 99 rfl (eq_int (by simp)) (sub_nil _))))))) (next2 (p + 1, C3) _ ⟨(by first | omega | (simp only; omega)), hF, hT, hbb, hX, hY, hPL⟩ (by first | omega | (simp only; omega)))
                · skip
                  refine run_exit (id := 2) (by kernel_rfl) rfl ?_
                  refine run_seq (x := F3.c86) (y := F3.c87) (by kernel_rfl) ?_
                  refine run_plain (id := 24) (ops := F3.o24) [(0, true)] (by kernel_rfl) (by kernel_rfl) ?_
                  refine yS (by kernel_rfl : opAt F3.o24 0 = some (some 8, .assign (.const (.bool true)), none)) rfl rfl (fun w' hS => val_assign rfl) ?_
                  refine Sch.nil ?_
                  refine run_ret1 (by kernel_rfl) Try.func3 Try.results3 rfl ?_
                  exact ⟨rfl, hT.out1 (by decide)⟩
            · skip
              refine run_plain (id := 1) (ops := F3.o1) [(0, false), (1, true), (2, true), (3, true), (4, false), (5, true), (6, true), (7, true), (8, true), (9, false), (10, false), (11, true), (12, true), (13, true), (14, true), (15, true), (16, true), (17, true), (18, true), (19, true), (20, true), (21, true), (22, true), (23, true), (24, true), (25, false), (26, true), (27, true), (28, true), (29, true), (30, false), (31, true), (32, true)] (by kernel_rfl) (by kernel_rfl) ?_
              refine cS (by kernel_rfl : opAt F3.o1 0 = some (some 20, .call { callee := .value (.func 8), args := #[], argTypes := #[] }, none)) rfl rfl (ent Try.call8 rfl) (awake_ok hF) ?_
              rintro vw33 w33 ⟨rfl, hs⟩
              refine ⟨trivial, ?_⟩
              replace hF := hF.st hs
              replace hT := hT.trans hs (by simp)
              replace hl := hl.st hs (by first | decide | (simp <;> omega))
              replace ha := ha.st hs (by first | decide | (simp <;> omega))
              replace hbb := hbb.st hs (by first | decide | (simp <;> omega))
              refine yS (by kernel_rfl : opAt F3.o1 1 = some (some 21, .unOp .not 4 (.tmp 20), none)) rfl rfl (fun w' hS => val_not rfl) ?_
              refine yS (by kernel_rfl : opAt F3.o1 2 = some (some 22, .move (.tmp 21), none)) rfl rfl (fun w' hS => val_move rfl) ?_
              refine yS (by kernel_rfl : opAt F3.o1 3 = some (some 23, .move (.tmp 0), (some (2, false)))) rfl rfl (fun w' hS => val_move rfl) ?_
              refine cS (by kernel_rfl : opAt F3.o1 4 = some (some 24, .call { callee := .value (.func 9), args := #[(.tmp 23)], argTypes := #[22] }, (some (2, false)))) rfl rfl (ent Try.call9 rfl) (few_any hl) ?_
              rintro vw34 w34 ⟨rfl, rfl⟩
              rw [decide_eq_true (hA)]
              refine ⟨trivial, ?_⟩
              refine yS (by kernel_rfl : opAt F3.o1 5 = some (some 25, .unOp .not 4 (.tmp 24), (some (2, false)))) rfl rfl (fun w' hS => val_not rfl) ?_
              refine yS (by kernel_rfl : opAt F3.o1 6 = some (some 26, .pick (.tmp 22) (.const (.bool true)) (.tmp 25), none)) rfl rfl (fun w' hS => val_pick_f rfl rfl) ?_
              refine yS (by kernel_rfl : opAt F3.o1 7 = some (some 27, .move (.tmp 26), none)) rfl rfl (fun w' hS => val_move rfl) ?_
              refine yS (by kernel_rfl : opAt F3.o1 8 = some (some 28, .move (.tmp 1), (some (7, false)))) rfl rfl (fun w' hS => val_move rfl) ?_
              refine aS (by kernel_rfl : opAt F3.o1 9 = some (some 29, .buildSlice 23 1 #[(0, (.tmp 28))], (some (7, false)))) rfl rfl (a_buildSlice (ys := ([⟨s⟩] : List Tx)) (e := 9) (bytes := 16) hF (by kernel_rfl) rfl (by decide) (by decide) ⟨rfl, ⟨_, rfl, rv_tx.2 ⟨rfl, (by first | omega | (simp only; omega))⟩⟩, trivial⟩) ?_
              rintro v29 w35 ⟨hs, hs1, hF⟩
              refine ⟨trivial, ?_⟩
              replace hT := hT.trans hs (by simp)
              replace hl := hl.st hs (by first | decide | (simp <;> omega))
              replace ha := ha.st hs (by first | decide | (simp <;> omega))
              replace hbb := hbb.st hs (by first | decide | (simp <;> omega))
              refine cS (by kernel_rfl : opAt F3.o1 10 = some (some 30, .call { callee := .value (.func 10), args := #[(.tmp 29)], argTypes := #[23] }, (some (7, false)))) rfl rfl (ent Try.call10 rfl) (short_ok hs1) ?_
              rintro vw36 w36 ⟨rfl, rfl⟩
              rw [decide_eq_true (hB)]
              refine ⟨trivial, ?_⟩
              refine yS (by kernel_rfl : opAt F3.o1 11 = some (some 31, .unOp .not 4 (.tmp 30), (some (7, false)))) rfl rfl (fun w' hS => val_not rfl) ?_
              refine yS (by kernel_rfl : opAt F3.o1 12 = some (some 32, .pick (.tmp 27) (.const (.bool true)) (.tmp 31), none)) rfl rfl (fun w' hS => val_pick_f rfl rfl) ?_
              refine yS (by kernel_rfl : opAt F3.o1 13 = some (some 33, .move (.tmp 32), none)) rfl rfl (fun w' hS => val_move rfl) ?_
              refine yS (by kernel_rfl : opAt F3.o1 14 = some (some 34, .move (.tmp 2), (some (13, false)))) rfl rfl (fun w' hS => val_move rfl) ?_
              refine yS (by kernel_rfl : opAt F3.o1 15 = some (some 35, .call { callee := .builtin .len, args := #[(.tmp 34)], argTypes := #[23] }, (some (13, false)))) rfl rfl (fun w' hS => ha.lenV rfl Try.underlying23 w' ) ?_
              refine yS (by kernel_rfl : opAt F3.o1 16 = some (some 36, .binOp .gtr 3 (.tmp 35) (.const (.int .i64 60)) 3, (some (13, false)))) rfl rfl (fun w' hS => val_F (val_gtr rfl rfl) (by omega)) ?_
              refine yS (by kernel_rfl : opAt F3.o1 17 = some (some 37, .pick (.tmp 33) (.const (.bool true)) (.tmp 36), none)) rfl rfl (fun w' hS => val_pick_f rfl rfl) ?_
              refine yS (by kernel_rfl : opAt F3.o1 18 = some (some 38, .move (.tmp 37), none)) rfl rfl (fun w' hS => val_move rfl) ?_
              refine yS (by kernel_rfl : opAt F3.o1 19 = some (some 39, .move (.tmp 3), (some (18, false)))) rfl rfl (fun w' hS => val_move rfl) ?_
              refine yS (by kernel_rfl : opAt F3.o1 20 = some (some 40, .call { callee := .builtin .len, args := #[(.tmp 39)], argTypes := #[23] }, (some (18, false)))) rfl rfl (fun w' hS => hbb.lenV rfl Try.underlying23 w' ) ?_
              refine yS (by kernel_rfl : opAt F3.o1 21 = some (some 41, .binOp .gtr 3 (.tmp 40) (.const (.int .i64 60)) 3, (some (18, false)))) rfl rfl (fun w' hS => val_F (val_gtr rfl rfl) (by omega)) ?_
              refine yS (by kernel_rfl : opAt F3.o1 22 = some (some 42, .pick (.tmp 38) (.const (.bool true)) (.tmp 41), none)) rfl rfl (fun w' hS => val_pick_f rfl rfl) ?_
              refine yS (by kernel_rfl : opAt F3.o1 23 = some (some 43, .move (.tmp 42), none)) rfl rfl (fun w' hS => val_move rfl) ?_
              refine yS (by kernel_rfl : opAt F3.o1 24 = some (some 44, .move (.tmp 2), (some (23, false)))) rfl rfl (fun w' hS => val_move rfl) ?_
              refine cS (by kernel_rfl : opAt F3.o1 25 = some (some 45, .call { callee := .value (.func 10), args := #[(.tmp 44)], argTypes := #[23] }, (some (23, false)))) rfl rfl (ent Try.call10 rfl) (short_ok ha) ?_
              rintro vw37 w37 ⟨rfl, rfl⟩
              rw [decide_eq_true (hE)]
              refine ⟨trivial, ?_⟩
              refine yS (by kernel_rfl : opAt F3.o1 26 = some (some 46, .unOp .not 4 (.tmp 45), (some (23, false)))) rfl rfl (fun w' hS => val_not rfl) ?_
              refine yS (by kernel_rfl : opAt F3.o1 27 = some (some 47, .pick (.tmp 43) (.const (.bool true)) (.tmp 46), none)) rfl rfl (fun w' hS => val_pick_f rfl rfl) ?_
              refine yS (by kernel_rfl : opAt F3.o1 28 = some (some 48, .move (.tmp 47), none)) rfl rfl (fun w' hS => val_move rfl) ?_
              refine yS (by kernel_rfl : opAt F3.o1 29 = some (some 49, .move (.tmp 3), (some (28, false)))) rfl rfl (fun w' hS => val_move rfl) ?_
              refine cS (by kernel_rfl : opAt F3.o1 30 = some (some 50, .call { callee := .value (.func 10), args := #[(.tmp 49)], argTypes := #[23] }, (some (28, false)))) rfl rfl (ent Try.call10 rfl) (short_ok hbb) ?_
              rintro vw38 w38 ⟨rfl, rfl⟩
              rw [decide_eq_false (hG)]
              refine ⟨trivial, ?_⟩
              refine yS (by kernel_rfl : opAt F3.o1 31 = some (some 51, .unOp .not 4 (.tmp 50), (some (28, false)))) rfl rfl (fun w' hS => val_not rfl) ?_
              refine yS (by kernel_rfl : opAt F3.o1 32 = some (some 52, .pick (.tmp 48) (.const (.bool true)) (.tmp 51), none)) rfl rfl (fun w' hS => val_pick_f rfl rfl) ?_
              refine Sch.nil ?_
              refine run_cond (x := F3.c6) (y := F3.c9) (o := .tmp 52) (b := true) (by kernel_rfl) rfl (fun _ => ?_) (fun h => by cases h)
              refine run_seq (x := F3.c7) (y := F3.c8) (by kernel_rfl) ?_
              refine run_plain (id := 2) (ops := F3.o2) [(0, false), (1, true)] (by kernel_rfl) (by kernel_rfl) ?_
              refine cS (by kernel_rfl : opAt F3.o2 0 = some (some 53, .call { callee := .value (.func 8), args := #[], argTypes := #[] }, none)) rfl rfl (ent Try.call8 rfl) (awake_ok hF) ?_
              rintro vw39 w39 ⟨rfl, hs⟩
              refine ⟨trivial, ?_⟩
              replace hF := hF.st hs
              replace hT := hT.trans hs (by simp)
              replace hl := hl.st hs (by first | decide | (simp <;> omega))
              replace ha := ha.st hs (by first | decide | (simp <;> omega))
              replace hbb := hbb.st hs (by first | decide | (simp <;> omega))
              replace hs1 := hs1.st hs (by first | decide | (simp <;> omega))
              refine yS (by kernel_rfl : opAt F3.o2 1 = some (some 8, .assign (.tmp 53), none)) rfl rfl (fun w' hS => val_assign rfl) ?_
              refine Sch.nil ?_
              refine run_ret1 (by kernel_rfl) Try.func3 Try.results3 rfl ?_
              exact ⟨rfl, hT.out1 (by decide)⟩
          · skip
            refine run_plain (id := 1) (ops := F3.o1) [(0, false), (1, true), (2, true), (3, true), (4, false), (5, true), (6, true), (7, true), (8, true), (9, false), (10, false), (11, true), (12, true), (13, true), (14, true), (15, true), (16, true), (17, true), (18, true), (19, true), (20, true), (21, true), (22, true), (23, true), (24, true), (25, false), (26, true), (27, true), (28, true), (29, true), (30, false), (31, true), (32, true)] (by kernel_rfl) (by kernel_rfl) ?_
            refine cS (by kernel_rfl : opAt F3.o1 0 = some (some 20, .call { callee := .value (.func 8), args := #[], argTypes := #[] }, none)) rfl rfl (ent Try.call8 rfl) (awake_ok hF) ?_
            rintro vw40 w40 ⟨rfl, hs⟩
            refine ⟨trivial, ?_⟩
            replace hF := hF.st hs
            replace hT := hT.trans hs (by simp)
            replace hl := hl.st hs (by first | decide | (simp <;> omega))
            replace ha := ha.st hs (by first | decide | (simp <;> omega))
            replace hbb := hbb.st hs (by first | decide | (simp <;> omega))
            refine yS (by kernel_rfl : opAt F3.o1 1 = some (some 21, .unOp .not 4 (.tmp 20), none)) rfl rfl (fun w' hS => val_not rfl) ?_
            refine yS (by kernel_rfl : opAt F3.o1 2 = some (some 22, .move (.tmp 21), none)) rfl rfl (fun w' hS => val_move rfl) ?_
            refine yS (by kernel_rfl : opAt F3.o1 3 = some (some 23, .move (.tmp 0), (some (2, false)))) rfl rfl (fun w' hS => val_move rfl) ?_
            refine cS (by kernel_rfl : opAt F3.o1 4 = some (some 24, .call { callee := .value (.func 9), args := #[(.tmp 23)], argTypes := #[22] }, (some (2, false)))) rfl rfl (ent Try.call9 rfl) (few_any hl) ?_
            rintro vw41 w41 ⟨rfl, rfl⟩
            rw [decide_eq_true (hA)]
            refine ⟨trivial, ?_⟩
            refine yS (by kernel_rfl : opAt F3.o1 5 = some (some 25, .unOp .not 4 (.tmp 24), (some (2, false)))) rfl rfl (fun w' hS => val_not rfl) ?_
            refine yS (by kernel_rfl : opAt F3.o1 6 = some (some 26, .pick (.tmp 22) (.const (.bool true)) (.tmp 25), none)) rfl rfl (fun w' hS => val_pick_f rfl rfl) ?_
            refine yS (by kernel_rfl : opAt F3.o1 7 = some (some 27, .move (.tmp 26), none)) rfl rfl (fun w' hS => val_move rfl) ?_
            refine yS (by kernel_rfl : opAt F3.o1 8 = some (some 28, .move (.tmp 1), (some (7, false)))) rfl rfl (fun w' hS => val_move rfl) ?_
            refine aS (by kernel_rfl : opAt F3.o1 9 = some (some 29, .buildSlice 23 1 #[(0, (.tmp 28))], (some (7, false)))) rfl rfl (a_buildSlice (ys := ([⟨s⟩] : List Tx)) (e := 9) (bytes := 16) hF (by kernel_rfl) rfl (by decide) (by decide) ⟨rfl, ⟨_, rfl, rv_tx.2 ⟨rfl, (by first | omega | (simp only; omega))⟩⟩, trivial⟩) ?_
            rintro v29 w42 ⟨hs, hs1, hF⟩
            refine ⟨trivial, ?_⟩
            replace hT := hT.trans hs (by simp)
            replace hl := hl.st hs (by first | decide | (simp <;> omega))
            replace ha := ha.st hs (by first | decide | (simp <;> omega))
            replace hbb := hbb.st hs (by first | decide | (simp <;> omega))
            refine cS (by kernel_rfl : opAt F3.o1 10 = some (some 30, .call { callee := .value (.func 10), args := #[(.tmp 29)], argTypes := #[23] }, (some (7, false)))) rfl rfl (ent Try.call10 rfl) (short_ok hs1) ?_
            rintro vw43 w43 ⟨rfl, rfl⟩
            rw [decide_eq_true (hB)]
            refine ⟨trivial, ?_⟩
            refine yS (by kernel_rfl : opAt F3.o1 11 = some (some 31, .unOp .not 4 (.tmp 30), (some (7, false)))) rfl rfl (fun w' hS => val_not rfl) ?_
            refine yS (by kernel_rfl : opAt F3.o1 12 = some (some 32, .pick (.tmp 27) (.const (.bool true)) (.tmp 31), none)) rfl rfl (fun w' hS => val_pick_f rfl rfl) ?_
            refine yS (by kernel_rfl : opAt F3.o1 13 = some (some 33, .move (.tmp 32), none)) rfl rfl (fun w' hS => val_move rfl) ?_
            refine yS (by kernel_rfl : opAt F3.o1 14 = some (some 34, .move (.tmp 2), (some (13, false)))) rfl rfl (fun w' hS => val_move rfl) ?_
            refine yS (by kernel_rfl : opAt F3.o1 15 = some (some 35, .call { callee := .builtin .len, args := #[(.tmp 34)], argTypes := #[23] }, (some (13, false)))) rfl rfl (fun w' hS => ha.lenV rfl Try.underlying23 w' ) ?_
            refine yS (by kernel_rfl : opAt F3.o1 16 = some (some 36, .binOp .gtr 3 (.tmp 35) (.const (.int .i64 60)) 3, (some (13, false)))) rfl rfl (fun w' hS => val_F (val_gtr rfl rfl) (by omega)) ?_
            refine yS (by kernel_rfl : opAt F3.o1 17 = some (some 37, .pick (.tmp 33) (.const (.bool true)) (.tmp 36), none)) rfl rfl (fun w' hS => val_pick_f rfl rfl) ?_
            refine yS (by kernel_rfl : opAt F3.o1 18 = some (some 38, .move (.tmp 37), none)) rfl rfl (fun w' hS => val_move rfl) ?_
            refine yS (by kernel_rfl : opAt F3.o1 19 = some (some 39, .move (.tmp 3), (some (18, false)))) rfl rfl (fun w' hS => val_move rfl) ?_
            refine yS (by kernel_rfl : opAt F3.o1 20 = some (some 40, .call { callee := .builtin .len, args := #[(.tmp 39)], argTypes := #[23] }, (some (18, false)))) rfl rfl (fun w' hS => hbb.lenV rfl Try.underlying23 w' ) ?_
            refine yS (by kernel_rfl : opAt F3.o1 21 = some (some 41, .binOp .gtr 3 (.tmp 40) (.const (.int .i64 60)) 3, (some (18, false)))) rfl rfl (fun w' hS => val_F (val_gtr rfl rfl) (by omega)) ?_
            refine yS (by kernel_rfl : opAt F3.o1 22 = some (some 42, .pick (.tmp 38) (.const (.bool true)) (.tmp 41), none)) rfl rfl (fun w' hS => val_pick_f rfl rfl) ?_
            refine yS (by kernel_rfl : opAt F3.o1 23 = some (some 43, .move (.tmp 42), none)) rfl rfl (fun w' hS => val_move rfl) ?_
            refine yS (by kernel_rfl : opAt F3.o1 24 = some (some 44, .move (.tmp 2), (some (23, false)))) rfl rfl (fun w' hS => val_move rfl) ?_
            refine cS (by kernel_rfl : opAt F3.o1 25 = some (some 45, .call { callee := .value (.func 10), args := #[(.tmp 44)], argTypes := #[23] }, (some (23, false)))) rfl rfl (ent Try.call10 rfl) (short_ok ha) ?_
            rintro vw44 w44 ⟨rfl, rfl⟩
            rw [decide_eq_false (hE)]
            refine ⟨trivial, ?_⟩
            refine yS (by kernel_rfl : opAt F3.o1 26 = some (some 46, .unOp .not 4 (.tmp 45), (some (23, false)))) rfl rfl (fun w' hS => val_not rfl) ?_
            refine yS (by kernel_rfl : opAt F3.o1 27 = some (some 47, .pick (.tmp 43) (.const (.bool true)) (.tmp 46), none)) rfl rfl (fun w' hS => val_pick_f rfl rfl) ?_
            refine yS (by kernel_rfl : opAt F3.o1 28 = some (some 48, .move (.tmp 47), none)) rfl rfl (fun w' hS => val_move rfl) ?_
            refine pS (by kernel_rfl : opAt F3.o1 29 = some (some 49, .move (.tmp 3), (some (28, false)))) rfl rfl ?_
            refine pW (by kernel_rfl : opAt F3.o1 30 = some (some 50, .call { callee := .value (.func 10), args := #[(.tmp 49)], argTypes := #[23] }, (some (28, false)))) rfl rfl trivial ?_
            refine pS (by kernel_rfl : opAt F3.o1 31 = some (some 51, .unOp .not 4 (.tmp 50), (some (28, false)))) rfl rfl ?_
            refine yS (by kernel_rfl : opAt F3.o1 32 = some (some 52, .pick (.tmp 48) (.const (.bool true)) (.tmp 51), none)) rfl rfl (fun w' hS => val_pick_t rfl rfl) ?_
            refine Sch.nil ?_
            refine run_cond (x := F3.c6) (y := F3.c9) (o := .tmp 52) (b := true) (by kernel_rfl) rfl (fun _ => ?_) (fun h => by cases h)
            refine run_seq (x := F3.c7) (y := F3.c8) (by kernel_rfl) ?_
            refine run_plain (id := 2) (ops := F3.o2) [(0, false), (1, true)] (by kernel_rfl) (by kernel_rfl) ?_
            refine cS (by kernel_rfl : opAt F3.o2 0 = some (some 53, .call { callee := .value (.func 8), args := #[], argTypes := #[] }, none)) rfl rfl (ent Try.call8 rfl) (awake_ok hF) ?_
            rintro vw45 w45 ⟨rfl, hs⟩
            refine ⟨trivial, ?_⟩
            replace hF := hF.st hs
            replace hT := hT.trans hs (by simp)
            replace hl := hl.st hs (by first | decide | (simp <;> omega))
            replace ha := ha.st hs (by first | decide | (simp <;> omega))
            replace hbb := hbb.st hs (by first | decide | (simp <;> omega))
            replace hs1 := hs1.st hs (by first | decide | (simp <;> omega))
            refine yS (by kernel_rfl : opAt F3.o2 1 = some (some 8, .assign (.tmp 53), none)) rfl rfl (fun w' hS => val_assign rfl) ?_
            refine Sch.nil ?_
            refine run_ret1 (by kernel_rfl) Try.func3 Try.results3 rfl ?_
            exact ⟨rfl, hT.out1 (by decide)⟩
        · skip
          refine run_plain (id := 1) (ops := F3.o1) [(0, false), (1, true), (2, true), (3, true), (4, false), (5, true), (6, true), (7, true), (8, true), (9, false), (10, false), (11, true), (12, true), (13, true), (14, true), (15, true), (16, true), (17, true), (18, true), (19, true), (20, true), (21, true), (22, true), (23, true), (24, true), (25, false), (26, true), (27, true), (28, true), (29, true), (30, false), (31, true), (32, true)] (by kernel_rfl) (by kernel_rfl) ?_
          refine cS (by kernel_rfl : opAt F3.o1 0 = some (some 20, .call { callee := .value (.func 8), args := #[], argTypes := #[] }, none)) rfl rfl (ent Try.call8 rfl) (awake_ok hF) ?_
          rintro vw46 w46 ⟨rfl, hs⟩
          refine ⟨trivial, ?_⟩
          replace hF := hF.st hs
          replace hT := hT.trans hs (by simp)
          replace hl := hl.st hs (by first | decide | (simp <;> omega))
          replace ha := ha.st hs (by first | decide | (simp <;> omega))
          replace hbb := hbb.st hs (by first | decide | (simp <;> omega))
          refine yS (by kernel_rfl : opAt F3.o1 1 = some (some 21, .unOp .not 4 (.tmp 20), none)) rfl rfl (fun w' hS => val_not rfl) ?_
          refine yS (by kernel_rfl : opAt F3.o1 2 = some (some 22, .move (.tmp 21), none)) rfl rfl (fun w' hS => val_move rfl) ?_
          refine yS (by kernel_rfl : opAt F3.o1 3 = some (some 23, .move (.tmp 0), (some (2, false)))) rfl rfl (fun w' hS => val_move rfl) ?_
          refine cS (by kernel_rfl : opAt F3.o1 4 = some (some 24, .call { callee := .value (.func 9), args := #[(.tmp 23)], argTypes := #[22] }, (some (2, false)))) rfl rfl (ent Try.call9 rfl) (few_any hl) ?_
          rintro vw47 w47 ⟨rfl, rfl⟩
          rw [decide_eq_true (hA)]
          refine ⟨trivial, ?_⟩
          refine yS (by kernel_rfl : opAt F3.o1 5 = some (some 25, .unOp .not 4 (.tmp 24), (some (2, false)))) rfl rfl (fun w' hS => val_not rfl) ?_
          refine yS (by kernel_rfl : opAt F3.o1 6 = some (some 26, .pick (.tmp 22) (.const (.bool true)) (.tmp 25), none)) rfl rfl (fun w' hS => val_pick_f rfl rfl) ?_
          refine yS (by kernel_rfl : opAt F3.o1 7 = some (some 27, .move (.tmp 26), none)) rfl rfl (fun w' hS => val_move rfl) ?_
          refine yS (by kernel_rfl : opAt F3.o1 8 = some (some 28, .move (.tmp 1), (some (7, false)))) rfl rfl (fun w' hS => val_move rfl) ?_
          refine aS (by kernel_rfl : opAt F3.o1 9 = some (some 29, .buildSlice 23 1 #[(0, (.tmp 28))], (some (7, false)))) rfl rfl (a_buildSlice (ys := ([⟨s⟩] : List Tx)) (e := 9) (bytes := 16) hF (by kernel_rfl) rfl (by decide) (by decide) ⟨rfl, ⟨_, rfl, rv_tx.2 ⟨rfl, (by first | omega | (simp only; omega))⟩⟩, trivial⟩) ?_
          rintro v29 w48 ⟨hs, hs1, hF⟩
          refine ⟨trivial, ?_⟩
          replace hT := hT.trans hs (by simp)
          replace hl := hl.st hs (by first | decide | (simp <;> omega))
          replace ha := ha.st hs (by first | decide | (simp <;> omega))
          replace hbb := hbb.st hs (by first | decide | (simp <;> omega))
          refine cS (by kernel_rfl : opAt F3.o1 10 = some (some 30, .call { callee := .value (.func 10), args := #[(.tmp 29)], argTypes := #[23] }, (some (7, false)))) rfl rfl (ent Try.call10 rfl) (short_ok hs1) ?_
          rintro vw49 w49 ⟨rfl, rfl⟩
          rw [decide_eq_true (hB)]
          refine ⟨trivial, ?_⟩
          refine yS (by kernel_rfl : opAt F3.o1 11 = some (some 31, .unOp .not 4 (.tmp 30), (some (7, false)))) rfl rfl (fun w' hS => val_not rfl) ?_
          refine yS (by kernel_rfl : opAt F3.o1 12 = some (some 32, .pick (.tmp 27) (.const (.bool true)) (.tmp 31), none)) rfl rfl (fun w' hS => val_pick_f rfl rfl) ?_
          refine yS (by kernel_rfl : opAt F3.o1 13 = some (some 33, .move (.tmp 32), none)) rfl rfl (fun w' hS => val_move rfl) ?_
          refine yS (by kernel_rfl : opAt F3.o1 14 = some (some 34, .move (.tmp 2), (some (13, false)))) rfl rfl (fun w' hS => val_move rfl) ?_
          refine yS (by kernel_rfl : opAt F3.o1 15 = some (some 35, .call { callee := .builtin .len, args := #[(.tmp 34)], argTypes := #[23] }, (some (13, false)))) rfl rfl (fun w' hS => ha.lenV rfl Try.underlying23 w' ) ?_
          refine yS (by kernel_rfl : opAt F3.o1 16 = some (some 36, .binOp .gtr 3 (.tmp 35) (.const (.int .i64 60)) 3, (some (13, false)))) rfl rfl (fun w' hS => val_F (val_gtr rfl rfl) (by omega)) ?_
          refine yS (by kernel_rfl : opAt F3.o1 17 = some (some 37, .pick (.tmp 33) (.const (.bool true)) (.tmp 36), none)) rfl rfl (fun w' hS => val_pick_f rfl rfl) ?_
          refine yS (by kernel_rfl : opAt F3.o1 18 = some (some 38, .move (.tmp 37), none)) rfl rfl (fun w' hS => val_move rfl) ?_
          refine yS (by kernel_rfl : opAt F3.o1 19 = some (some 39, .move (.tmp 3), (some (18, false)))) rfl rfl (fun w' hS => val_move rfl) ?_
          refine yS (by kernel_rfl : opAt F3.o1 20 = some (some 40, .call { callee := .builtin .len, args := #[(.tmp 39)], argTypes := #[23] }, (some (18, false)))) rfl rfl (fun w' hS => hbb.lenV rfl Try.underlying23 w' ) ?_
          refine yS (by kernel_rfl : opAt F3.o1 21 = some (some 41, .binOp .gtr 3 (.tmp 40) (.const (.int .i64 60)) 3, (some (18, false)))) rfl rfl (fun w' hS => val_T (val_gtr rfl rfl) (by omega)) ?_
          refine yS (by kernel_rfl : opAt F3.o1 22 = some (some 42, .pick (.tmp 38) (.const (.bool true)) (.tmp 41), none)) rfl rfl (fun w' hS => val_pick_f rfl rfl) ?_
          refine yS (by kernel_rfl : opAt F3.o1 23 = some (some 43, .move (.tmp 42), none)) rfl rfl (fun w' hS => val_move rfl) ?_
          refine pS (by kernel_rfl : opAt F3.o1 24 = some (some 44, .move (.tmp 2), (some (23, false)))) rfl rfl ?_
          refine pW (by kernel_rfl : opAt F3.o1 25 = some (some 45, .call { callee := .value (.func 10), args := #[(.tmp 44)], argTypes := #[23] }, (some (23, false)))) rfl rfl trivial ?_
          refine pS (by kernel_rfl : opAt F3.o1 26 = some (some 46, .unOp .not 4 (.tmp 45), (some (23, false)))) rfl rfl ?_
          refine yS (by kernel_rfl : opAt F3.o1 27 = some (some 47, .pick (.tmp 43) (.const (.bool true)) (.tmp 46), none)) rfl rfl (fun w' hS => val_pick_t rfl rfl) ?_
          refine yS (by kernel_rfl : opAt F3.o1 28 = some (some 48, .move (.tmp 47), none)) rfl rfl (fun w' hS => val_move rfl) ?_
          refine pS (by kernel_rfl : opAt F3.o1 29 = some (some 49, .move (.tmp 3), (some (28, false)))) rfl rfl ?_
          refine pW (by kernel_rfl : opAt F3.o1 30 = some (some 50, .call { callee := .value (.func 10), args := #[(.tmp 49)], argTypes := #[23] }, (some (28, false)))) rfl rfl trivial ?_
          refine pS (by kernel_rfl : opAt F3.o1 31 = some (some 51, .unOp .not 4 (.tmp 50), (some (28, false)))) rfl rfl ?_
          refine yS (by kernel_rfl : opAt F3.o1 32 = some (some 52, .pick (.tmp 48) (.const (.bool true)) (.tmp 51), none)) rfl rfl (fun w' hS => val_pick_t rfl rfl) ?_
          refine Sch.nil ?_
          refine run_cond (x := F3.c6) (y := F3.c9) (o := .tmp 52) (b := true) (by kernel_rfl) rfl (fun _ => ?_) (fun h => by cases h)
          refine run_seq (x := F3.c7) (y := F3.c8) (by kernel_rfl) ?_
          refine run_plain (id := 2) (ops := F3.o2) [(0, false), (1, true)] (by kernel_rfl) (by kernel_rfl) ?_
          refine cS (by kernel_rfl : opAt F3.o2 0 = some (some 53, .call { callee := .value (.func 8), args := #[], argTypes := #[] }, none)) rfl rfl (ent Try.call8 rfl) (awake_ok hF) ?_
          rintro vw50 w50 ⟨rfl, hs⟩
          refine ⟨trivial, ?_⟩
          replace hF := hF.st hs
          replace hT := hT.trans hs (by simp)
          replace hl := hl.st hs (by first | decide | (simp <;> omega))
          replace ha := ha.st hs (by first | decide | (simp <;> omega))
          replace hbb := hbb.st hs (by first | decide | (simp <;> omega))
          replace hs1 := hs1.st hs (by first | decide | (simp <;> omega))
          refine yS (by kernel_rfl : opAt F3.o2 1 = some (some 8, .assign (.tmp 53), none)) rfl rfl (fun w' hS => val_assign rfl) ?_
          refine Sch.nil ?_
          refine run_ret1 (by kernel_rfl) Try.func3 Try.results3 rfl ?_
          exact ⟨rfl, hT.out1 (by decide)⟩
      · skip
        refine run_plain (id := 1) (ops := F3.o1) [(0, false), (1, true), (2, true), (3, true), (4, false), (5, true), (6, true), (7, true), (8, true), (9, false), (10, false), (11, true), (12, true), (13, true), (14, true), (15, true), (16, true), (17, true), (18, true), (19, true), (20, true), (21, true), (22, true), (23, true), (24, true), (25, false), (26, true), (27, true), (28, true), (29, true), (30, false), (31, true), (32, true)] (by kernel_rfl) (by kernel_rfl) ?_
        refine cS (by kernel_rfl : opAt F3.o1 0 = some (some 20, .call { callee := .value (.func 8), args := #[], argTypes := #[] }, none)) rfl rfl (ent Try.call8 rfl) (awake_ok hF) ?_
        rintro vw51 w51 ⟨rfl, hs⟩
        refine ⟨trivial, ?_⟩
        replace hF := hF.st hs
        replace hT := hT.trans hs (by simp)
        replace hl := hl.st hs (by first | decide | (simp <;> omega))
        replace ha := ha.st hs (by first | decide | (simp <;> omega))
        replace hbb := hbb.st hs (by first | decide | (simp <;> omega))
        refine yS (by kernel_rfl : opAt F3.o1 1 = some (some 21, .unOp .not 4 (.tmp 20), none)) rfl rfl (fun w' hS => val_not rfl) ?_
        refine yS (by kernel_rfl : opAt F3.o1 2 = some (some 22, .move (.tmp 21), none)) rfl rfl (fun w' hS => val_move rfl) ?_
        refine yS (by kernel_rfl : opAt F3.o1 3 = some (some 23, .move (.tmp 0), (some (2, false)))) rfl rfl (fun w' hS => val_move rfl) ?_
        refine cS (by kernel_rfl : opAt F3.o1 4 = some (some 24, .call { callee := .value (.func 9), args := #[(.tmp 23)], argTypes := #[22] }, (some (2, false)))) rfl rfl (ent Try.call9 rfl) (few_any hl) ?_
        rintro vw52 w52 ⟨rfl, rfl⟩
        rw [decide_eq_true (hA)]
        refine ⟨trivial, ?_⟩
        refine yS (by kernel_rfl : opAt F3.o1 5 = some (some 25, .unOp .not 4 (.tmp 24), (some (2, false)))) rfl rfl (fun w' hS => val_not rfl) ?_
        refine yS (by kernel_rfl : opAt F3.o1 6 = some (some 26, .pick (.tmp 22) (.const (.bool true)) (.tmp 25), none)) rfl rfl (fun w' hS => val_pick_f rfl rfl) ?_
        refine yS (by kernel_rfl : opAt F3.o1 7 = some (some 27, .move (.tmp 26), none)) rfl rfl (fun w' hS => val_move rfl) ?_
        refine yS (by kernel_rfl : opAt F3.o1 8 = some (some 28, .move (.tmp 1), (some (7, false)))) rfl rfl (fun w' hS => val_move rfl) ?_
        refine aS (by kernel_rfl : opAt F3.o1 9 = some (some 29, .buildSlice 23 1 #[(0, (.tmp 28))], (some (7, false)))) rfl rfl (a_buildSlice (ys := ([⟨s⟩] : List Tx)) (e := 9) (bytes := 16) hF (by kernel_rfl) rfl (by decide) (by decide) ⟨rfl, ⟨_, rfl, rv_tx.2 ⟨rfl, (by first | omega | (simp only; omega))⟩⟩, trivial⟩) ?_
        rintro v29 w53 ⟨hs, hs1, hF⟩
        refine ⟨trivial, ?_⟩
        replace hT := hT.trans hs (by simp)
        replace hl := hl.st hs (by first | decide | (simp <;> omega))
        replace ha := ha.st hs (by first | decide | (simp <;> omega))
        replace hbb := hbb.st hs (by first | decide | (simp <;> omega))
        refine cS (by kernel_rfl : opAt F3.o1 10 = some (some 30, .call { callee := .value (.func 10), args := #[(.tmp 29)], argTypes := #[23] }, (some (7, false)))) rfl rfl (ent Try.call10 rfl) (short_ok hs1) ?_
        rintro vw54 w54 ⟨rfl, rfl⟩
        rw [decide_eq_true (hB)]
        refine ⟨trivial, ?_⟩
        refine yS (by kernel_rfl : opAt F3.o1 11 = some (some 31, .unOp .not 4 (.tmp 30), (some (7, false)))) rfl rfl (fun w' hS => val_not rfl) ?_
        refine yS (by kernel_rfl : opAt F3.o1 12 = some (some 32, .pick (.tmp 27) (.const (.bool true)) (.tmp 31), none)) rfl rfl (fun w' hS => val_pick_f rfl rfl) ?_
        refine yS (by kernel_rfl : opAt F3.o1 13 = some (some 33, .move (.tmp 32), none)) rfl rfl (fun w' hS => val_move rfl) ?_
        refine yS (by kernel_rfl : opAt F3.o1 14 = some (some 34, .move (.tmp 2), (some (13, false)))) rfl rfl (fun w' hS => val_move rfl) ?_
        refine yS (by kernel_rfl : opAt F3.o1 15 = some (some 35, .call { callee := .builtin .len, args := #[(.tmp 34)], argTypes := #[23] }, (some (13, false)))) rfl rfl (fun w' hS => ha.lenV rfl Try.underlying23 w' ) ?_
        refine yS (by kernel_rfl : opAt F3.o1 16 = some (some 36, .binOp .gtr 3 (.tmp 35) (.const (.int .i64 60)) 3, (some (13, false)))) rfl rfl (fun w' hS => val_T (val_gtr rfl rfl) (by omega)) ?_
        refine yS (by kernel_rfl : opAt F3.o1 17 = some (some 37, .pick (.tmp 33) (.const (.bool true)) (.tmp 36), none)) rfl rfl (fun w' hS => val_pick_f rfl rfl) ?_
        refine yS (by kernel_rfl : opAt F3.o1 18 = some (some 38, .move (.tmp 37), none)) rfl rfl (fun w' hS => val_move rfl) ?_
        refine pS (by kernel_rfl : opAt F3.o1 19 = some (some 39, .move (.tmp 3), (some (18, false)))) rfl rfl ?_
        refine pS (by kernel_rfl : opAt F3.o1 20 = some (some 40, .call { callee := .builtin .len, args := #[(.tmp 39)], argTypes := #[23] }, (some (18, false)))) rfl rfl ?_
        refine pS (by kernel_rfl : opAt F3.o1 21 = some (some 41, .binOp .gtr 3 (.tmp 40) (.const (.int .i64 60)) 3, (some (18, false)))) rfl rfl ?_
        refine yS (by kernel_rfl : opAt F3.o1 22 = some (some 42, .pick (.tmp 38) (.const (.bool true)) (.tmp 41), none)) rfl rfl (fun w' hS => val_pick_t rfl rfl) ?_
        refine yS (by kernel_rfl : opAt F3.o1 23 = some (some 43, .move (.tmp 42), none)) rfl rfl (fun w' hS => val_move rfl) ?_
        refine pS (by kernel_rfl : opAt F3.o1 24 = some (some 44, .move (.tmp 2), (some (23, false)))) rfl rfl ?_
        refine pW (by kernel_rfl : opAt F3.o1 25 = some (some 45, .call { callee := .value (.func 10), args := #[(.tmp 44)], argTypes := #[23] }, (some (23, false)))) rfl rfl trivial ?_
        refine pS (by kernel_rfl : opAt F3.o1 26 = some (some 46, .unOp .not 4 (.tmp 45), (some (23, false)))) rfl rfl ?_
        refine yS (by kernel_rfl : opAt F3.o1 27 = some (some 47, .pick (.tmp 43) (.const (.bool true)) (.tmp 46), none)) rfl rfl (fun w' hS => val_pick_t rfl rfl) ?_
        refine yS (by kernel_rfl : opAt F3.o1 28 = some (some 48, .move (.tmp 47), none)) rfl rfl (fun w' hS => val_move rfl) ?_
        refine pS (by kernel_rfl : opAt F3.o1 29 = some (some 49, .move (.tmp 3), (some (28, false)))) rfl rfl ?_
        refine pW (by kernel_rfl : opAt F3.o1 30 = some (some 50, .call { callee := .value (.func 10), args := #[(.tmp 49)], argTypes := #[23] }, (some (28, false)))) rfl rfl trivial ?_
        refine pS (by kernel_rfl : opAt F3.o1 31 = some (some 51, .unOp .not 4 (.tmp 50), (some (28, false)))) rfl rfl ?_
        refine yS (by kernel_rfl : opAt F3.o1 32 = some (some 52, .pick (.tmp 48) (.const (.bool true)) (.tmp 51), none)) rfl rfl (fun w' hS => val_pick_t rfl rfl) ?_
        refine Sch.nil ?_
        refine run_cond (x := F3.c6) (y := F3.c9) (o := .tmp 52) (b := true) (by kernel_rfl) rfl (fun _ => ?_) (fun h => by cases h)
        refine run_seq (x := F3.c7) (y := F3.c8) (by kernel_rfl) ?_
        refine run_plain (id := 2) (ops := F3.o2) [(0, false), (1, true)] (by kernel_rfl) (by kernel_rfl) ?_
        refine cS (by kernel_rfl : opAt F3.o2 0 = some (some 53, .call { callee := .value (.func 8), args := #[], argTypes := #[] }, none)) rfl rfl (ent Try.call8 rfl) (awake_ok hF) ?_
        rintro vw55 w55 ⟨rfl, hs⟩
        refine ⟨trivial, ?_⟩
        replace hF := hF.st hs
        replace hT := hT.trans hs (by simp)
        replace hl := hl.st hs (by first | decide | (simp <;> omega))
        replace ha := ha.st hs (by first | decide | (simp <;> omega))
        replace hbb := hbb.st hs (by first | decide | (simp <;> omega))
        replace hs1 := hs1.st hs (by first | decide | (simp <;> omega))
        refine yS (by kernel_rfl : opAt F3.o2 1 = some (some 8, .assign (.tmp 53), none)) rfl rfl (fun w' hS => val_assign rfl) ?_
        refine Sch.nil ?_
        refine run_ret1 (by kernel_rfl) Try.func3 Try.results3 rfl ?_
        exact ⟨rfl, hT.out1 (by decide)⟩
    · skip
      refine run_plain (id := 1) (ops := F3.o1) [(0, false), (1, true), (2, true), (3, true), (4, false), (5, true), (6, true), (7, true), (8, true), (9, false), (10, false), (11, true), (12, true), (13, true), (14, true), (15, true), (16, true), (17, true), (18, true), (19, true), (20, true), (21, true), (22, true), (23, true), (24, true), (25, false), (26, true), (27, true), (28, true), (29, true), (30, false), (31, true), (32, true)] (by kernel_rfl) (by kernel_rfl) ?_
      refine cS (by kernel_rfl : opAt F3.o1 0 = some (some 20, .call { callee := .value (.func 8), args := #[], argTypes := #[] }, none)) rfl rfl (ent Try.call8 rfl) (awake_ok hF) ?_
      rintro vw56 w56 ⟨rfl, hs⟩
      refine ⟨trivial, ?_⟩
      replace hF := hF.st hs
      replace hT := hT.trans hs (by simp)
      replace hl := hl.st hs (by first | decide | (simp <;> omega))
      replace ha := ha.st hs (by first | decide | (simp <;> omega))
      replace hbb := hbb.st hs (by first | decide | (simp <;> omega))
      refine yS (by kernel_rfl : opAt F3.o1 1 = some (some 21, .unOp .not 4 (.tmp 20), none)) rfl rfl (fun w' hS => val_not rfl) ?_
      refine yS (by kernel_rfl : opAt F3.o1 2 = some (some 22, .move (.tmp 21), none)) rfl rfl (fun w' hS => val_move rfl) ?_
      refine yS (by kernel_rfl : opAt F3.o1 3 = some (some 23, .move (.tmp 0), (some (2, false)))) rfl rfl (fun w' hS => val_move rfl) ?_
      refine cS (by kernel_rfl : opAt F3.o1 4 = some (some 24, .call { callee := .value (.func 9), args := #[(.tmp 23)], argTypes := #[22] }, (some (2, false)))) rfl rfl (ent Try.call9 rfl) (few_any hl) ?_
      rintro vw57 w57 ⟨rfl, rfl⟩
      rw [decide_eq_true (hA)]
      refine ⟨trivial, ?_⟩
      refine yS (by kernel_rfl : opAt F3.o1 5 = some (some 25, .unOp .not 4 (.tmp 24), (some (2, false)))) rfl rfl (fun w' hS => val_not rfl) ?_
      refine yS (by kernel_rfl : opAt F3.o1 6 = some (some 26, .pick (.tmp 22) (.const (.bool true)) (.tmp 25), none)) rfl rfl (fun w' hS => val_pick_f rfl rfl) ?_
      refine yS (by kernel_rfl : opAt F3.o1 7 = some (some 27, .move (.tmp 26), none)) rfl rfl (fun w' hS => val_move rfl) ?_
      refine yS (by kernel_rfl : opAt F3.o1 8 = some (some 28, .move (.tmp 1), (some (7, false)))) rfl rfl (fun w' hS => val_move rfl) ?_
      refine aS (by kernel_rfl : opAt F3.o1 9 = some (some 29, .buildSlice 23 1 #[(0, (.tmp 28))], (some (7, false)))) rfl rfl (a_buildSlice (ys := ([⟨s⟩] : List Tx)) (e := 9) (bytes := 16) hF (by kernel_rfl) rfl (by decide) (by decide) ⟨rfl, ⟨_, rfl, rv_tx.2 ⟨rfl, (by first | omega | (simp only; omega))⟩⟩, trivial⟩) ?_
      rintro v29 w58 ⟨hs, hs1, hF⟩
      refine ⟨trivial, ?_⟩
      replace hT := hT.trans hs (by simp)
      replace hl := hl.st hs (by first | decide | (simp <;> omega))
      replace ha := ha.st hs (by first | decide | (simp <;> omega))
      replace hbb := hbb.st hs (by first | decide | (simp <;> omega))
      refine cS (by kernel_rfl : opAt F3.o1 10 = some (some 30, .call { callee := .value (.func 10), args := #[(.tmp 29)], argTypes := #[23] }, (some (7, false)))) rfl rfl (ent Try.call10 rfl) (short_ok hs1) ?_
      rintro vw59 w59 ⟨rfl, rfl⟩
      rw [decide_eq_false (hB)]
      refine ⟨trivial, ?_⟩
      refine yS (by kernel_rfl : opAt F3.o1 11 = some (some 31, .unOp .not 4 (.tmp 30), (some (7, false)))) rfl rfl (fun w' hS => val_not rfl) ?_
      refine yS (by kernel_rfl : opAt F3.o1 12 = some (some 32, .pick (.tmp 27) (.const (.bool true)) (.tmp 31), none)) rfl rfl (fun w' hS => val_pick_f rfl rfl) ?_
      refine yS (by kernel_rfl : opAt F3.o1 13 = some (some 33, .move (.tmp 32), none)) rfl rfl (fun w' hS => val_move rfl) ?_
      refine pS (by kernel_rfl : opAt F3.o1 14 = some (some 34, .move (.tmp 2), (some (13, false)))) rfl rfl ?_
      refine pS (by kernel_rfl : opAt F3.o1 15 = some (some 35, .call { callee := .builtin .len, args := #[(.tmp 34)], argTypes := #[23] }, (some (13, false)))) rfl rfl ?_
      refine pS (by kernel_rfl : opAt F3.o1 16 = some (some 36, .binOp .gtr 3 (.tmp 35) (.const (.int .i64 60)) 3, (some (13, false)))) rfl rfl ?_
      refine yS (by kernel_rfl : opAt F3.o1 17 = some (some 37, .pick (.tmp 33) (.const (.bool true)) (.tmp 36), none)) rfl rfl (fun w' hS => val_pick_t rfl rfl) ?_
      refine yS (by kernel_rfl : opAt F3.o1 18 = some (some 38, .move (.tmp 37), none)) rfl rfl (fun w' hS => val_move rfl) ?_
      refine pS (by kernel_rfl : opAt F3.o1 19 = some (some 39, .move (.tmp 3), (some (18, false)))) rfl rfl ?_
      refine pS (by kernel_rfl : opAt F3.o1 20 = some (some 40, .call { callee := .builtin .len, args := #[(.tmp 39)], argTypes := #[23] }, (some (18, false)))) rfl rfl ?_
      refine pS (by kernel_rfl : opAt F3.o1 21 = some (some 41, .binOp .gtr 3 (.tmp 40) (.const (.int .i64 60)) 3, (some (18, false)))) rfl rfl ?_
      refine yS (by kernel_rfl : opAt F3.o1 22 = some (some 42, .pick (.tmp 38) (.const (.bool true)) (.tmp 41), none)) rfl rfl (fun w' hS => val_pick_t rfl rfl) ?_
      refine yS (by kernel_rfl : opAt F3.o1 23 = some (some 43, .move (.tmp 42), none)) rfl rfl (fun w' hS => val_move rfl) ?_
      refine pS (by kernel_rfl : opAt F3.o1 24 = some (some 44, .move (.tmp 2), (some (23, false)))) rfl rfl ?_
      refine pW (by kernel_rfl : opAt F3.o1 25 = some (some 45, .call { callee := .value (.func 10), args := #[(.tmp 44)], argTypes := #[23] }, (some (23, false)))) rfl rfl trivial ?_
      refine pS (by kernel_rfl : opAt F3.o1 26 = some (some 46, .unOp .not 4 (.tmp 45), (some (23, false)))) rfl rfl ?_
      refine yS (by kernel_rfl : opAt F3.o1 27 = some (some 47, .pick (.tmp 43) (.const (.bool true)) (.tmp 46), none)) rfl rfl (fun w' hS => val_pick_t rfl rfl) ?_
      refine yS (by kernel_rfl : opAt F3.o1 28 = some (some 48, .move (.tmp 47), none)) rfl rfl (fun w' hS => val_move rfl) ?_
      refine pS (by kernel_rfl : opAt F3.o1 29 = some (some 49, .move (.tmp 3), (some (28, false)))) rfl rfl ?_
      refine pW (by kernel_rfl : opAt F3.o1 30 = some (some 50, .call { callee := .value (.func 10), args := #[(.tmp 49)], argTypes := #[23] }, (some (28, false)))) rfl rfl trivial ?_
      refine pS (by kernel_rfl : opAt F3.o1 31 = some (some 51, .unOp .not 4 (.tmp 50), (some (28, false)))) rfl rfl ?_
      refine yS (by kernel_rfl : opAt F3.o1 32 = some (some 52, .pick (.tmp 48) (.const (.bool true)) (.tmp 51), none)) rfl rfl (fun w' hS => val_pick_t rfl rfl) ?_
      refine Sch.nil ?_
      refine run_cond (x := F3.c6) (y := F3.c9) (o := .tmp 52) (b := true) (by kernel_rfl) rfl (fun _ => ?_) (fun h => by cases h)
      refine run_seq (x := F3.c7) (y := F3.c8) (by kernel_rfl) ?_
      refine run_plain (id := 2) (ops := F3.o2) [(0, false), (1, true)] (by kernel_rfl) (by kernel_rfl) ?_
      refine cS (by kernel_rfl : opAt F3.o2 0 = some (some 53, .call { callee := .value (.func 8), args := #[], argTypes := #[] }, none)) rfl rfl (ent Try.call8 rfl) (awake_ok hF) ?_
      rintro vw60 w60 ⟨rfl, hs⟩
      refine ⟨trivial, ?_⟩
      replace hF := hF.st hs
      replace hT := hT.trans hs (by simp)
      replace hl := hl.st hs (by first | decide | (simp <;> omega))
      replace ha := ha.st hs (by first | decide | (simp <;> omega))
      replace hbb := hbb.st hs (by first | decide | (simp <;> omega))
      replace hs1 := hs1.st hs (by first | decide | (simp <;> omega))
      refine yS (by kernel_rfl : opAt F3.o2 1 = some (some 8, .assign (.tmp 53), none)) rfl rfl (fun w' hS => val_assign rfl) ?_
      refine Sch.nil ?_
      refine run_ret1 (by kernel_rfl) Try.func3 Try.results3 rfl ?_
      exact ⟨rfl, hT.out1 (by decide)⟩
  · skip
    refine run_plain (id := 1) (ops := F3.o1) [(0, false), (1, true), (2, true), (3, true), (4, false), (5, true), (6, true), (7, true), (8, true), (9, false), (10, false), (11, true), (12, true), (13, true), (14, true), (15, true), (16, true), (17, true), (18, true), (19, true), (20, true), (21, true), (22, true), (23, true), (24, true), (25, false), (26, true), (27, true), (28, true), (29, true), (30, false), (31, true), (32, true)] (by kernel_rfl) (by kernel_rfl) ?_
    refine cS (by kernel_rfl : opAt F3.o1 0 = some (some 20, .call { callee := .value (.func 8), args := #[], argTypes := #[] }, none)) rfl rfl (ent Try.call8 rfl) (awake_ok hF) ?_
    rintro vw61 w61 ⟨rfl, hs⟩
    refine ⟨trivial, ?_⟩
    replace hF := hF.st hs
    replace hT := hT.trans hs (by simp)
    replace hl := hl.st hs (by first | decide | (simp <;> omega))
    replace ha := ha.st hs (by first | decide | (simp <;> omega))
    replace hbb := hbb.st hs (by first | decide | (simp <;> omega))
    refine yS (by kernel_rfl : opAt F3.o1 1 = some (some 21, .unOp .not 4 (.tmp 20), none)) rfl rfl (fun w' hS => val_not rfl) ?_
    refine yS (by kernel_rfl : opAt F3.o1 2 = some (some 22, .move (.tmp 21), none)) rfl rfl (fun w' hS => val_move rfl) ?_
    refine yS (by kernel_rfl : opAt F3.o1 3 = some (some 23, .move (.tmp 0), (some (2, false)))) rfl rfl (fun w' hS => val_move rfl) ?_
    refine cS (by kernel_rfl : opAt F3.o1 4 = some (some 24, .call { callee := .value (.func 9), args := #[(.tmp 23)], argTypes := #[22] }, (some (2, false)))) rfl rfl (ent Try.call9 rfl) (few_any hl) ?_
    rintro vw62 w62 ⟨rfl, rfl⟩
    rw [decide_eq_false (hA)]
    refine ⟨trivial, ?_⟩
    refine yS (by kernel_rfl : opAt F3.o1 5 = some (some 25, .unOp .not 4 (.tmp 24), (some (2, false)))) rfl rfl (fun w' hS => val_not rfl) ?_
    refine yS (by kernel_rfl : opAt F3.o1 6 = some (some 26, .pick (.tmp 22) (.const (.bool true)) (.tmp 25), none)) rfl rfl (fun w' hS => val_pick_f rfl rfl) ?_
    refine yS (by kernel_rfl : opAt F3.o1 7 = some (some 27, .move (.tmp 26), none)) rfl rfl (fun w' hS => val_move rfl) ?_
    refine pS (by kernel_rfl : opAt F3.o1 8 = some (some 28, .move (.tmp 1), (some (7, false)))) rfl rfl ?_
    refine pW (by kernel_rfl : opAt F3.o1 9 = some (some 29, .buildSlice 23 1 #[(0, (.tmp 28))], (some (7, false)))) rfl rfl trivial ?_
    refine pW (by kernel_rfl : opAt F3.o1 10 = some (some 30, .call { callee := .value (.func 10), args := #[(.tmp 29)], argTypes := #[23] }, (some (7, false)))) rfl rfl trivial ?_
    refine pS (by kernel_rfl : opAt F3.o1 11 = some (some 31, .unOp .not 4 (.tmp 30), (some (7, false)))) rfl rfl ?_
    refine yS (by kernel_rfl : opAt F3.o1 12 = some (some 32, .pick (.tmp 27) (.const (.bool true)) (.tmp 31), none)) rfl rfl (fun w' hS => val_pick_t rfl rfl) ?_
    refine yS (by kernel_rfl : opAt F3.o1 13 = some (some 33, .move (.tmp 32), none)) rfl rfl (fun w' hS => val_move rfl) ?_
    refine pS (by kernel_rfl : opAt F3.o1 14 = some (some 34, .move (.tmp 2), (some (13, false)))) rfl rfl ?_
    refine pS (by kernel_rfl : opAt F3.o1 15 = some (some 35, .call { callee := .builtin .len, args := #[(.tmp 34)], argTypes := #[23] }, (some (13, false)))) rfl rfl ?_
    refine pS (by kernel_rfl : opAt F3.o1 16 = some (some 36, .binOp .gtr 3 (.tmp 35) (.const (.int .i64 60)) 3, (some (13, false)))) rfl rfl ?_
    refine yS (by kernel_rfl : opAt F3.o1 17 = some (some 37, .pick (.tmp 33) (.const (.bool true)) (.tmp 36), none)) rfl rfl (fun w' hS => val_pick_t rfl rfl) ?_
    refine yS (by kernel_rfl : opAt F3.o1 18 = some (some 38, .move (.tmp 37), none)) rfl rfl (fun w' hS => val_move rfl) ?_
    refine pS (by kernel_rfl : opAt F3.o1 19 = some (some 39, .move (.tmp 3), (some (18, false)))) rfl rfl ?_
    refine pS (by kernel_rfl : opAt F3.o1 20 = some (some 40, .call { callee := .builtin .len, args := #[(.tmp 39)], argTypes := #[23] }, (some (18, false)))) rfl rfl ?_
    refine pS (by kernel_rfl : opAt F3.o1 21 = some (some 41, .binOp .gtr 3 (.tmp 40) (.const (.int .i64 60)) 3, (some (18, false)))) rfl rfl ?_
    refine yS (by kernel_rfl : opAt F3.o1 22 = some (some 42, .pick (.tmp 38) (.const (.bool true)) (.tmp 41), none)) rfl rfl (fun w' hS => val_pick_t rfl rfl) ?_
    refine yS (by kernel_rfl : opAt F3.o1 23 = some (some 43, .move (.tmp 42), none)) rfl rfl (fun w' hS => val_move rfl) ?_
    refine pS (by kernel_rfl : opAt F3.o1 24 = some (some 44, .move (.tmp 2), (some (23, false)))) rfl rfl ?_
    refine pW (by kernel_rfl : opAt F3.o1 25 = some (some 45, .call { callee := .value (.func 10), args := #[(.tmp 44)], argTypes := #[23] }, (some (23, false)))) rfl rfl trivial ?_
    refine pS (by kernel_rfl : opAt F3.o1 26 = some (some 46, .unOp .not 4 (.tmp 45), (some (23, false)))) rfl rfl ?_
    refine yS (by kernel_rfl : opAt F3.o1 27 = some (some 47, .pick (.tmp 43) (.const (.bool true)) (.tmp 46), none)) rfl rfl (fun w' hS => val_pick_t rfl rfl) ?_
    refine yS (by kernel_rfl : opAt F3.o1 28 = some (some 48, .move (.tmp 47), none)) rfl rfl (fun w' hS => val_move rfl) ?_
    refine pS (by kernel_rfl : opAt F3.o1 29 = some (some 49, .move (.tmp 3), (some (28, false)))) rfl rfl ?_
    refine pW (by kernel_rfl : opAt F3.o1 30 = some (some 50, .call { callee := .value (.func 10), args := #[(.tmp 49)], argTypes := #[23] }, (some (28, false)))) rfl rfl trivial ?_
    refine pS (by kernel_rfl : opAt F3.o1 31 = some (some 51, .unOp .not 4 (.tmp 50), (some (28, false)))) rfl rfl ?_
    refine yS (by kernel_rfl : opAt F3.o1 32 = some (some 52, .pick (.tmp 48) (.const (.bool true)) (.tmp 51), none)) rfl rfl (fun w' hS => val_pick_t rfl rfl) ?_
    refine Sch.nil ?_
    refine run_cond (x := F3.c6) (y := F3.c9) (o := .tmp 52) (b := true) (by kernel_rfl) rfl (fun _ => ?_) (fun h => by cases h)
    refine run_seq (x := F3.c7) (y := F3.c8) (by kernel_rfl) ?_
    refine run_plain (id := 2) (ops := F3.o2) [(0, false), (1, true)] (by kernel_rfl) (by kernel_rfl) ?_
    refine cS (by kernel_rfl : opAt F3.o2 0 = some (some 53, .call { callee := .value (.func 8), args := #[], argTypes := #[] }, none)) rfl rfl (ent Try.call8 rfl) (awake_ok hF) ?_
    rintro vw63 w63 ⟨rfl, hs⟩
    refine ⟨trivial, ?_⟩
    replace hF := hF.st hs
    replace hT := hT.trans hs (by simp)
    replace hl := hl.st hs (by first | decide | (simp <;> omega))
    replace ha := ha.st hs (by first | decide | (simp <;> omega))
    replace hbb := hbb.st hs (by first | decide | (simp <;> omega))
    refine yS (by kernel_rfl : opAt F3.o2 1 = some (some 8, .assign (.tmp 53), none)) rfl rfl (fun w' hS => val_assign rfl) ?_
    refine Sch.nil ?_
    refine run_ret1 (by kernel_rfl) Try.func3 Try.results3 rfl ?_
    exact ⟨rfl, hT.out1 (by decide)⟩
end Go.Proofs.Ythdkcbakiiokiaa
