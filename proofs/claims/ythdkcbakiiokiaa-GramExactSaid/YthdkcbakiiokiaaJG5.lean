/- Steps through functions of the program. -/
import Derived.Test.YthdkcbakiiokiaaJG4
set_option linter.unusedVariables false
set_option linter.unusedSimpArgs false
set_option maxRecDepth 100000
set_option maxHeartbeats 4000000
namespace Go.Proofs.Ythdkcbakiiokiaa
open Go.K Go.K.Rep

def givenL : List Tx := [⟨[114, 111, 98, 101, 114, 116]⟩, ⟨[98, 111, 98]⟩, ⟨[97, 110, 110]⟩, ⟨[97, 110, 110, 97]⟩, ⟨[114, 117, 112, 101, 114, 116]⟩, ⟨[109, 97, 114, 105, 97]⟩, ⟨[112, 101, 116, 101, 114]⟩, ⟨[100, 114]⟩, ⟨[106, 111]⟩, ⟨[97, 115, 104, 99, 114, 97, 102, 116]⟩, ⟨[108, 105]⟩]
theorem givenL_ok : ∀ x ∈ givenL, TokOK x := by unfold TokOK; decide
namespace F33
noncomputable def c0 : Code := bodyOf Try.f33
noncomputable def c1 : Code := cl c0
noncomputable def o0 : Array Oper := rops c1
noncomputable def c2 : Code := cr c0
noncomputable def c3 : Code := cl c2
noncomputable def o1 : Array Oper := rops c3
noncomputable def c4 : Code := cr c2
end F33
theorem given_ok {w₀ : World} {C : Nat → Nat} (hF : Lim w₀ C) : Calls Try.prog 33 #[] w₀ (Ret fun v w' => Stp [] w₀ C w' C ∧ RV w' (Mc C) givenL v) := by
  have hF0 := hF
  have hT := Stp.refl [2, 3, 4, 5, 6, 7, 8, 9] w₀ (col1 C)
  replace hF := hF.col1
  refine calls_start (c := F33.c0) (N := 2) [] Try.func33 (by kernel_rfl) (by kernel_rfl) (by kernel_rfl) ?_
  show Run _ _ _ _ [] _ _
  refine run_seq (x := F33.c1) (y := F33.c2) (by kernel_rfl) ?_
  refine run_plain (id := 0) (ops := F33.o0) [(0, true)] (by kernel_rfl) (by kernel_rfl) ?_
  refine yS (by kernel_rfl : opAt F33.o0 0 = some (some 0, .assign (.const (.slice none 0 0)), none)) rfl rfl (fun w' hS => val_assign rfl) ?_
  refine Sch.nil ?_
  refine run_seq (x := F33.c3) (y := F33.c4) (by kernel_rfl) ?_
  refine run_plain (id := 1) (ops := F33.o1) [(0, false), (1, true)] (by kernel_rfl) (by kernel_rfl) ?_
  refine aS (by kernel_rfl : opAt F33.o1 0 = some (some 1, .buildSlice 23 11 #[(0, (.const (.string ⟨#[114, 111, 98, 101, 114, 116]⟩))), (1, (.const (.string ⟨#[98, 111, 98]⟩))), (2, (.const (.string ⟨#[97, 110, 110]⟩))), (3, (.const (.string ⟨#[97, 110, 110, 97]⟩))), (4, (.const (.string ⟨#[114, 117, 112, 101, 114, 116]⟩))), (5, (.const (.string ⟨#[109, 97, 114, 105, 97]⟩))), (6, (.const (.string ⟨#[112, 101, 116, 101, 114]⟩))), (7, (.const (.string ⟨#[100, 114]⟩))), (8, (.const (.string ⟨#[106, 111]⟩))), (9, (.const (.string ⟨#[97, 115, 104, 99, 114, 97, 102, 116]⟩))), (10, (.const (.string ⟨#[108, 105]⟩)))], none)) rfl rfl (a_buildSlice (ys := givenL) (e := 9) (bytes := 16) hF (by kernel_rfl) rfl (by decide) (by decide) ⟨rfl, ⟨_, rfl, rv_tx.2 ⟨rfl, by decide⟩⟩, rfl, ⟨_, rfl, rv_tx.2 ⟨rfl, by decide⟩⟩, rfl, ⟨_, rfl, rv_tx.2 ⟨rfl, by decide⟩⟩, rfl, ⟨_, rfl, rv_tx.2 ⟨rfl, by decide⟩⟩, rfl, ⟨_, rfl, rv_tx.2 ⟨rfl, by decide⟩⟩, rfl, ⟨_, rfl, rv_tx.2 ⟨rfl, by decide⟩⟩, rfl, ⟨_, rfl, rv_tx.2 ⟨rfl, by decide⟩⟩, rfl, ⟨_, rfl, rv_tx.2 ⟨rfl, by decide⟩⟩, rfl, ⟨_, rfl, rv_tx.2 ⟨rfl, by decide⟩⟩, rfl, ⟨_, rfl, rv_tx.2 ⟨rfl, by decide⟩⟩, rfl, ⟨_, rfl, rv_tx.2 ⟨rfl, by decide⟩⟩, trivial⟩) ?_
  rintro v1 w1 ⟨hs, hg, hF⟩
  refine ⟨trivial, ?_⟩
  replace hT := hT.trans hs (by simp)
  refine yS (by kernel_rfl : opAt F33.o1 1 = some (some 0, .assign (.tmp 1), none)) rfl rfl (fun w' hS => val_assign rfl) ?_
  refine Sch.nil ?_
  refine run_ret1 (by kernel_rfl) Try.func33 Try.results33 rfl ?_
  exact ⟨hT.out1 (by decide), hg.out hT hF0 (Mc_col1 C)⟩
def familyL : List Tx := [⟨[115, 109, 105, 116, 104]⟩, ⟨[115, 99, 104, 109, 105, 100, 116]⟩, ⟨[109, 105, 108, 108, 101, 114]⟩, ⟨[111, 110, 101, 105, 108, 108]⟩, ⟨[115, 116, 114, 97, 117, 115, 115]⟩, ⟨[118, 97, 110]⟩, ⟨[109, 97, 105, 110]⟩, ⟨[115, 116]⟩, ⟨[115, 116, 114, 101, 101, 116]⟩, ⟨[114, 100]⟩, ⟨[112, 97, 114, 107]⟩]
theorem familyL_ok : ∀ x ∈ familyL, TokOK x := by unfold TokOK; decide
namespace F34
noncomputable def c0 : Code := bodyOf Try.f34
noncomputable def c1 : Code := cl c0
noncomputable def o0 : Array Oper := rops c1
noncomputable def c2 : Code := cr c0
noncomputable def c3 : Code := cl c2
noncomputable def o1 : Array Oper := rops c3
noncomputable def c4 : Code := cr c2
end F34
theorem family_ok {w₀ : World} {C : Nat → Nat} (hF : Lim w₀ C) : Calls Try.prog 34 #[] w₀ (Ret fun v w' => Stp [] w₀ C w' C ∧ RV w' (Mc C) familyL v) := by
  have hF0 := hF
  have hT := Stp.refl [2, 3, 4, 5, 6, 7, 8, 9] w₀ (col1 C)
  replace hF := hF.col1
  refine calls_start (c := F34.c0) (N := 2) [] Try.func34 (by kernel_rfl) (by kernel_rfl) (by kernel_rfl) ?_
  show Run _ _ _ _ [] _ _
  refine run_seq (x := F34.c1) (y := F34.c2) (by kernel_rfl) ?_
  refine run_plain (id := 0) (ops := F34.o0) [(0, true)] (by kernel_rfl) (by kernel_rfl) ?_
  refine yS (by kernel_rfl : opAt F34.o0 0 = some (some 0, .assign (.const (.slice none 0 0)), none)) rfl rfl (fun w' hS => val_assign rfl) ?_
  refine Sch.nil ?_
  refine run_seq (x := F34.c3) (y := F34.c4) (by kernel_rfl) ?_
  refine run_plain (id := 1) (ops := F34.o1) [(0, false), (1, true)] (by kernel_rfl) (by kernel_rfl) ?_
  refine aS (by kernel_rfl : opAt F34.o1 0 = some (some 1, .buildSlice 23 11 #[(0, (.const (.string ⟨#[115, 109, 105, 116, 104]⟩))), (1, (.const (.string ⟨#[115, 99, 104, 109, 105, 100, 116]⟩))), (2, (.const (.string ⟨#[109, 105, 108, 108, 101, 114]⟩))), (3, (.const (.string ⟨#[111, 110, 101, 105, 108, 108]⟩))), (4, (.const (.string ⟨#[115, 116, 114, 97, 117, 115, 115]⟩))), (5, (.const (.string ⟨#[118, 97, 110]⟩))), (6, (.const (.string ⟨#[109, 97, 105, 110]⟩))), (7, (.const (.string ⟨#[115, 116]⟩))), (8, (.const (.string ⟨#[115, 116, 114, 101, 101, 116]⟩))), (9, (.const (.string ⟨#[114, 100]⟩))), (10, (.const (.string ⟨#[112, 97, 114, 107]⟩)))], none)) rfl rfl (a_buildSlice (ys := familyL) (e := 9) (bytes := 16) hF (by kernel_rfl) rfl (by decide) (by decide) ⟨rfl, ⟨_, rfl, rv_tx.2 ⟨rfl, by decide⟩⟩, rfl, ⟨_, rfl, rv_tx.2 ⟨rfl, by decide⟩⟩, rfl, ⟨_, rfl, rv_tx.2 ⟨rfl, by decide⟩⟩, rfl, ⟨_, rfl, rv_tx.2 ⟨rfl, by decide⟩⟩, rfl, ⟨_, rfl, rv_tx.2 ⟨rfl, by decide⟩⟩, rfl, ⟨_, rfl, rv_tx.2 ⟨rfl, by decide⟩⟩, rfl, ⟨_, rfl, rv_tx.2 ⟨rfl, by decide⟩⟩, rfl, ⟨_, rfl, rv_tx.2 ⟨rfl, by decide⟩⟩, rfl, ⟨_, rfl, rv_tx.2 ⟨rfl, by decide⟩⟩, rfl, ⟨_, rfl, rv_tx.2 ⟨rfl, by decide⟩⟩, rfl, ⟨_, rfl, rv_tx.2 ⟨rfl, by decide⟩⟩, trivial⟩) ?_
  rintro v1 w1 ⟨hs, hg, hF⟩
  refine ⟨trivial, ?_⟩
  replace hT := hT.trans hs (by simp)
  refine yS (by kernel_rfl : opAt F34.o1 1 = some (some 0, .assign (.tmp 1), none)) rfl rfl (fun w' hS => val_assign rfl) ?_
  refine Sch.nil ?_
  refine run_ret1 (by kernel_rfl) Try.func34 Try.results34 rfl ?_
  exact ⟨hT.out1 (by decide), hg.out hT hF0 (Mc_col1 C)⟩
namespace F27
noncomputable def c0 : Code := bodyOf Try.f27
noncomputable def c1 : Code := cl c0
noncomputable def o0 : Array Oper := rops c1
noncomputable def c2 : Code := cr c0
noncomputable def c3 : Code := cl c2
noncomputable def o1 : Array Oper := rops c3
noncomputable def c4 : Code := cr c2
end F27
/-- One of some texts. -/
theorem pick_ok {w₀ : World} {C : Nat → Nat} {i b : Nat} (hF : Lim w₀ C) (hi : i ≠ 0) (hd : DeckIs w₀ C i b) {xs : List Tx} {vx : Value} (hx : RV w₀ (Mc C) xs vx) (h1 : 1 ≤ xs.length) : Calls Try.prog 27 #[.pointer (some ⟨b, 0, none⟩), vx] w₀ (Ret fun v w' => ∃ x : Tx, v = sv x ∧ x ∈ xs ∧ Stp [i] w₀ C w' C ∧ DeckIs w' C i b) := by
  have hF0 := hF
  have hbc := hd.colour
  replace hd := hd.col2 hi
  have hT := Stp.refl [2, 3, 4, 5, 6, 7, 8, 9] w₀ (col2 C i)
  replace hF := hF.col2 i
  have hle := hx.le
  replace hx : RV w₀ (Mc (col2 C i)) xs vx := by rw [Mc_col2]; exact hx
  refine calls_start (c := F27.c0) (N := 12) [.pointer (some ⟨b, 0, none⟩), vx] Try.func27 (by kernel_rfl) (by kernel_rfl) (by kernel_rfl) ?_
  show Run _ _ _ _ [(0, .pointer (some ⟨b, 0, none⟩)), (1, vx)] _ _
  refine run_seq (x := F27.c1) (y := F27.c2) (by kernel_rfl) ?_
  refine run_plain (id := 0) (ops := F27.o0) [(0, true)] (by kernel_rfl) (by kernel_rfl) ?_
  refine yS (by kernel_rfl : opAt F27.o0 0 = some (some 4, .assign (.const (.string ⟨#[]⟩)), none)) rfl rfl (fun w' hS => val_assign rfl) ?_
  refine Sch.nil ?_
  refine run_seq (x := F27.c3) (y := F27.c4) (by kernel_rfl) ?_
  refine run_plain (id := 1) (ops := F27.o1) [(0, true), (1, true), (2, true), (3, true), (4, false), (5, true), (6, false), (7, true)] (by kernel_rfl) (by kernel_rfl) ?_
  refine yS (by kernel_rfl : opAt F27.o1 0 = some (some 5, .move (.tmp 1), none)) rfl rfl (fun w' hS => val_move rfl) ?_
  refine yS (by kernel_rfl : opAt F27.o1 1 = some (some 6, .move (.tmp 0), none)) rfl rfl (fun w' hS => val_move rfl) ?_
  refine yS (by kernel_rfl : opAt F27.o1 2 = some (some 7, .move (.tmp 1), none)) rfl rfl (fun w' hS => val_move rfl) ?_
  refine yS (by kernel_rfl : opAt F27.o1 3 = some (some 8, .call { callee := .builtin .len, args := #[(.tmp 7)], argTypes := #[23] }, none)) rfl rfl (fun w' hS => hx.lenV rfl Try.underlying23 w' ) ?_
  refine cS (by kernel_rfl : opAt F27.o1 4 = some (some 9, .call { callee := .value (.func 30), args := #[(.tmp 6), (.tmp 8)], argTypes := #[27, 3] }, none)) rfl rfl (ent Try.call30 rfl) (next_any hF (by decide) hd (by omega) (by omega)) ?_
  rintro vw1 w1 ⟨k, rfl, hk, hs, hd⟩
  refine ⟨trivial, ?_⟩
  replace hF := hF.st hs
  replace hT := hT.trans hs (by simp)
  replace hx := hx.st hs (by first | decide | (simp <;> omega))
  refine iS (e := 9) (by kernel_rfl : opAt F27.o1 5 = some (some 10, .indexAddr 23 (.tmp 5) (.tmp 9), none)) rfl rfl hx rfl (by kernel_rfl) rfl (by omega) (by omega) ?_
  intro b10 o10 h10
  try simp only [Int.toNat_natCast] at h10
  refine lN (by kernel_rfl : opAt F27.o1 6 = some (some 11, .load 9 (.tmp 10), none)) rfl rfl trivial h10 (by kernel_rfl) rfl rfl ?_
  intro v11 g11
  obtain ⟨rfl, hb11⟩ := rv_tx.1 g11
  refine yS (by kernel_rfl : opAt F27.o1 7 = some (some 4, .assign (.tmp 11), none)) rfl rfl (fun w' hS => val_assign rfl) ?_
  refine Sch.nil ?_
  refine run_ret1 (by kernel_rfl) Try.func27 Try.results27 rfl ?_
  exact ⟨_, rfl, List.getElem_mem _, hT.out2 (by decide), hd.out hT hF0 hbc⟩
theorem letter_bs {q : Nat} (h : q < 26) : (([⟨IntKind.u8.wrap (97 + (q : Int))⟩] : List U8).map fun y => UInt8.ofNat y.n.toNat) = [UInt8.ofNat (97 + q)] := by
  have e1 : (97 + (q : Int)).toNat = 97 + q := by omega
  simp only [List.map_cons, List.map_nil]
  rw [wrap_u8 (by omega) (by omega), e1]
theorem letter_in {q : Nat} (h : q < 26) : 97 ≤ (UInt8.ofNat (97 + q)).toNat ∧ (UInt8.ofNat (97 + q)).toNat ≤ 122 := by
  simp only [UInt8.toNat_ofNat']; omega
namespace F19
noncomputable def c0 : Code := bodyOf Try.f19
noncomputable def c1 : Code := cl c0
noncomputable def o0 : Array Oper := rops c1
noncomputable def c2 : Code := cr c0
noncomputable def c3 : Code := cl c2
noncomputable def c4 : Code := cl c3
noncomputable def o1 : Array Oper := rops c4
noncomputable def c5 : Code := cr c3
noncomputable def c6 : Code := cl c5
noncomputable def c7 : Code := cl c6
noncomputable def o2 : Array Oper := rops c7
noncomputable def c8 : Code := cr c6
noncomputable def c9 : Code := cl c8
noncomputable def c10 : Code := cl c9
noncomputable def o3 : Array Oper := rops c10
noncomputable def c11 : Code := cr c9
noncomputable def c12 : Code := cl c11
noncomputable def c13 : Code := cl c12
noncomputable def c14 : Code := cl c13
noncomputable def c15 : Code := cl c14
noncomputable def o4 : Array Oper := rops c15
noncomputable def c16 : Code := cr c14
noncomputable def c17 : Code := cl c16
noncomputable def c18 : Code := cr c16
noncomputable def c19 : Code := cr c13
noncomputable def c20 : Code := cl c19
noncomputable def c21 : Code := cl c20
noncomputable def o6 : Array Oper := rops c21
noncomputable def c22 : Code := cr c19
noncomputable def o5 : Array Oper := rops c22
noncomputable def c23 : Code := cr c8
noncomputable def c24 : Code := cl c23
noncomputable def o7 : Array Oper := rops c24
noncomputable def c25 : Code := cr c23
noncomputable def c26 : Code := cr c5
noncomputable def c27 : Code := cr c2
noncomputable def c28 : Code := cl c27
noncomputable def c29 : Code := cl c28
noncomputable def o8 : Array Oper := rops c29
noncomputable def c30 : Code := cr c28
noncomputable def c31 : Code := cl c30
noncomputable def c32 : Code := cl c31
noncomputable def o9 : Array Oper := rops c32
noncomputable def c33 : Code := cr c31
noncomputable def c34 : Code := cr c30
noncomputable def c35 : Code := cr c27
noncomputable def c36 : Code := cl c35
noncomputable def o10 : Array Oper := rops c36
noncomputable def c37 : Code := cr c35
end F19
/-- A token is dealt. -/
theorem token_ok {w₀ : World} {C : Nat → Nat} {i b : Nat} (hF : Lim w₀ C) (hi : i ≠ 0) (hd : DeckIs w₀ C i b) : Calls Try.prog 19 #[.pointer (some ⟨b, 0, none⟩)] w₀ (Ret fun v w' => ∃ x : Tx, v = sv x ∧ TokOK x ∧ Stp [i] w₀ C w' C ∧ DeckIs w' C i b) := by
  have hF0 := hF
  have hbc := hd.colour
  replace hd := hd.col2 hi
  have hT := Stp.refl [2, 3, 4, 5, 6, 7, 8, 9] w₀ (col2 C i)
  replace hF := hF.col2 i
  refine calls_start (c := F19.c0) (N := 39) [.pointer (some ⟨b, 0, none⟩)] Try.func19 (by kernel_rfl) (by kernel_rfl) (by kernel_rfl) ?_
  show Run _ _ _ _ [(0, .pointer (some ⟨b, 0, none⟩))] _ _
  refine run_seq (x := F19.c1) (y := F19.c2) (by kernel_rfl) ?_
  refine run_plain (id := 0) (ops := F19.o0) [(0, true)] (by kernel_rfl) (by kernel_rfl) ?_
  refine yS (by kernel_rfl : opAt F19.o0 0 = some (some 2, .assign (.const (.string ⟨#[]⟩)), none)) rfl rfl (fun w' hS => val_assign rfl) ?_
  refine Sch.nil ?_
  refine run_seq (x := F19.c3) (y := F19.c27) (by kernel_rfl) ?_
  refine run_seq (x := F19.c4) (y := F19.c5) (by kernel_rfl) ?_
  refine run_plain (id := 1) (ops := F19.o1) [(0, true), (1, false)] (by kernel_rfl) (by kernel_rfl) ?_
  refine yS (by kernel_rfl : opAt F19.o1 0 = some (some 5, .move (.tmp 0), none)) rfl rfl (fun w' hS => val_move rfl) ?_
  refine cS (by kernel_rfl : opAt F19.o1 1 = some (some 6, .call { callee := .value (.func 26), args := #[(.tmp 5), (.const (.int .i64 6))], argTypes := #[27, 3] }, none)) rfl rfl (ent Try.call26 rfl) (one_any hF (by decide) hd (by decide) (by decide)) ?_
  rintro vw1 w1 ⟨t1, rfl, hs, hd⟩
  refine ⟨trivial, ?_⟩
  replace hF := hF.st hs
  replace hT := hT.trans hs (by simp)
  refine Sch.nil ?_
  refine run_cond (x := F19.c6) (y := F19.c26) (o := .tmp 6) (by kernel_rfl) rfl (fun h6 => ?_) (fun h6 => ?_)
  · skip
    refine run_seq (x := F19.c7) (y := F19.c8) (by kernel_rfl) ?_
    refine run_plain (id := 2) (ops := F19.o2) [(0, true)] (by kernel_rfl) (by kernel_rfl) ?_
    refine yS (by kernel_rfl : opAt F19.o2 0 = some (some 3, .assign (.const (.string ⟨#[]⟩)), none)) rfl rfl (fun w' hS => val_assign rfl) ?_
    refine Sch.nil ?_
    refine run_seq (x := F19.c9) (y := F19.c23) (by kernel_rfl) ?_
    refine run_seq (x := F19.c10) (y := F19.c11) (by kernel_rfl) ?_
    refine run_plain (id := 3) (ops := F19.o3) [(0, true), (1, false), (2, true), (3, true)] (by kernel_rfl) (by kernel_rfl) ?_
    refine yS (by kernel_rfl : opAt F19.o3 0 = some (some 7, .move (.tmp 0), none)) rfl rfl (fun w' hS => val_move rfl) ?_
    refine cS (by kernel_rfl : opAt F19.o3 1 = some (some 8, .call { callee := .value (.func 30), args := #[(.tmp 7), (.const (.int .i64 5))], argTypes := #[27, 3] }, none)) rfl rfl (ent Try.call30 rfl) (next_any (n := 5) hF (by decide) hd (by decide) (by decide)) ?_
    rintro vw2 w2 ⟨k0, rfl, hk0, hs, hd⟩
    refine ⟨trivial, ?_⟩
    replace hF := hF.st hs
    replace hT := hT.trans hs (by simp)
    refine yS (by kernel_rfl : opAt F19.o3 2 = some (some 9, .binOp .add 3 (.const (.int .i64 1)) (.tmp 8) 3, none)) rfl rfl (fun w' hS => val_addi rfl rfl (by omega) (by omega)) ?_
    refine yS (by kernel_rfl : opAt F19.o3 3 = some (some 4, .assign (.tmp 9), none)) rfl rfl (fun w' hS => val_assign rfl) ?_
    refine Sch.nil ?_
    refine run_block (x := F19.c12) (id := 0) (by kernel_rfl) ?_
    
    refine run_loop (ι := Nat × (List UInt8) × (Nat → Nat)) (I := fun x w => 1 ≤ x.2.1.length + x.1 ∧ x.2.1.length + x.1 ≤ 5 ∧ (∀ c ∈ x.2.1, 97 ≤ c.toNat ∧ c.toNat ≤ 122) ∧ Lim w x.2.2 ∧ Stp [2, 3, 4, 5, 6, 7, 8, 9] w₀ (col2 C i) w x.2.2 ∧ DeckIs w x.2.2 2 b) (e := fun x => [(0, .pointer (some ⟨b, 0, none⟩)), (3, bs x.2.1), (4, .int .i64 x.1)]) (m := fun x => x.1) (x₀ := (k0 + 1, [], col2 C i)) (body := F19.c13) (by kernel_rfl) (sub_cons 0 rfl rfl (sub_cons 3 rfl rfl (sub_cons 4 rfl (eq_int (by simp only; omega)) (sub_nil _)))) ?_ ?_
    · exact ⟨(by simp), (by simp only [List.length_nil]; omega), (fun c hc => by simp at hc), hF, hT, hd⟩
    intro ⟨k, s, C1⟩ w3 hI next
    obtain ⟨hs1, hs2, hall, hF, hT, hd⟩ := hI
    try simp only at hs1 hs2 hall hF hT hd
    have next1 := next
    clear next
    show Run _ _ _ _ [(0, .pointer (some ⟨b, 0, none⟩)), (3, bs s), (4, .int .i64 k)] _ _
    refine run_seq (x := F19.c14) (y := F19.c19) (by kernel_rfl) ?_
    refine run_seq (x := F19.c15) (y := F19.c16) (by kernel_rfl) ?_
    refine run_plain (id := 4) (ops := F19.o4) [(0, true), (1, true)] (by kernel_rfl) (by kernel_rfl) ?_
    refine yS (by kernel_rfl : opAt F19.o4 0 = some (some 10, .move (.tmp 4), none)) rfl rfl (fun w' hS => val_move rfl) ?_
    refine yS (by kernel_rfl : opAt F19.o4 1 = some (some 11, .binOp .gtr 3 (.tmp 10) (.const (.int .i64 0)) 3, none)) rfl rfl (fun w' hS => val_gtr rfl rfl) ?_
    refine Sch.nil ?_
    refine run_if (x := F19.c17) (y := F19.c18) (o := .tmp 11) (by kernel_rfl) rfl (fun h11 => ?_) (fun h11 => ?_)
    · skip
      have hk1 : 1 ≤ k := by omega
      refine run_skip (by kernel_rfl) ?_
      refine run_seq (x := F19.c20) (y := F19.c22) (by kernel_rfl) ?_
      refine run_block (x := F19.c21) (id := 1) (by kernel_rfl) ?_
      refine run_plain (id := 6) (ops := F19.o6) [(0, true), (1, true), (2, false), (3, true), (4, true), (5, false), (6, false), (7, true), (8, true)] (by kernel_rfl) (by kernel_rfl) ?_
      refine yS (by kernel_rfl : opAt F19.o6 0 = some (some 14, .move (.tmp 3), none)) rfl rfl (fun w' hS => val_move rfl) ?_
      refine yS (by kernel_rfl : opAt F19.o6 1 = some (some 15, .move (.tmp 0), none)) rfl rfl (fun w' hS => val_move rfl) ?_
      refine cS (by kernel_rfl : opAt F19.o6 2 = some (some 16, .call { callee := .value (.func 30), args := #[(.tmp 15), (.const (.int .i64 26))], argTypes := #[27, 3] }, none)) rfl rfl (ent Try.call30 rfl) (next_any (n := 26) hF (by decide) hd (by decide) (by decide)) ?_
      rintro vw4 w4 ⟨q, rfl, hq, hs, hd⟩
      refine ⟨trivial, ?_⟩
      replace hF := hF.st hs
      replace hT := hT.trans hs (by simp)
      refine yS (by kernel_rfl : opAt F19.o6 3 = some (some 17, .binOp .add 3 (.const (.int .i64 97)) (.tmp 16) 3, none)) rfl rfl (fun w' hS => val_addi rfl rfl (by omega) (by omega)) ?_
      refine yS (by kernel_rfl : opAt F19.o6 4 = some (some 18, .convert 3 5 (.tmp 17), none)) rfl rfl (fun w' hS => val_conv_int rfl ⟨_, Try.underlying3⟩ Try.underlying5) ?_
      refine aS (by kernel_rfl : opAt F19.o6 5 = some (some 19, .buildSlice 39 1 #[(0, (.tmp 18))], none)) rfl rfl (a_buildSlice (ys := ([⟨IntKind.u8.wrap (97 + (q : Int))⟩] : List U8)) (e := 5) (bytes := 1) hF (by kernel_rfl) rfl (by decide) (by decide) ⟨rfl, ⟨_, rfl, rv_num.2 rfl⟩, trivial⟩) ?_
      rintro v19 w5 ⟨hs, hbs, hF⟩
      refine ⟨trivial, ?_⟩
      replace hT := hT.trans hs (by simp)
      replace hd := hd.st hs (by first | decide | (simp <;> omega)) (by first | decide | (simp <;> omega))
      refine nS (by kernel_rfl : opAt F19.o6 6 = some (some 20, .convert 39 9 (.tmp 19), none)) rfl rfl trivial (val_is (val_ofBytes (e := 5) hbs rfl Try.underlying39 Try.underlying5 Try.underlying9 (by simp)) (by rw [letter_bs (by omega)])) ?_
      refine yS (by kernel_rfl : opAt F19.o6 7 = some (some 21, .binOp .add 9 (.tmp 14) (.tmp 20) 9, none)) rfl rfl (fun w' hS => val_cat rfl rfl (by (try simp only [List.length_append, List.length_cons, List.length_nil]); omega)) ?_
      refine yS (by kernel_rfl : opAt F19.o6 8 = some (some 3, .assign (.tmp 21), none)) rfl rfl (fun w' hS => val_assign rfl) ?_
      refine Sch.nil ?_
      refine run_inBlock ?_
      refine run_plain (id := 5) (ops := F19.o5) [(0, true), (1, true), (2, true)] (by kernel_rfl) (by kernel_rfl) ?_
      refine yS (by kernel_rfl : opAt F19.o5 0 = some (some 12, .move (.tmp 4), none)) rfl rfl (fun w' hS => val_move rfl) ?_
      refine yS (by kernel_rfl : opAt F19.o5 1 = some (some 13, .binOp .sub 3 (.tmp 12) (.const (.int .i64 1)) 3, none)) rfl rfl (fun w' hS => val_subi rfl rfl (by omega) (by omega)) ?_
      refine yS (by kernel_rfl : opAt F19.o5 2 = some (some 4, .assign (.tmp 13), none)) rfl rfl (fun w' hS => val_assign rfl) ?_
      refine Sch.nil ?_
      refine kp (sub_cons 0 rfl rfl (sub_cons 3 rfl rfl (sub_cons 4 rfl (eq_int (by simp only; omega)) (sub_nil _)))) (next1 (k - 1, s ++ [UInt8.ofNat (97 + q)], C1) _ ⟨(by simp only [List.length_append, List.length_cons, List.length_nil]; omega), (by simp only [List.length_append, List.length_cons, List.length_nil]; omega), (fun c hc => by
          rcases List.mem_append.1 hc with h | h
          · exact hall c h
          · rw [List.mem_singleton.1 h]; exact letter_in (by omega)), hF, hT, hd⟩ (by first | omega | (simp only; omega)))
    · skip
      have hk1 : k = 0 := by omega
      refine run_exit (id := 0) (by kernel_rfl) rfl ?_
      refine run_seq (x := F19.c24) (y := F19.c25) (by kernel_rfl) ?_
      refine run_plain (id := 7) (ops := F19.o7) [(0, true), (1, true)] (by kernel_rfl) (by kernel_rfl) ?_
      refine yS (by kernel_rfl : opAt F19.o7 0 = some (some 22, .move (.tmp 3), none)) rfl rfl (fun w' hS => val_move rfl) ?_
      refine yS (by kernel_rfl : opAt F19.o7 1 = some (some 2, .assign (.tmp 22), none)) rfl rfl (fun w' hS => val_assign rfl) ?_
      refine Sch.nil ?_
      refine run_ret1 (by kernel_rfl) Try.func19 Try.results19 rfl ?_
      exact ⟨⟨s⟩, rfl, ⟨by simp only; omega, by simp only; omega, hall⟩, hT.out2 (by decide), hd.out hT hF0 hbc⟩
  · skip
    refine run_skip (by kernel_rfl) ?_
    refine run_seq (x := F19.c28) (y := F19.c35) (by kernel_rfl) ?_
    refine run_seq (x := F19.c29) (y := F19.c30) (by kernel_rfl) ?_
    refine run_plain (id := 8) (ops := F19.o8) [(0, true), (1, false)] (by kernel_rfl) (by kernel_rfl) ?_
    refine yS (by kernel_rfl : opAt F19.o8 0 = some (some 23, .move (.tmp 0), none)) rfl rfl (fun w' hS => val_move rfl) ?_
    refine cS (by kernel_rfl : opAt F19.o8 1 = some (some 24, .call { callee := .value (.func 26), args := #[(.tmp 23), (.const (.int .i64 2))], argTypes := #[27, 3] }, none)) rfl rfl (ent Try.call26 rfl) (one_any hF (by decide) hd (by decide) (by decide)) ?_
    rintro vw6 w6 ⟨t2, rfl, hs, hd⟩
    refine ⟨trivial, ?_⟩
    replace hF := hF.st hs
    replace hT := hT.trans hs (by simp)
    refine Sch.nil ?_
    refine run_cond (x := F19.c31) (y := F19.c34) (o := .tmp 24) (by kernel_rfl) rfl (fun h24 => ?_) (fun h24 => ?_)
    · skip
      refine run_seq (x := F19.c32) (y := F19.c33) (by kernel_rfl) ?_
      refine run_plain (id := 9) (ops := F19.o9) [(0, false), (1, true), (2, false), (3, true), (4, false), (5, true), (6, false), (7, true)] (by kernel_rfl) (by kernel_rfl) ?_
      refine cS (by kernel_rfl : opAt F19.o9 0 = some (some 25, .call { callee := .value (.func 33), args := #[], argTypes := #[] }, none)) rfl rfl (ent Try.call33 rfl) (given_ok hF) ?_
      rintro vw7 w7 ⟨hs, hg⟩
      refine ⟨trivial, ?_⟩
      replace hF := hF.st hs
      replace hT := hT.trans hs (by simp)
      replace hd := hd.st hs (by first | decide | (simp <;> omega)) (by first | decide | (simp <;> omega))
      refine yS (by kernel_rfl : opAt F19.o9 1 = some (some 26, .move (.tmp 0), none)) rfl rfl (fun w' hS => val_move rfl) ?_
      refine cS (by kernel_rfl : opAt F19.o9 2 = some (some 27, .call { callee := .value (.func 33), args := #[], argTypes := #[] }, none)) rfl rfl (ent Try.call33 rfl) (given_ok hF) ?_
      rintro vw8 w8 ⟨hs, hg2⟩
      refine ⟨trivial, ?_⟩
      replace hF := hF.st hs
      replace hT := hT.trans hs (by simp)
      replace hd := hd.st hs (by first | decide | (simp <;> omega)) (by first | decide | (simp <;> omega))
      replace hg := hg.st hs (by first | decide | (simp <;> omega))
      refine yS (by kernel_rfl : opAt F19.o9 3 = some (some 28, .call { callee := .builtin .len, args := #[(.tmp 27)], argTypes := #[23] }, none)) rfl rfl (fun w' hS => hg2.lenV rfl Try.underlying23 w' ) ?_
      refine cS (by kernel_rfl : opAt F19.o9 4 = some (some 29, .call { callee := .value (.func 30), args := #[(.tmp 26), (.tmp 28)], argTypes := #[27, 3] }, none)) rfl rfl (ent Try.call30 rfl) (next_any (n := (givenL.length : Nat)) hF (by decide) hd (by decide) (by decide)) ?_
      rintro vw9 w9 ⟨k, rfl, hk, hs, hd⟩
      refine ⟨trivial, ?_⟩
      replace hF := hF.st hs
      replace hT := hT.trans hs (by simp)
      replace hg := hg.st hs (by first | decide | (simp <;> omega))
      replace hg2 := hg2.st hs (by first | decide | (simp <;> omega))
      refine iS (e := 9) (by kernel_rfl : opAt F19.o9 5 = some (some 30, .indexAddr 23 (.tmp 25) (.tmp 29), none)) rfl rfl hg rfl (by kernel_rfl) rfl (by omega) (by omega) ?_
      intro b30 o30 h30
      try simp only [Int.toNat_natCast] at h30
      refine lN (by kernel_rfl : opAt F19.o9 6 = some (some 31, .load 9 (.tmp 30), none)) rfl rfl trivial h30 (by kernel_rfl) rfl rfl ?_
      intro v31 g31
      obtain ⟨rfl, hb31⟩ := rv_tx.1 g31
      refine yS (by kernel_rfl : opAt F19.o9 7 = some (some 2, .assign (.tmp 31), none)) rfl rfl (fun w' hS => val_assign rfl) ?_
      refine Sch.nil ?_
      refine run_ret1 (by kernel_rfl) Try.func19 Try.results19 rfl ?_
      exact ⟨_, rfl, givenL_ok _ (List.getElem_mem _), hT.out2 (by decide), hd.out hT hF0 hbc⟩
    · skip
      refine run_skip (by kernel_rfl) ?_
      refine run_seq (x := F19.c36) (y := F19.c37) (by kernel_rfl) ?_
      refine run_plain (id := 10) (ops := F19.o10) [(0, false), (1, true), (2, false), (3, true), (4, false), (5, true), (6, false), (7, true)] (by kernel_rfl) (by kernel_rfl) ?_
      refine cS (by kernel_rfl : opAt F19.o10 0 = some (some 32, .call { callee := .value (.func 34), args := #[], argTypes := #[] }, none)) rfl rfl (ent Try.call34 rfl) (family_ok hF) ?_
      rintro vw10 w10 ⟨hs, hg⟩
      refine ⟨trivial, ?_⟩
      replace hF := hF.st hs
      replace hT := hT.trans hs (by simp)
      replace hd := hd.st hs (by first | decide | (simp <;> omega)) (by first | decide | (simp <;> omega))
      refine yS (by kernel_rfl : opAt F19.o10 1 = some (some 33, .move (.tmp 0), none)) rfl rfl (fun w' hS => val_move rfl) ?_
      refine cS (by kernel_rfl : opAt F19.o10 2 = some (some 34, .call { callee := .value (.func 34), args := #[], argTypes := #[] }, none)) rfl rfl (ent Try.call34 rfl) (family_ok hF) ?_
      rintro vw11 w11 ⟨hs, hg2⟩
      refine ⟨trivial, ?_⟩
      replace hF := hF.st hs
      replace hT := hT.trans hs (by simp)
      replace hd := hd.st hs (by first | decide | (simp <;> omega)) (by first | decide | (simp <;> omega))
      replace hg := hg.st hs (by first | decide | (simp <;> omega))
      refine yS (by kernel_rfl : opAt F19.o10 3 = some (some 35, .call { callee := .builtin .len, args := #[(.tmp 34)], argTypes := #[23] }, none)) rfl rfl (fun w' hS => hg2.lenV rfl Try.underlying23 w' ) ?_
      refine cS (by kernel_rfl : opAt F19.o10 4 = some (some 36, .call { callee := .value (.func 30), args := #[(.tmp 33), (.tmp 35)], argTypes := #[27, 3] }, none)) rfl rfl (ent Try.call30 rfl) (next_any (n := (familyL.length : Nat)) hF (by decide) hd (by decide) (by decide)) ?_
      rintro vw12 w12 ⟨k, rfl, hk, hs, hd⟩
      refine ⟨trivial, ?_⟩
      replace hF := hF.st hs
      replace hT := hT.trans hs (by simp)
      replace hg := hg.st hs (by first | decide | (simp <;> omega))
      replace hg2 := hg2.st hs (by first | decide | (simp <;> omega))
      refine iS (e := 9) (by kernel_rfl : opAt F19.o10 5 = some (some 37, .indexAddr 23 (.tmp 32) (.tmp 36), none)) rfl rfl hg rfl (by kernel_rfl) rfl (by omega) (by omega) ?_
      intro b37 o37 h37
      try simp only [Int.toNat_natCast] at h37
      refine lN (by kernel_rfl : opAt F19.o10 6 = some (some 38, .load 9 (.tmp 37), none)) rfl rfl trivial h37 (by kernel_rfl) rfl rfl ?_
      intro v38 g38
      obtain ⟨rfl, hb38⟩ := rv_tx.1 g38
      refine yS (by kernel_rfl : opAt F19.o10 7 = some (some 2, .assign (.tmp 38), none)) rfl rfl (fun w' hS => val_assign rfl) ?_
      refine Sch.nil ?_
      refine run_ret1 (by kernel_rfl) Try.func19 Try.results19 rfl ?_
      exact ⟨_, rfl, familyL_ok _ (List.getElem_mem _), hT.out2 (by decide), hd.out hT hF0 hbc⟩
theorem awk1 : gramsT [97, 110, 110] = [⟨[95, 97]⟩, ⟨[97, 110]⟩, ⟨[110, 95]⟩, ⟨[110, 110]⟩] := by decide +kernel
theorem awk2 : gramsT [97, 110] = [⟨[95, 97]⟩, ⟨[97, 110]⟩, ⟨[110, 95]⟩] := by decide +kernel
theorem awk3 : posT [50, 48] = [⟨[97, 50]⟩, ⟨[98, 48]⟩] := by decide +kernel
theorem awk4 : diceT [⟨[95, 97]⟩, ⟨[97, 110]⟩, ⟨[110, 95]⟩, ⟨[110, 110]⟩] [⟨[95, 97]⟩, ⟨[97, 110]⟩, ⟨[110, 95]⟩] = 857 := by decide +kernel
namespace F8
noncomputable def c0 : Code := bodyOf Try.f8
noncomputable def c1 : Code := cl c0
noncomputable def o0 : Array Oper := rops c1
noncomputable def c2 : Code := cr c0
noncomputable def c3 : Code := cl c2
noncomputable def o1 : Array Oper := rops c3
noncomputable def c4 : Code := cr c2
noncomputable def c5 : Code := cl c4
noncomputable def o2 : Array Oper := rops c5
noncomputable def c6 : Code := cr c4
end F8
theorem awake_ok {w₀ : World} {C : Nat → Nat} (hF : Lim w₀ C) : Calls Try.prog 8 #[] w₀ (Ret fun v w' => v = .bool true ∧ Stp [] w₀ C w' C) := by
  have hF0 := hF
  have hT := Stp.refl [2, 3, 4, 5, 6, 7, 8, 9] w₀ (col1 C)
  replace hF := hF.col1
  refine calls_start (c := F8.c0) (N := 29) [] Try.func8 (by kernel_rfl) (by kernel_rfl) (by kernel_rfl) ?_
  show Run _ _ _ _ [] _ _
  refine run_seq (x := F8.c1) (y := F8.c2) (by kernel_rfl) ?_
  refine run_plain (id := 0) (ops := F8.o0) [(0, true)] (by kernel_rfl) (by kernel_rfl) ?_
  refine yS (by kernel_rfl : opAt F8.o0 0 = some (some 0, .assign (.const (.bool false)), none)) rfl rfl (fun w' hS => val_assign rfl) ?_
  refine Sch.nil ?_
  refine run_seq (x := F8.c3) (y := F8.c4) (by kernel_rfl) ?_
  refine run_plain (id := 1) (ops := F8.o1) [(0, false), (1, true)] (by kernel_rfl) (by kernel_rfl) ?_
  refine cS (by kernel_rfl : opAt F8.o1 0 = some (some 2, .call { callee := .value (.func 15), args := #[(.const (.string ⟨#[97, 110, 110]⟩))], argTypes := #[9] }, none)) rfl rfl (ent Try.call15 rfl) (grams_ok (s := [97, 110, 110]) hF (by decide)) ?_
  rintro vhg1 w1 ⟨hs, hg1⟩
  refine ⟨trivial, ?_⟩
  replace hF := hF.st hs
  replace hT := hT.trans hs (by simp)
  rw [awk1] at hg1
  refine yS (by kernel_rfl : opAt F8.o1 1 = some (some 1, .assign (.tmp 2), none)) rfl rfl (fun w' hS => val_assign rfl) ?_
  refine Sch.nil ?_
  refine run_seq (x := F8.c5) (y := F8.c6) (by kernel_rfl) ?_
  refine run_plain (id := 2) (ops := F8.o2) [(0, true), (1, true), (2, true), (3, true), (4, true), (5, true), (6, false), (7, true), (8, true), (9, true), (10, true), (11, true), (12, false), (13, true), (14, true), (15, true), (16, true), (17, false), (18, false), (19, true), (20, true), (21, true), (22, false), (23, true), (24, true), (25, true), (26, true)] (by kernel_rfl) (by kernel_rfl) ?_
  refine yS (by kernel_rfl : opAt F8.o2 0 = some (some 3, .move (.tmp 1), none)) rfl rfl (fun w' hS => val_move rfl) ?_
  refine yS (by kernel_rfl : opAt F8.o2 1 = some (some 4, .call { callee := .builtin .len, args := #[(.tmp 3)], argTypes := #[23] }, none)) rfl rfl (fun w' hS => hg1.lenV rfl Try.underlying23 w' ) ?_
  refine yS (by kernel_rfl : opAt F8.o2 2 = some (some 5, .binOp .eql 3 (.tmp 4) (.const (.int .i64 4)) 3, none)) rfl rfl (fun w' hS => val_T (val_eql rfl rfl) rfl) ?_
  refine yS (by kernel_rfl : opAt F8.o2 3 = some (some 6, .move (.tmp 5), none)) rfl rfl (fun w' hS => val_move rfl) ?_
  refine yS (by kernel_rfl : opAt F8.o2 4 = some (some 7, .move (.tmp 1), (some (3, true)))) rfl rfl (fun w' hS => val_move rfl) ?_
  refine iS (e := 9) (by kernel_rfl : opAt F8.o2 5 = some (some 8, .indexAddr 23 (.tmp 7) (.const (.int .i64 0)), (some (3, true)))) rfl rfl hg1 rfl (by kernel_rfl) rfl (by decide) (by decide) ?_
  intro b8 o8 h8
  refine lN (by kernel_rfl : opAt F8.o2 6 = some (some 9, .load 9 (.tmp 8), (some (3, true)))) rfl rfl trivial h8 (by kernel_rfl) rfl rfl ?_
  intro v9 g9
  obtain ⟨rfl, hb9⟩ := rv_tx.1 g9
  refine yS (by kernel_rfl : opAt F8.o2 7 = some (some 10, .binOp .eql 9 (.tmp 9) (.const (.string ⟨#[95, 97]⟩)) 9, (some (3, true)))) rfl rfl (fun w' hS => val_T (val_eqT rfl rfl) rfl) ?_
  refine yS (by kernel_rfl : opAt F8.o2 8 = some (some 11, .pick (.tmp 6) (.tmp 10) (.const (.bool false)), none)) rfl rfl (fun w' hS => val_pick_t rfl rfl) ?_
  refine yS (by kernel_rfl : opAt F8.o2 9 = some (some 12, .move (.tmp 11), none)) rfl rfl (fun w' hS => val_move rfl) ?_
  refine yS (by kernel_rfl : opAt F8.o2 10 = some (some 13, .move (.tmp 1), (some (9, true)))) rfl rfl (fun w' hS => val_move rfl) ?_
  refine iS (e := 9) (by kernel_rfl : opAt F8.o2 11 = some (some 14, .indexAddr 23 (.tmp 13) (.const (.int .i64 3)), (some (9, true)))) rfl rfl hg1 rfl (by kernel_rfl) rfl (by decide) (by decide) ?_
  intro b14 o14 h14
  refine lN (by kernel_rfl : opAt F8.o2 12 = some (some 15, .load 9 (.tmp 14), (some (9, true)))) rfl rfl trivial h14 (by kernel_rfl) rfl rfl ?_
  intro v15 g15
  obtain ⟨rfl, hb15⟩ := rv_tx.1 g15
  refine yS (by kernel_rfl : opAt F8.o2 13 = some (some 16, .binOp .eql 9 (.tmp 15) (.const (.string ⟨#[110, 110]⟩)) 9, (some (9, true)))) rfl rfl (fun w' hS => val_T (val_eqT rfl rfl) rfl) ?_
  refine yS (by kernel_rfl : opAt F8.o2 14 = some (some 17, .pick (.tmp 12) (.tmp 16) (.const (.bool false)), none)) rfl rfl (fun w' hS => val_pick_t rfl rfl) ?_
  refine yS (by kernel_rfl : opAt F8.o2 15 = some (some 18, .move (.tmp 17), none)) rfl rfl (fun w' hS => val_move rfl) ?_
  refine yS (by kernel_rfl : opAt F8.o2 16 = some (some 19, .move (.tmp 1), (some (15, true)))) rfl rfl (fun w' hS => val_move rfl) ?_
  refine cS (by kernel_rfl : opAt F8.o2 17 = some (some 20, .call { callee := .value (.func 15), args := #[(.const (.string ⟨#[97, 110]⟩))], argTypes := #[9] }, (some (15, true)))) rfl rfl (ent Try.call15 rfl) (grams_ok (s := [97, 110]) hF (by decide)) ?_
  rintro vhg2 w2 ⟨hs, hg2⟩
  refine ⟨trivial, ?_⟩
  replace hF := hF.st hs
  replace hT := hT.trans hs (by simp)
  replace hg1 := hg1.st hs (by first | decide | (simp <;> omega))
  replace h8 := h8.st hs (by first | decide | (simp <;> omega))
  replace h14 := h14.st hs (by first | decide | (simp <;> omega))
  rw [awk2] at hg2
  refine cS (by kernel_rfl : opAt F8.o2 18 = some (some 21, .call { callee := .value (.func 22), args := #[(.tmp 19), (.tmp 20)], argTypes := #[23, 23] }, (some (15, true)))) rfl rfl (ent Try.call22 rfl) (dice_ok hF hg1 hg2 (by decide) (by decide)) ?_
  rintro vw3 w3 ⟨rfl, hs⟩
  rw [awk4]
  refine ⟨trivial, ?_⟩
  replace hF := hF.st hs
  replace hT := hT.trans hs (by simp)
  replace hg1 := hg1.st hs (by first | decide | (simp <;> omega))
  replace h8 := h8.st hs (by first | decide | (simp <;> omega))
  replace h14 := h14.st hs (by first | decide | (simp <;> omega))
  replace hg2 := hg2.st hs (by first | decide | (simp <;> omega))
  refine yS (by kernel_rfl : opAt F8.o2 19 = some (some 22, .binOp .eql 3 (.tmp 21) (.const (.int .i64 857)) 3, (some (15, true)))) rfl rfl (fun w' hS => val_T (val_eql rfl rfl) rfl) ?_
  refine yS (by kernel_rfl : opAt F8.o2 20 = some (some 23, .pick (.tmp 18) (.tmp 22) (.const (.bool false)), none)) rfl rfl (fun w' hS => val_pick_t rfl rfl) ?_
  refine yS (by kernel_rfl : opAt F8.o2 21 = some (some 24, .move (.tmp 23), none)) rfl rfl (fun w' hS => val_move rfl) ?_
  refine cS (by kernel_rfl : opAt F8.o2 22 = some (some 25, .call { callee := .value (.func 17), args := #[(.const (.string ⟨#[50, 48]⟩))], argTypes := #[9] }, (some (21, true)))) rfl rfl (ent Try.call17 rfl) (pos_ok (s := [50, 48]) hF (by decide)) ?_
  rintro vhg3 w4 ⟨hs, hg3⟩
  refine ⟨trivial, ?_⟩
  replace hF := hF.st hs
  replace hT := hT.trans hs (by simp)
  replace hg1 := hg1.st hs (by first | decide | (simp <;> omega))
  replace h8 := h8.st hs (by first | decide | (simp <;> omega))
  replace h14 := h14.st hs (by first | decide | (simp <;> omega))
  replace hg2 := hg2.st hs (by first | decide | (simp <;> omega))
  rw [awk3] at hg3
  refine yS (by kernel_rfl : opAt F8.o2 23 = some (some 26, .call { callee := .builtin .len, args := #[(.tmp 25)], argTypes := #[23] }, (some (21, true)))) rfl rfl (fun w' hS => hg3.lenV rfl Try.underlying23 w' ) ?_
  refine yS (by kernel_rfl : opAt F8.o2 24 = some (some 27, .binOp .eql 3 (.tmp 26) (.const (.int .i64 2)) 3, (some (21, true)))) rfl rfl (fun w' hS => val_T (val_eql rfl rfl) rfl) ?_
  refine yS (by kernel_rfl : opAt F8.o2 25 = some (some 28, .pick (.tmp 24) (.tmp 27) (.const (.bool false)), none)) rfl rfl (fun w' hS => val_pick_t rfl rfl) ?_
  refine yS (by kernel_rfl : opAt F8.o2 26 = some (some 0, .assign (.tmp 28), none)) rfl rfl (fun w' hS => val_assign rfl) ?_
  refine Sch.nil ?_
  refine run_ret1 (by kernel_rfl) Try.func8 Try.results8 rfl ?_
  exact ⟨rfl, hT.out1 (by decide)⟩
end Go.Proofs.Ythdkcbakiiokiaa
