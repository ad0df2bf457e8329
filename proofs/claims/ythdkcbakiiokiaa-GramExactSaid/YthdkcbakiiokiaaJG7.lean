/- Steps through functions of the program. -/
import Derived.Test.YthdkcbakiiokiaaJG6
set_option linter.unusedVariables false
set_option linter.unusedSimpArgs false
set_option maxRecDepth 100000
set_option maxHeartbeats 4000000
namespace Go.Proofs.Ythdkcbakiiokiaa
open Go.K Go.K.Rep

def tx1 : List Tx := [⟨[]⟩, ⟨[]⟩, ⟨[32]⟩, ⟨[45]⟩, ⟨[39]⟩]
def tx2 : List Tx := [⟨[49, 50]⟩, ⟨[48, 48, 55]⟩, ⟨[51, 98]⟩, ⟨[77, 195, 188, 108, 108, 101, 114]⟩, ⟨[195, 134, 103, 105, 114]⟩, ⟨[195, 159]⟩, ⟨[79, 39, 78, 101, 105, 108, 108]⟩, ⟨[195, 151]⟩]
def tx3 : List Tx := [⟨[32]⟩, ⟨[32]⟩, ⟨[46]⟩, ⟨[44, 32]⟩]
def tx4 : List Tx := [⟨[31]⟩, ⟨[127]⟩, ⟨[194, 160]⟩, ⟨[255]⟩, ⟨[10]⟩]
theorem tx1_len : ∀ z ∈ tx1, z.l.length ≤ 8 := by decide
theorem tx2_len : ∀ z ∈ tx2, z.l.length ≤ 8 := by decide
theorem tx3_len : ∀ z ∈ tx3, z.l.length ≤ 8 := by decide
theorem tx4_len : ∀ z ∈ tx4, z.l.length ≤ 8 := by decide
theorem tx22_len {p q : Tx} (hp : TokOK p) (hq : TokOK q) : ∀ z ∈ p :: q :: tx2, z.l.length ≤ 8 := fun z hz => by
  rcases List.mem_cons.1 hz with rfl | hz
  · exact hp.2.1
  · rcases List.mem_cons.1 hz with rfl | hz
    · exact hq.2.1
    · exact tx2_len z hz
namespace F13
noncomputable def c0 : Code := bodyOf Try.f13
noncomputable def c1 : Code := cl c0
noncomputable def o0 : Array Oper := rops c1
noncomputable def c2 : Code := cr c0
noncomputable def c3 : Code := cl c2
noncomputable def o1 : Array Oper := rops c3
noncomputable def c4 : Code := cr c2
noncomputable def c5 : Code := cl c4
noncomputable def c6 : Code := cl c5
noncomputable def o2 : Array Oper := rops c6
noncomputable def c7 : Code := cr c5
noncomputable def c8 : Code := cl c7
noncomputable def c9 : Code := cl c8
noncomputable def c10 : Code := cl c9
noncomputable def c11 : Code := cl c10
noncomputable def o3 : Array Oper := rops c11
noncomputable def c12 : Code := cr c10
noncomputable def c13 : Code := cl c12
noncomputable def c14 : Code := cr c12
noncomputable def c15 : Code := cr c9
noncomputable def c16 : Code := cl c15
noncomputable def c17 : Code := cl c16
noncomputable def o5 : Array Oper := rops c17
noncomputable def c18 : Code := cr c15
noncomputable def o4 : Array Oper := rops c18
noncomputable def c19 : Code := cr c4
noncomputable def c20 : Code := cl c19
noncomputable def c21 : Code := cl c20
noncomputable def o6 : Array Oper := rops c21
noncomputable def c22 : Code := cr c20
noncomputable def c23 : Code := cl c22
noncomputable def c24 : Code := cl c23
noncomputable def o7 : Array Oper := rops c24
noncomputable def c25 : Code := cr c23
noncomputable def c26 : Code := cl c25
noncomputable def o8 : Array Oper := rops c26
noncomputable def c27 : Code := cr c25
noncomputable def c28 : Code := cl c27
noncomputable def o9 : Array Oper := rops c28
noncomputable def c29 : Code := cr c27
noncomputable def c30 : Code := cl c29
noncomputable def o10 : Array Oper := rops c30
noncomputable def c31 : Code := cr c29
noncomputable def c32 : Code := cl c31
noncomputable def o11 : Array Oper := rops c32
noncomputable def c33 : Code := cr c31
noncomputable def c34 : Code := cl c33
noncomputable def c35 : Code := cl c34
noncomputable def c36 : Code := cl c35
noncomputable def c37 : Code := cl c36
noncomputable def c38 : Code := cl c37
noncomputable def o12 : Array Oper := rops c38
noncomputable def c39 : Code := cr c37
noncomputable def c40 : Code := cl c39
noncomputable def c41 : Code := cr c39
noncomputable def c42 : Code := cr c36
noncomputable def c43 : Code := cl c42
noncomputable def o13 : Array Oper := rops c43
noncomputable def c44 : Code := cr c33
noncomputable def c45 : Code := cr c19
noncomputable def c46 : Code := cl c45
noncomputable def o14 : Array Oper := rops c46
noncomputable def c47 : Code := cr c45
end F13
/-- A raw text is dealt. -/
theorem text_ok {w₀ : World} {C : Nat → Nat} {i b : Nat} (hF : Lim w₀ C) (hi : i ≠ 0) (hd : DeckIs w₀ C i b) : Calls Try.prog 13 #[.pointer (some ⟨b, 0, none⟩)] w₀ (Ret fun v w' => ∃ x : Tx, v = sv x ∧ x.l.length ≤ 200 ∧ Stp [i] w₀ C w' C ∧ DeckIs w' C i b) := by
  have hF0 := hF
  have hbc := hd.colour
  replace hd := hd.col2 hi
  have hT := Stp.refl [2, 3, 4, 5, 6, 7, 8, 9] w₀ (col2 C i)
  replace hF := hF.col2 i
  refine calls_start (c := F13.c0) (N := 49) [.pointer (some ⟨b, 0, none⟩)] Try.func13 (by kernel_rfl) (by kernel_rfl) (by kernel_rfl) ?_
  show Run _ _ _ _ [(0, .pointer (some ⟨b, 0, none⟩))] _ _
  refine run_seq (x := F13.c1) (y := F13.c2) (by kernel_rfl) ?_
  refine run_plain (id := 0) (ops := F13.o0) [(0, true)] (by kernel_rfl) (by kernel_rfl) ?_
  refine yS (by kernel_rfl : opAt F13.o0 0 = some (some 2, .assign (.const (.string ⟨#[]⟩)), none)) rfl rfl (fun w' hS => val_assign rfl) ?_
  refine Sch.nil ?_
  refine run_seq (x := F13.c3) (y := F13.c4) (by kernel_rfl) ?_
  refine run_plain (id := 1) (ops := F13.o1) [(0, true)] (by kernel_rfl) (by kernel_rfl) ?_
  refine yS (by kernel_rfl : opAt F13.o1 0 = some (some 3, .assign (.const (.string ⟨#[]⟩)), none)) rfl rfl (fun w' hS => val_assign rfl) ?_
  refine Sch.nil ?_
  refine run_seq (x := F13.c5) (y := F13.c19) (by kernel_rfl) ?_
  refine run_seq (x := F13.c6) (y := F13.c7) (by kernel_rfl) ?_
  refine run_plain (id := 2) (ops := F13.o2) [(0, true), (1, false), (2, true)] (by kernel_rfl) (by kernel_rfl) ?_
  refine yS (by kernel_rfl : opAt F13.o2 0 = some (some 5, .move (.tmp 0), none)) rfl rfl (fun w' hS => val_move rfl) ?_
  refine cS (by kernel_rfl : opAt F13.o2 1 = some (some 6, .call { callee := .value (.func 30), args := #[(.tmp 5), (.const (.int .i64 5))], argTypes := #[27, 3] }, none)) rfl rfl (ent Try.call30 rfl) (next_any (n := 5) hF (by decide) hd (by decide) (by decide)) ?_
  rintro vw1 w1 ⟨k0, rfl, hk0, hs, hd⟩
  refine ⟨trivial, ?_⟩
  replace hF := hF.st hs
  replace hT := hT.trans hs (by simp)
  refine yS (by kernel_rfl : opAt F13.o2 2 = some (some 4, .assign (.tmp 6), none)) rfl rfl (fun w' hS => val_assign rfl) ?_
  refine Sch.nil ?_
  refine run_block (x := F13.c8) (id := 0) (by kernel_rfl) ?_
  
  refine run_loop (ι := Nat × (List UInt8) × (Nat → Nat)) (I := fun x w => x.2.1.length + 24 * x.1 ≤ 100 ∧ Lim w x.2.2 ∧ Stp [2, 3, 4, 5, 6, 7, 8, 9] w₀ (col2 C i) w x.2.2 ∧ DeckIs w x.2.2 2 b) (e := fun x => [(0, .pointer (some ⟨b, 0, none⟩)), (3, bs x.2.1), (4, .int .i64 x.1)]) (m := fun x => x.1) (x₀ := (k0, [], col2 C i)) (body := F13.c9) (by kernel_rfl) (sub_cons 0 rfl rfl (sub_cons 3 rfl rfl (sub_cons 4 rfl rfl (sub_nil _)))) ?_ ?_
  · exact ⟨(by simp only [List.length_nil]; omega), hF, hT, hd⟩
  intro ⟨k, s, C1⟩ w2 hI next
  obtain ⟨hs1, hF, hT, hd⟩ := hI
  try simp only at hs1 hF hT hd
  have next1 := next
  clear next
  show Run _ _ _ _ [(0, .pointer (some ⟨b, 0, none⟩)), (3, bs s), (4, .int .i64 k)] _ _
  refine run_seq (x := F13.c10) (y := F13.c15) (by kernel_rfl) ?_
  refine run_seq (x := F13.c11) (y := F13.c12) (by kernel_rfl) ?_
  refine run_plain (id := 3) (ops := F13.o3) [(0, true), (1, true)] (by kernel_rfl) (by kernel_rfl) ?_
  refine yS (by kernel_rfl : opAt F13.o3 0 = some (some 7, .move (.tmp 4), none)) rfl rfl (fun w' hS => val_move rfl) ?_
  refine yS (by kernel_rfl : opAt F13.o3 1 = some (some 8, .binOp .gtr 3 (.tmp 7) (.const (.int .i64 0)) 3, none)) rfl rfl (fun w' hS => val_gtr rfl rfl) ?_
  refine Sch.nil ?_
  refine run_if (x := F13.c13) (y := F13.c14) (o := .tmp 8) (by kernel_rfl) rfl (fun h8 => ?_) (fun h8 => ?_)
  · skip
    have hk1 : 1 ≤ k := by omega
    refine run_skip (by kernel_rfl) ?_
    refine run_seq (x := F13.c16) (y := F13.c18) (by kernel_rfl) ?_
    refine run_block (x := F13.c17) (id := 1) (by kernel_rfl) ?_
    refine run_plain (id := 5) (ops := F13.o5) [(0, true), (1, true), (2, false), (3, false), (4, true), (5, true), (6, false), (7, true), (8, false), (9, false), (10, false), (11, true), (12, true), (13, false), (14, false), (15, true), (16, true), (17, true)] (by kernel_rfl) (by kernel_rfl) ?_
    refine yS (by kernel_rfl : opAt F13.o5 0 = some (some 11, .move (.tmp 3), none)) rfl rfl (fun w' hS => val_move rfl) ?_
    refine yS (by kernel_rfl : opAt F13.o5 1 = some (some 12, .move (.tmp 0), none)) rfl rfl (fun w' hS => val_move rfl) ?_
    refine aS (by kernel_rfl : opAt F13.o5 2 = some (some 13, .buildSlice 23 5 #[(0, (.const (.string ⟨#[]⟩))), (1, (.const (.string ⟨#[]⟩))), (2, (.const (.string ⟨#[32]⟩))), (3, (.const (.string ⟨#[45]⟩))), (4, (.const (.string ⟨#[39]⟩)))], none)) rfl rfl (a_buildSlice (ys := tx1) (e := 9) (bytes := 16) hF (by kernel_rfl) rfl (by decide) (by decide) ⟨rfl, ⟨_, rfl, rv_tx.2 ⟨rfl, by decide⟩⟩, rfl, ⟨_, rfl, rv_tx.2 ⟨rfl, by decide⟩⟩, rfl, ⟨_, rfl, rv_tx.2 ⟨rfl, by decide⟩⟩, rfl, ⟨_, rfl, rv_tx.2 ⟨rfl, by decide⟩⟩, rfl, ⟨_, rfl, rv_tx.2 ⟨rfl, by decide⟩⟩, trivial⟩) ?_
    rintro v13 w3 ⟨hs, hl1, hF⟩
    refine ⟨trivial, ?_⟩
    replace hT := hT.trans hs (by simp)
    replace hd := hd.st hs (by first | decide | (simp <;> omega)) (by first | decide | (simp <;> omega))
    refine cS (by kernel_rfl : opAt F13.o5 3 = some (some 14, .call { callee := .value (.func 27), args := #[(.tmp 12), (.tmp 13)], argTypes := #[27, 23] }, none)) rfl rfl (ent Try.call27 rfl) (pick_ok hF (by decide) hd hl1 (by simp [tx1, tx2, tx3, tx4])) ?_
    rintro vw4 w4 ⟨z1, rfl, hmz1, hs, hd⟩
    refine ⟨trivial, ?_⟩
    replace hF := hF.st hs
    replace hT := hT.trans hs (by simp)
    replace hl1 := hl1.st hs (by first | decide | (simp <;> omega))
    have hzz1 := tx1_len _ hmz1
    refine yS (by kernel_rfl : opAt F13.o5 4 = some (some 15, .move (.tmp 0), none)) rfl rfl (fun w' hS => val_move rfl) ?_
    refine yS (by kernel_rfl : opAt F13.o5 5 = some (some 16, .move (.tmp 0), none)) rfl rfl (fun w' hS => val_move rfl) ?_
    refine cS (by kernel_rfl : opAt F13.o5 6 = some (some 17, .call { callee := .value (.func 19), args := #[(.tmp 16)], argTypes := #[27] }, none)) rfl rfl (ent Try.call19 rfl) (token_ok hF (by decide) hd) ?_
    rintro vw5 w5 ⟨yp, rfl, hyp, hs, hd⟩
    refine ⟨trivial, ?_⟩
    replace hF := hF.st hs
    replace hT := hT.trans hs (by simp)
    replace hl1 := hl1.st hs (by first | decide | (simp <;> omega))
    have h8p := hyp.2.1
    refine yS (by kernel_rfl : opAt F13.o5 7 = some (some 18, .move (.tmp 0), none)) rfl rfl (fun w' hS => val_move rfl) ?_
    refine cS (by kernel_rfl : opAt F13.o5 8 = some (some 19, .call { callee := .value (.func 19), args := #[(.tmp 18)], argTypes := #[27] }, none)) rfl rfl (ent Try.call19 rfl) (token_ok hF (by decide) hd) ?_
    rintro vw6 w6 ⟨yq, rfl, hyq, hs, hd⟩
    refine ⟨trivial, ?_⟩
    replace hF := hF.st hs
    replace hT := hT.trans hs (by simp)
    replace hl1 := hl1.st hs (by first | decide | (simp <;> omega))
    have h8q := hyq.2.1
    refine aS (by kernel_rfl : opAt F13.o5 9 = some (some 20, .buildSlice 23 10 #[(0, (.tmp 17)), (1, (.tmp 19)), (2, (.const (.string ⟨#[49, 50]⟩))), (3, (.const (.string ⟨#[48, 48, 55]⟩))), (4, (.const (.string ⟨#[51, 98]⟩))), (5, (.const (.string ⟨#[77, 195, 188, 108, 108, 101, 114]⟩))), (6, (.const (.string ⟨#[195, 134, 103, 105, 114]⟩))), (7, (.const (.string ⟨#[195, 159]⟩))), (8, (.const (.string ⟨#[79, 39, 78, 101, 105, 108, 108]⟩))), (9, (.const (.string ⟨#[195, 151]⟩)))], none)) rfl rfl (a_buildSlice (ys := (yp :: yq :: tx2)) (e := 9) (bytes := 16) hF (by kernel_rfl) rfl (by decide) (by decide) ⟨rfl, ⟨_, rfl, rv_tx.2 ⟨rfl, by omega⟩⟩, rfl, ⟨_, rfl, rv_tx.2 ⟨rfl, by omega⟩⟩, rfl, ⟨_, rfl, rv_tx.2 ⟨rfl, by decide⟩⟩, rfl, ⟨_, rfl, rv_tx.2 ⟨rfl, by decide⟩⟩, rfl, ⟨_, rfl, rv_tx.2 ⟨rfl, by decide⟩⟩, rfl, ⟨_, rfl, rv_tx.2 ⟨rfl, by decide⟩⟩, rfl, ⟨_, rfl, rv_tx.2 ⟨rfl, by decide⟩⟩, rfl, ⟨_, rfl, rv_tx.2 ⟨rfl, by decide⟩⟩, rfl, ⟨_, rfl, rv_tx.2 ⟨rfl, by decide⟩⟩, rfl, ⟨_, rfl, rv_tx.2 ⟨rfl, by decide⟩⟩, trivial⟩) ?_
    rintro v20 w7 ⟨hs, hl2, hF⟩
    refine ⟨trivial, ?_⟩
    replace hT := hT.trans hs (by simp)
    replace hd := hd.st hs (by first | decide | (simp <;> omega)) (by first | decide | (simp <;> omega))
    replace hl1 := hl1.st hs (by first | decide | (simp <;> omega))
    refine cS (by kernel_rfl : opAt F13.o5 10 = some (some 21, .call { callee := .value (.func 27), args := #[(.tmp 15), (.tmp 20)], argTypes := #[27, 23] }, none)) rfl rfl (ent Try.call27 rfl) (pick_ok hF (by decide) hd hl2 (by simp [tx1, tx2, tx3, tx4])) ?_
    rintro vw8 w8 ⟨z2, rfl, hmz2, hs, hd⟩
    refine ⟨trivial, ?_⟩
    replace hF := hF.st hs
    replace hT := hT.trans hs (by simp)
    replace hl1 := hl1.st hs (by first | decide | (simp <;> omega))
    replace hl2 := hl2.st hs (by first | decide | (simp <;> omega))
    have hzz2 := tx22_len hyp hyq _ hmz2
    refine yS (by kernel_rfl : opAt F13.o5 11 = some (some 22, .binOp .add 9 (.tmp 14) (.tmp 21) 9, none)) rfl rfl (fun w' hS => val_cat rfl rfl (by (try simp only [List.length_append, List.length_cons, List.length_nil]); omega)) ?_
    refine yS (by kernel_rfl : opAt F13.o5 12 = some (some 23, .move (.tmp 0), none)) rfl rfl (fun w' hS => val_move rfl) ?_
    refine aS (by kernel_rfl : opAt F13.o5 13 = some (some 24, .buildSlice 23 4 #[(0, (.const (.string ⟨#[32]⟩))), (1, (.const (.string ⟨#[32]⟩))), (2, (.const (.string ⟨#[46]⟩))), (3, (.const (.string ⟨#[44, 32]⟩)))], none)) rfl rfl (a_buildSlice (ys := tx3) (e := 9) (bytes := 16) hF (by kernel_rfl) rfl (by decide) (by decide) ⟨rfl, ⟨_, rfl, rv_tx.2 ⟨rfl, by decide⟩⟩, rfl, ⟨_, rfl, rv_tx.2 ⟨rfl, by decide⟩⟩, rfl, ⟨_, rfl, rv_tx.2 ⟨rfl, by decide⟩⟩, rfl, ⟨_, rfl, rv_tx.2 ⟨rfl, by decide⟩⟩, trivial⟩) ?_
    rintro v24 w9 ⟨hs, hl3, hF⟩
    refine ⟨trivial, ?_⟩
    replace hT := hT.trans hs (by simp)
    replace hd := hd.st hs (by first | decide | (simp <;> omega)) (by first | decide | (simp <;> omega))
    replace hl1 := hl1.st hs (by first | decide | (simp <;> omega))
    replace hl2 := hl2.st hs (by first | decide | (simp <;> omega))
    refine cS (by kernel_rfl : opAt F13.o5 14 = some (some 25, .call { callee := .value (.func 27), args := #[(.tmp 23), (.tmp 24)], argTypes := #[27, 23] }, none)) rfl rfl (ent Try.call27 rfl) (pick_ok hF (by decide) hd hl3 (by simp [tx1, tx2, tx3, tx4])) ?_
    rintro vw10 w10 ⟨z3, rfl, hmz3, hs, hd⟩
    refine ⟨trivial, ?_⟩
    replace hF := hF.st hs
    replace hT := hT.trans hs (by simp)
    replace hl1 := hl1.st hs (by first | decide | (simp <;> omega))
    replace hl2 := hl2.st hs (by first | decide | (simp <;> omega))
    replace hl3 := hl3.st hs (by first | decide | (simp <;> omega))
    have hzz3 := tx3_len _ hmz3
    refine yS (by kernel_rfl : opAt F13.o5 15 = some (some 26, .binOp .add 9 (.tmp 22) (.tmp 25) 9, none)) rfl rfl (fun w' hS => val_cat rfl rfl (by (try simp only [List.length_append, List.length_cons, List.length_nil]); omega)) ?_
    refine yS (by kernel_rfl : opAt F13.o5 16 = some (some 27, .binOp .add 9 (.tmp 11) (.tmp 26) 9, none)) rfl rfl (fun w' hS => val_cat rfl rfl (by (try simp only [List.length_append, List.length_cons, List.length_nil]); omega)) ?_
    refine yS (by kernel_rfl : opAt F13.o5 17 = some (some 3, .assign (.tmp 27), none)) rfl rfl (fun w' hS => val_assign rfl) ?_
    refine Sch.nil ?_
    refine run_inBlock ?_
    refine run_plain (id := 4) (ops := F13.o4) [(0, true), (1, true), (2, true)] (by kernel_rfl) (by kernel_rfl) ?_
    refine yS (by kernel_rfl : opAt F13.o4 0 = some (some 9, .move (.tmp 4), none)) rfl rfl (fun w' hS => val_move rfl) ?_
    refine yS (by kernel_rfl : opAt F13.o4 1 = some (some 10, .binOp .sub 3 (.tmp 9) (.const (.int .i64 1)) 3, none)) rfl rfl (fun w' hS => val_subi rfl rfl (by omega) (by omega)) ?_
    refine yS (by kernel_rfl : opAt F13.o4 2 = some (some 4, .assign (.tmp 10), none)) rfl rfl (fun w' hS => val_assign rfl) ?_
    refine Sch.nil ?_
    refine kp (sub_cons 0 rfl rfl (sub_cons 3 rfl rfl (sub_cons 4 rfl (eq_int (by simp only; omega)) (sub_nil _)))) (next1 (k - 1, s ++ (z1.l ++ z2.l ++ z3.l), C1) _ ⟨(by simp only [List.length_append]; omega), hF, hT, hd⟩ (by first | omega | (simp only; omega)))
  · skip
    have hk1 : k = 0 := by omega
    refine run_exit (id := 0) (by kernel_rfl) rfl ?_
    refine run_seq (x := F13.c20) (y := F13.c45) (by kernel_rfl) ?_
    refine run_seq (x := F13.c21) (y := F13.c22) (by kernel_rfl) ?_
    refine run_plain (id := 6) (ops := F13.o6) [(0, true), (1, false)] (by kernel_rfl) (by kernel_rfl) ?_
    refine yS (by kernel_rfl : opAt F13.o6 0 = some (some 28, .move (.tmp 0), none)) rfl rfl (fun w' hS => val_move rfl) ?_
    refine cS (by kernel_rfl : opAt F13.o6 1 = some (some 29, .call { callee := .value (.func 30), args := #[(.tmp 28), (.const (.int .i64 12))], argTypes := #[27, 3] }, none)) rfl rfl (ent Try.call30 rfl) (next_any (n := 12) hF (by decide) hd (by decide) (by decide)) ?_
    rintro vw11 w11 ⟨sw, rfl, hsw, hs, hd⟩
    refine ⟨trivial, ?_⟩
    replace hF := hF.st hs
    replace hT := hT.trans hs (by simp)
    refine Sch.nil ?_
    refine run_block (x := F13.c23) (id := 2) (by kernel_rfl) ?_
    refine run_seq (x := F13.c24) (y := F13.c25) (by kernel_rfl) ?_
    refine run_plain (id := 7) (ops := F13.o7) [(0, true), (1, true)] (by kernel_rfl) (by kernel_rfl) ?_
    refine yS (by kernel_rfl : opAt F13.o7 0 = some (some 31, .binOp .eql 3 (.tmp 29) (.const (.int .i64 0)) 3, none)) rfl rfl (fun w' hS => val_eql rfl rfl) ?_
    refine yS (by kernel_rfl : opAt F13.o7 1 = some (some 30, .assign (.tmp 31), none)) rfl rfl (fun w' hS => val_assign rfl) ?_
    refine Sch.nil ?_
    refine run_if (x := F13.c26) (y := F13.c27) (o := .tmp 30) (by kernel_rfl) rfl (fun h30 => ?_) (fun h30 => ?_)
    · skip
      refine run_plain (id := 8) (ops := F13.o8) [(0, true), (1, true), (2, true)] (by kernel_rfl) (by kernel_rfl) ?_
      refine yS (by kernel_rfl : opAt F13.o8 0 = some (some 32, .move (.tmp 3), none)) rfl rfl (fun w' hS => val_move rfl) ?_
      refine yS (by kernel_rfl : opAt F13.o8 1 = some (some 33, .binOp .add 9 (.tmp 32) (.const (.string ⟨#[195]⟩)) 9, none)) rfl rfl (fun w' hS => val_cat rfl rfl (by (try simp only [List.length_append, List.length_cons, List.length_nil]); omega)) ?_
      refine yS (by kernel_rfl : opAt F13.o8 2 = some (some 3, .assign (.tmp 33), none)) rfl rfl (fun w' hS => val_assign rfl) ?_
      refine Sch.nil ?_
      refine run_inBlock ?_
      refine run_seq (x := F13.c46) (y := F13.c47) (by kernel_rfl) ?_
      refine run_plain (id := 14) (ops := F13.o14) [(0, true), (1, true)] (by kernel_rfl) (by kernel_rfl) ?_
      refine yS (by kernel_rfl : opAt F13.o14 0 = some (some 48, .move (.tmp 3), none)) rfl rfl (fun w' hS => val_move rfl) ?_
      refine yS (by kernel_rfl : opAt F13.o14 1 = some (some 2, .assign (.tmp 48), none)) rfl rfl (fun w' hS => val_assign rfl) ?_
      refine Sch.nil ?_
      refine run_ret1 (by kernel_rfl) Try.func13 Try.results13 rfl ?_
      exact ⟨⟨_⟩, rfl, by (try simp only [List.length_append, List.length_cons, List.length_nil]); omega, hT.out2 (by decide), hd.out hT hF0 hbc⟩
    · skip
      refine run_seq (x := F13.c28) (y := F13.c29) (by kernel_rfl) ?_
      refine run_plain (id := 9) (ops := F13.o9) [(0, true), (1, true)] (by kernel_rfl) (by kernel_rfl) ?_
      refine yS (by kernel_rfl : opAt F13.o9 0 = some (some 35, .binOp .eql 3 (.tmp 29) (.const (.int .i64 1)) 3, none)) rfl rfl (fun w' hS => val_eql rfl rfl) ?_
      refine yS (by kernel_rfl : opAt F13.o9 1 = some (some 34, .assign (.tmp 35), none)) rfl rfl (fun w' hS => val_assign rfl) ?_
      refine Sch.nil ?_
      refine run_if (x := F13.c30) (y := F13.c31) (o := .tmp 34) (by kernel_rfl) rfl (fun h34 => ?_) (fun h34 => ?_)
      · skip
        refine run_plain (id := 10) (ops := F13.o10) [(0, true), (1, true), (2, false), (3, false), (4, true), (5, true)] (by kernel_rfl) (by kernel_rfl) ?_
        refine yS (by kernel_rfl : opAt F13.o10 0 = some (some 36, .move (.tmp 3), none)) rfl rfl (fun w' hS => val_move rfl) ?_
        refine yS (by kernel_rfl : opAt F13.o10 1 = some (some 37, .move (.tmp 0), none)) rfl rfl (fun w' hS => val_move rfl) ?_
        refine aS (by kernel_rfl : opAt F13.o10 2 = some (some 38, .buildSlice 23 5 #[(0, (.const (.string ⟨#[31]⟩))), (1, (.const (.string ⟨#[127]⟩))), (2, (.const (.string ⟨#[194, 160]⟩))), (3, (.const (.string ⟨#[255]⟩))), (4, (.const (.string ⟨#[10]⟩)))], none)) rfl rfl (a_buildSlice (ys := tx4) (e := 9) (bytes := 16) hF (by kernel_rfl) rfl (by decide) (by decide) ⟨rfl, ⟨_, rfl, rv_tx.2 ⟨rfl, by decide⟩⟩, rfl, ⟨_, rfl, rv_tx.2 ⟨rfl, by decide⟩⟩, rfl, ⟨_, rfl, rv_tx.2 ⟨rfl, by decide⟩⟩, rfl, ⟨_, rfl, rv_tx.2 ⟨rfl, by decide⟩⟩, rfl, ⟨_, rfl, rv_tx.2 ⟨rfl, by decide⟩⟩, trivial⟩) ?_
        rintro v38 w12 ⟨hs, hl4, hF⟩
        refine ⟨trivial, ?_⟩
        replace hT := hT.trans hs (by simp)
        replace hd := hd.st hs (by first | decide | (simp <;> omega)) (by first | decide | (simp <;> omega))
        refine cS (by kernel_rfl : opAt F13.o10 3 = some (some 39, .call { callee := .value (.func 27), args := #[(.tmp 37), (.tmp 38)], argTypes := #[27, 23] }, none)) rfl rfl (ent Try.call27 rfl) (pick_ok hF (by decide) hd hl4 (by simp [tx1, tx2, tx3, tx4])) ?_
        rintro vw13 w13 ⟨z4, rfl, hmz4, hs, hd⟩
        refine ⟨trivial, ?_⟩
        replace hF := hF.st hs
        replace hT := hT.trans hs (by simp)
        replace hl4 := hl4.st hs (by first | decide | (simp <;> omega))
        have hzz4 := tx4_len _ hmz4
        refine yS (by kernel_rfl : opAt F13.o10 4 = some (some 40, .binOp .add 9 (.tmp 36) (.tmp 39) 9, none)) rfl rfl (fun w' hS => val_cat rfl rfl (by (try simp only [List.length_append, List.length_cons, List.length_nil]); omega)) ?_
        refine yS (by kernel_rfl : opAt F13.o10 5 = some (some 3, .assign (.tmp 40), none)) rfl rfl (fun w' hS => val_assign rfl) ?_
        refine Sch.nil ?_
        refine run_inBlock ?_
        refine run_seq (x := F13.c46) (y := F13.c47) (by kernel_rfl) ?_
        refine run_plain (id := 14) (ops := F13.o14) [(0, true), (1, true)] (by kernel_rfl) (by kernel_rfl) ?_
        refine yS (by kernel_rfl : opAt F13.o14 0 = some (some 48, .move (.tmp 3), none)) rfl rfl (fun w' hS => val_move rfl) ?_
        refine yS (by kernel_rfl : opAt F13.o14 1 = some (some 2, .assign (.tmp 48), none)) rfl rfl (fun w' hS => val_assign rfl) ?_
        refine Sch.nil ?_
        refine run_ret1 (by kernel_rfl) Try.func13 Try.results13 rfl ?_
        exact ⟨⟨_⟩, rfl, by (try simp only [List.length_append, List.length_cons, List.length_nil]); omega, hT.out2 (by decide), hd.out hT hF0 hbc⟩
      · skip
        refine run_seq (x := F13.c32) (y := F13.c33) (by kernel_rfl) ?_
        refine run_plain (id := 11) (ops := F13.o11) [(0, true), (1, true)] (by kernel_rfl) (by kernel_rfl) ?_
        refine yS (by kernel_rfl : opAt F13.o11 0 = some (some 42, .binOp .eql 3 (.tmp 29) (.const (.int .i64 2)) 3, none)) rfl rfl (fun w' hS => val_eql rfl rfl) ?_
        refine yS (by kernel_rfl : opAt F13.o11 1 = some (some 41, .assign (.tmp 42), none)) rfl rfl (fun w' hS => val_assign rfl) ?_
        refine Sch.nil ?_
        refine run_if (x := F13.c34) (y := F13.c44) (o := .tmp 41) (by kernel_rfl) rfl (fun h41 => ?_) (fun h41 => ?_)
        · skip
          refine run_block (x := F13.c35) (id := 3) (by kernel_rfl) ?_
          
          refine run_loop (ι := (List UInt8) × (Nat → Nat)) (I := fun x w => x.1.length ≤ 150 ∧ Lim w x.2 ∧ Stp [2, 3, 4, 5, 6, 7, 8, 9] w₀ (col2 C i) w x.2 ∧ DeckIs w x.2 2 b) (e := fun x => [(0, .pointer (some ⟨b, 0, none⟩)), (3, bs x.1)]) (m := fun x => 64 - x.1.length) (x₀ := (s, C1)) (body := F13.c36) (by kernel_rfl) (sub_cons 0 rfl rfl (sub_cons 3 rfl rfl (sub_nil _))) ?_ ?_
          · exact ⟨(by simp only; omega), hF, hT, hd⟩
          intro ⟨s2, C2⟩ w14 hI next
          obtain ⟨hs2, hF, hT, hd⟩ := hI
          try simp only at hs2 hF hT hd
          have next2 := next
          clear next
          show Run _ _ _ _ [(0, .pointer (some ⟨b, 0, none⟩)), (3, bs s2)] _ _
          refine run_seq (x := F13.c37) (y := F13.c42) (by kernel_rfl) ?_
          refine run_seq (x := F13.c38) (y := F13.c39) (by kernel_rfl) ?_
          refine run_plain (id := 12) (ops := F13.o12) [(0, true), (1, true), (2, true)] (by kernel_rfl) (by kernel_rfl) ?_
          refine yS (by kernel_rfl : opAt F13.o12 0 = some (some 43, .move (.tmp 3), none)) rfl rfl (fun w' hS => val_move rfl) ?_
          refine yS (by kernel_rfl : opAt F13.o12 1 = some (some 44, .call { callee := .builtin .len, args := #[(.tmp 43)], argTypes := #[9] }, none)) rfl rfl (fun w' hS => val_lenT rfl Try.underlying9) ?_
          refine yS (by kernel_rfl : opAt F13.o12 2 = some (some 45, .binOp .lss 3 (.tmp 44) (.const (.int .i64 64)) 3, none)) rfl rfl (fun w' hS => val_lss rfl rfl) ?_
          refine Sch.nil ?_
          refine run_if (x := F13.c40) (y := F13.c41) (o := .tmp 45) (by kernel_rfl) rfl (fun h45 => ?_) (fun h45 => ?_)
          · skip
            refine run_skip (by kernel_rfl) ?_
            refine run_block (x := F13.c43) (id := 4) (by kernel_rfl) ?_
            refine run_plain (id := 13) (ops := F13.o13) [(0, true), (1, true), (2, true)] (by kernel_rfl) (by kernel_rfl) ?_
            refine yS (by kernel_rfl : opAt F13.o13 0 = some (some 46, .move (.tmp 3), none)) rfl rfl (fun w' hS => val_move rfl) ?_
            refine yS (by kernel_rfl : opAt F13.o13 1 = some (some 47, .binOp .add 9 (.tmp 46) (.const (.string ⟨#[97]⟩)) 9, none)) rfl rfl (fun w' hS => val_cat rfl rfl (by (try simp only [List.length_append, List.length_cons, List.length_nil]); omega)) ?_
            refine yS (by kernel_rfl : opAt F13.o13 2 = some (some 3, .assign (.tmp 47), none)) rfl rfl (fun w' hS => val_assign rfl) ?_
            refine Sch.nil ?_
            refine run_inBlock ?_
            refine kp (sub_cons 0 rfl rfl (sub_cons 3 rfl rfl (sub_nil _))) (next2 (s2 ++ [97], C2) _ ⟨(by simp only [List.length_append, List.length_cons, List.length_nil]; omega), hF, hT, hd⟩ (by simp only [List.length_append, List.length_cons, List.length_nil]; omega))
          · skip
            refine run_exit (id := 3) (by kernel_rfl) rfl ?_
            refine run_inBlock ?_
            refine run_seq (x := F13.c46) (y := F13.c47) (by kernel_rfl) ?_
            refine run_plain (id := 14) (ops := F13.o14) [(0, true), (1, true)] (by kernel_rfl) (by kernel_rfl) ?_
            refine yS (by kernel_rfl : opAt F13.o14 0 = some (some 48, .move (.tmp 3), none)) rfl rfl (fun w' hS => val_move rfl) ?_
            refine yS (by kernel_rfl : opAt F13.o14 1 = some (some 2, .assign (.tmp 48), none)) rfl rfl (fun w' hS => val_assign rfl) ?_
            refine Sch.nil ?_
            refine run_ret1 (by kernel_rfl) Try.func13 Try.results13 rfl ?_
            exact ⟨⟨_⟩, rfl, by (try simp only [List.length_append, List.length_cons, List.length_nil]); omega, hT.out2 (by decide), hd.out hT hF0 hbc⟩
        · skip
          refine run_skip (by kernel_rfl) ?_
          refine run_inBlock ?_
          refine run_seq (x := F13.c46) (y := F13.c47) (by kernel_rfl) ?_
          refine run_plain (id := 14) (ops := F13.o14) [(0, true), (1, true)] (by kernel_rfl) (by kernel_rfl) ?_
          refine yS (by kernel_rfl : opAt F13.o14 0 = some (some 48, .move (.tmp 3), none)) rfl rfl (fun w' hS => val_move rfl) ?_
          refine yS (by kernel_rfl : opAt F13.o14 1 = some (some 2, .assign (.tmp 48), none)) rfl rfl (fun w' hS => val_assign rfl) ?_
          refine Sch.nil ?_
          refine run_ret1 (by kernel_rfl) Try.func13 Try.results13 rfl ?_
          exact ⟨⟨_⟩, rfl, by (try simp only [List.length_append, List.length_cons, List.length_nil]); omega, hT.out2 (by decide), hd.out hT hF0 hbc⟩
end Go.Proofs.Ythdkcbakiiokiaa
