/- Steps through functions of the program. -/
import Derived.Test.YtbdlkdiadplmcaaJX8
import Derived.Test.YtbdlkdiadplmcaaL2
set_option linter.unusedVariables false
set_option linter.unusedSimpArgs false
set_option maxRecDepth 100000
set_option maxHeartbeats 4000000
namespace Go.Proofs.Ytbdlkdiadplmcaa
open Go.K Go.K.Rep

theorem word_any {w : World} {C : Nat → Nat} {i b : Nat} (hF : Lim w C) (hi : i ≠ 0) (hd : DeckIs w C i b) : Calls Try.prog 38 #[.pointer (some ⟨b, 0, none⟩)] w (Ret fun v w' => ∃ x : Int, v = .int .u64 x ∧ InU x ∧ Stp [i] w C w' C ∧ DeckIs w' C i b) := by
  obtain ⟨d, hd, hl⟩ := hd
  refine (word_ok hF hi hd hl).mono (Ret.mono fun v w' ⟨e, h2, h3⟩ => ?_)
  exact ⟨d.word, e, Dk.word_range d, h2, d.next, h3, hl⟩
namespace F14
noncomputable def c0 : Code := bodyOf Try.f14
noncomputable def c1 : Code := cl c0
noncomputable def o0 : Array Oper := rops c1
noncomputable def c2 : Code := cr c0
noncomputable def c3 : Code := cl c2
noncomputable def o1 : Array Oper := rops c3
noncomputable def c4 : Code := cr c2
noncomputable def c5 : Code := cl c4
noncomputable def c6 : Code := cl c5
noncomputable def o2 : Array Oper := rops c6
noncomputable def c7 : Code := cr c5
noncomputable def c8 : Code := cl c7
noncomputable def c9 : Code := cl c8
noncomputable def c10 : Code := cl c9
noncomputable def c11 : Code := cl c10
noncomputable def o3 : Array Oper := rops c11
noncomputable def c12 : Code := cr c10
noncomputable def c13 : Code := cl c12
noncomputable def c14 : Code := cr c12
noncomputable def c15 : Code := cr c9
noncomputable def c16 : Code := cl c15
noncomputable def c17 : Code := cl c16
noncomputable def c18 : Code := cl c17
noncomputable def o5 : Array Oper := rops c18
noncomputable def c19 : Code := cr c17
noncomputable def c20 : Code := cl c19
noncomputable def c21 : Code := cl c20
noncomputable def o6 : Array Oper := rops c21
noncomputable def c22 : Code := cr c20
noncomputable def c23 : Code := cl c22
noncomputable def c24 : Code := cl c23
noncomputable def o7 : Array Oper := rops c24
noncomputable def c25 : Code := cr c23
noncomputable def c26 : Code := cl c25
noncomputable def o8 : Array Oper := rops c26
noncomputable def c27 : Code := cr c25
noncomputable def c28 : Code := cl c27
noncomputable def o9 : Array Oper := rops c28
noncomputable def c29 : Code := cr c27
noncomputable def c30 : Code := cl c29
noncomputable def o10 : Array Oper := rops c30
noncomputable def c31 : Code := cr c29
noncomputable def c32 : Code := cr c19
noncomputable def o11 : Array Oper := rops c32
noncomputable def c33 : Code := cr c15
noncomputable def o4 : Array Oper := rops c33
noncomputable def c34 : Code := cr c4
noncomputable def c35 : Code := cl c34
noncomputable def o12 : Array Oper := rops c35
noncomputable def c36 : Code := cr c34
end F14
theorem bits_any {w₀ : World} {C : Nat → Nat} {i b : Nat} {n : Int} (hF : Lim w₀ C) (hi : i ≠ 0) (hd : DeckIs w₀ C i b) (hn : n = 64 ∨ n = 128) : Calls Try.prog 14 #[.pointer (some ⟨b, 0, none⟩), .int .i64 n] w₀ (Ret fun v w' => ∃ (x : Bits) (u : Value), v = .agg #[.int .i64 x.len, u] ∧ BitsN n x ∧ Stp [i] w₀ C w' C ∧ DeckIs w' C i b ∧ RV w' (Mc C) x.words u) := by
  have hF0 := hF
  have hbc := hd.colour
  replace hd := hd.col2 hi
  have hT := Stp.refl [2, 3, 4, 5, 6, 7, 8, 9] w₀ (col2 C i)
  replace hF := hF.col2 i
  refine calls_start (c := F14.c0) (N := 38) [.pointer (some ⟨b, 0, none⟩), .int .i64 n] Try.func14 (by kernel_rfl) (by kernel_rfl) (by kernel_rfl) ?_
  show Run _ _ _ _ [(0, .pointer (some ⟨b, 0, none⟩)), (1, .int .i64 n)] _ _
  refine run_seq (x := F14.c1) (y := F14.c2) (by kernel_rfl) ?_
  refine run_plain (id := 0) (ops := F14.o0) [(0, false)] (by kernel_rfl) (by kernel_rfl) ?_
  refine aS (by kernel_rfl : opAt F14.o0 0 = some (some 4, .alloc 33, none)) rfl rfl (a_alloc (cs := [.int .i64 0, .slice none 0 0]) hF 4 (by kernel_rfl)) ?_
  rintro _ w1 ⟨Cw1, bw1, rfl, hs, hr, hF⟩
  refine ⟨trivial, ?_⟩
  replace hT := hT.trans hs (by simp)
  replace hd := hd.st hs (by first | decide | (simp <;> omega)) (by first | decide | (simp <;> omega))
  refine Sch.nil ?_
  refine run_seq (x := F14.c3) (y := F14.c4) (by kernel_rfl) ?_
  refine run_plain (id := 1) (ops := F14.o1) [(0, true), (1, true), (2, false), (3, false)] (by kernel_rfl) (by kernel_rfl) ?_
  refine yS (by kernel_rfl : opAt F14.o1 0 = some (some 8, .move (.tmp 1), none)) rfl rfl (fun w' hS => val_move rfl) ?_
  refine yS (by kernel_rfl : opAt F14.o1 1 = some (some 9, .build 33 #[(0, (.tmp 8))], none)) rfl rfl (fun w' hS => val_build (zs := [.int .i64 0, .slice none 0 0]) (ps := [(0, 1), (1, 1)]) (qs := [(0, [.int .i64 n])]) (cs := [.int .i64 n, .slice none 0 0]) (by kernel_rfl) (by kernel_rfl) (by exact ⟨rfl, ⟨_, rfl, rfl⟩, trivial⟩) rfl) ?_
  refine aS (by kernel_rfl : opAt F14.o1 2 = some (some 5, .alloc 33, none)) rfl rfl (a_alloc (cs := [.int .i64 0, .slice none 0 0]) hF 5 (by kernel_rfl)) ?_
  rintro _ w2 ⟨Cw2, bw2, rfl, hs, hx, hF⟩
  refine ⟨trivial, ?_⟩
  replace hT := hT.trans hs (by simp)
  replace hd := hd.st hs (by first | decide | (simp <;> omega)) (by first | decide | (simp <;> omega))
  replace hr := hr.st hs (by first | decide | (simp <;> omega))
  refine aN (by kernel_rfl : opAt F14.o1 3 = some (none, .store 33 (.tmp 5) (.tmp 9), none)) rfl (a_storeAll (vs := [.int .i64 n, .slice none 0 0]) (n := 2) rfl rfl (by kernel_rfl) rfl rfl (by intro z hz; simp only [List.mem_cons, List.not_mem_nil, or_false] at hz; rcases hz with rfl | rfl <;> rfl) hx rfl) ?_
  rintro _ w3 ⟨rfl, hs, hx⟩
  refine ⟨trivial, ?_⟩
  replace hF := hF.st hs
  replace hT := hT.trans hs (by simp)
  replace hd := hd.st hs (by first | decide | (simp <;> omega)) (by first | decide | (simp <;> omega))
  replace hr := hr.st hs (by first | decide | (simp <;> omega))
  refine Sch.nil ?_
  refine run_seq (x := F14.c5) (y := F14.c34) (by kernel_rfl) ?_
  refine run_seq (x := F14.c6) (y := F14.c7) (by kernel_rfl) ?_
  refine run_plain (id := 2) (ops := F14.o2) [(0, true)] (by kernel_rfl) (by kernel_rfl) ?_
  refine yS (by kernel_rfl : opAt F14.o2 0 = some (some 6, .assign (.const (.int .i64 0)), none)) rfl rfl (fun w' hS => val_assign rfl) ?_
  refine Sch.nil ?_
  refine run_block (x := F14.c8) (id := 0) (by kernel_rfl) ?_
  
  refine run_loop (ι := Nat × (List U64) × Value × (Nat → Nat)) (I := fun x w => (x.1 : Int) ≤ n / 64 ∧ x.2.1.length = x.1 ∧ (∀ y ∈ x.2.1, InU y.n) ∧ Lim w x.2.2.2 ∧ Stp [2, 3, 4, 5, 6, 7, 8, 9] w₀ (col2 C i) w x.2.2.2 ∧ DeckIs w x.2.2.2 2 b ∧ OwnB w x.2.2.2 4 bw1 (.cells [.int .i64 0, .slice none 0 0].toArray 33) ∧ OwnB w x.2.2.2 5 bw2 (.cells [.int .i64 n, x.2.2.1].toArray 33) ∧ OwnL w x.2.2.2 6 59 x.2.2.1 x.2.1) (e := fun x => [(0, .pointer (some ⟨b, 0, none⟩)), (1, .int .i64 n), (4, .pointer (some ⟨bw1, 0, none⟩)), (5, .pointer (some ⟨bw2, 0, none⟩)), (6, .int .i64 x.1)]) (m := fun x => (n / 64).toNat - x.1) (x₀ := (0, [], .slice none 0 0, Cw2)) (body := F14.c9) (by kernel_rfl) (sub_cons 0 rfl rfl (sub_cons 1 rfl rfl (sub_cons 4 rfl rfl (sub_cons 5 rfl rfl (sub_cons 6 rfl rfl (sub_nil _)))))) ?_ ?_
  · exact ⟨(by simp only; omega), rfl, (fun x hx => by cases hx), hF, hT, hd, hr, hx, OwnL.nil⟩
  intro ⟨k, xs, u, C1⟩ w4 hI next
  obtain ⟨hk, hxl, hxs, hF, hT, hd, hr, hx, ho⟩ := hI
  try simp only at hk hxl hxs hF hT hd hr hx ho
  have next1 := next
  clear next
  show Run _ _ _ _ [(0, .pointer (some ⟨b, 0, none⟩)), (1, .int .i64 n), (4, .pointer (some ⟨bw1, 0, none⟩)), (5, .pointer (some ⟨bw2, 0, none⟩)), (6, .int .i64 k)] _ _
  refine run_seq (x := F14.c10) (y := F14.c15) (by kernel_rfl) ?_
  refine run_seq (x := F14.c11) (y := F14.c12) (by kernel_rfl) ?_
  refine run_plain (id := 3) (ops := F14.o3) [(0, true), (1, true), (2, true), (3, true)] (by kernel_rfl) (by kernel_rfl) ?_
  refine yS (by kernel_rfl : opAt F14.o3 0 = some (some 10, .move (.tmp 6), none)) rfl rfl (fun w' hS => val_move rfl) ?_
  refine yS (by kernel_rfl : opAt F14.o3 1 = some (some 11, .move (.tmp 1), none)) rfl rfl (fun w' hS => val_move rfl) ?_
  refine yS (by kernel_rfl : opAt F14.o3 2 = some (some 12, .binOp .quo 3 (.tmp 11) (.const (.int .i64 64)) 3, none)) rfl rfl (fun w' hS => val_divi rfl rfl (by omega) (by omega) (by omega)) ?_
  refine yS (by kernel_rfl : opAt F14.o3 3 = some (some 13, .binOp .lss 3 (.tmp 10) (.tmp 12) 3, none)) rfl rfl (fun w' hS => val_lss rfl rfl) ?_
  refine Sch.nil ?_
  refine run_if (x := F14.c13) (y := F14.c14) (o := .tmp 13) (by kernel_rfl) rfl (fun h13 => ?_) (fun h13 => ?_)
  · skip
    have hkl : (k : Int) < n / 64 := by omega
    refine run_skip (by kernel_rfl) ?_
    refine run_seq (x := F14.c16) (y := F14.c33) (by kernel_rfl) ?_
    refine run_block (x := F14.c17) (id := 1) (by kernel_rfl) ?_
    refine run_seq (x := F14.c18) (y := F14.c19) (by kernel_rfl) ?_
    refine run_plain (id := 5) (ops := F14.o5) [(0, true), (1, false), (2, true)] (by kernel_rfl) (by kernel_rfl) ?_
    refine yS (by kernel_rfl : opAt F14.o5 0 = some (some 16, .move (.tmp 0), none)) rfl rfl (fun w' hS => val_move rfl) ?_
    refine cS (by kernel_rfl : opAt F14.o5 1 = some (some 17, .call { callee := .value (.func 38), args := #[(.tmp 16)], argTypes := #[25] }, none)) rfl rfl (ent Try.call38 rfl) (word_any hF (by decide) hd) ?_
    rintro vw5 w5 ⟨x, rfl, hxu, hs, hd⟩
    refine ⟨trivial, ?_⟩
    replace hF := hF.st hs
    replace hT := hT.trans hs (by simp)
    replace hr := hr.st hs (by first | decide | (simp <;> omega))
    replace hx := hx.st hs (by first | decide | (simp <;> omega))
    replace ho := ho.st hs (by first | decide | (simp <;> omega)) (by first | decide | (simp <;> omega))
    refine yS (by kernel_rfl : opAt F14.o5 2 = some (some 7, .assign (.tmp 17), none)) rfl rfl (fun w' hS => val_assign rfl) ?_
    refine Sch.nil ?_
    refine run_seq (x := F14.c20) (y := F14.c32) (by kernel_rfl) ?_
    refine run_seq (x := F14.c21) (y := F14.c22) (by kernel_rfl) ?_
    refine run_plain (id := 6) (ops := F14.o6) [(0, true), (1, false)] (by kernel_rfl) (by kernel_rfl) ?_
    refine yS (by kernel_rfl : opAt F14.o6 0 = some (some 18, .move (.tmp 0), none)) rfl rfl (fun w' hS => val_move rfl) ?_
    refine cS (by kernel_rfl : opAt F14.o6 1 = some (some 19, .call { callee := .value (.func 15), args := #[(.tmp 18), (.const (.int .i64 4))], argTypes := #[25, 3] }, none)) rfl rfl (ent Try.call15 rfl) (next_any (n := 4) hF (by decide) hd (by omega) (by omega)) ?_
    rintro vw6 w6 ⟨q, rfl, hq, hs, hd⟩
    refine ⟨trivial, ?_⟩
    replace hF := hF.st hs
    replace hT := hT.trans hs (by simp)
    replace hr := hr.st hs (by first | decide | (simp <;> omega))
    replace hx := hx.st hs (by first | decide | (simp <;> omega))
    replace ho := ho.st hs (by first | decide | (simp <;> omega)) (by first | decide | (simp <;> omega))
    refine Sch.nil ?_
    refine run_block (x := F14.c23) (id := 2) (by kernel_rfl) ?_
    refine run_seq (x := F14.c24) (y := F14.c25) (by kernel_rfl) ?_
    refine run_plain (id := 7) (ops := F14.o7) [(0, true), (1, true)] (by kernel_rfl) (by kernel_rfl) ?_
    refine yS (by kernel_rfl : opAt F14.o7 0 = some (some 21, .binOp .eql 3 (.tmp 19) (.const (.int .i64 0)) 3, none)) rfl rfl (fun w' hS => val_eql rfl rfl) ?_
    refine yS (by kernel_rfl : opAt F14.o7 1 = some (some 20, .assign (.tmp 21), none)) rfl rfl (fun w' hS => val_assign rfl) ?_
    refine Sch.nil ?_
    refine run_if (x := F14.c26) (y := F14.c27) (o := .tmp 20) (by kernel_rfl) rfl (fun h20 => ?_) (fun h20 => ?_)
    · skip
      refine run_plain (id := 8) (ops := F14.o8) [(0, true), (1, true), (2, false), (3, true), (4, false), (5, true), (6, true), (7, true)] (by kernel_rfl) (by kernel_rfl) ?_
      refine yS (by kernel_rfl : opAt F14.o8 0 = some (some 22, .move (.tmp 7), none)) rfl rfl (fun w' hS => val_move rfl) ?_
      refine yS (by kernel_rfl : opAt F14.o8 1 = some (some 23, .move (.tmp 0), none)) rfl rfl (fun w' hS => val_move rfl) ?_
      refine cS (by kernel_rfl : opAt F14.o8 2 = some (some 24, .call { callee := .value (.func 38), args := #[(.tmp 23)], argTypes := #[25] }, none)) rfl rfl (ent Try.call38 rfl) (word_any hF (by decide) hd) ?_
      rintro vw7 w7 ⟨y, rfl, hyu, hs, hd⟩
      refine ⟨trivial, ?_⟩
      replace hF := hF.st hs
      replace hT := hT.trans hs (by simp)
      replace hr := hr.st hs (by first | decide | (simp <;> omega))
      replace hx := hx.st hs (by first | decide | (simp <;> omega))
      replace ho := ho.st hs (by first | decide | (simp <;> omega)) (by first | decide | (simp <;> omega))
      refine yS (by kernel_rfl : opAt F14.o8 3 = some (some 25, .move (.tmp 0), none)) rfl rfl (fun w' hS => val_move rfl) ?_
      refine cS (by kernel_rfl : opAt F14.o8 4 = some (some 26, .call { callee := .value (.func 38), args := #[(.tmp 25)], argTypes := #[25] }, none)) rfl rfl (ent Try.call38 rfl) (word_any hF (by decide) hd) ?_
      rintro vw8 w8 ⟨z, rfl, hzu, hs, hd⟩
      refine ⟨trivial, ?_⟩
      replace hF := hF.st hs
      replace hT := hT.trans hs (by simp)
      replace hr := hr.st hs (by first | decide | (simp <;> omega))
      replace hx := hx.st hs (by first | decide | (simp <;> omega))
      replace ho := ho.st hs (by first | decide | (simp <;> omega)) (by first | decide | (simp <;> omega))
      refine yS (by kernel_rfl : opAt F14.o8 5 = some (some 27, .binOp .and 59 (.tmp 24) (.tmp 26) 59, none)) rfl rfl (fun w' hS => val_and rfl rfl) ?_
      refine yS (by kernel_rfl : opAt F14.o8 6 = some (some 28, .binOp .and 59 (.tmp 22) (.tmp 27) 59, none)) rfl rfl (fun w' hS => val_and rfl rfl) ?_
      refine yS (by kernel_rfl : opAt F14.o8 7 = some (some 7, .assign (.tmp 28), none)) rfl rfl (fun w' hS => val_assign rfl) ?_
      refine Sch.nil ?_
      refine run_inBlock ?_
      refine run_plain (id := 11) (ops := F14.o11) [(0, true), (1, false), (2, true), (3, false), (4, false), (5, true), (6, false)] (by kernel_rfl) (by kernel_rfl) ?_
      refine yS (by kernel_rfl : opAt F14.o11 0 = some (some 31, .fieldAddr 33 (.tmp 5) 1, none)) rfl rfl (fun w' hS => val_fieldAddr (off := 1) (by kernel_rfl) rfl) ?_
      refine nS (by kernel_rfl : opAt F14.o11 1 = some (some 32, .load 31 (.tmp 31), none)) rfl rfl trivial (val_loadOwn hx.at_ (by kernel_rfl) rfl rfl) ?_
      refine yS (by kernel_rfl : opAt F14.o11 2 = some (some 33, .move (.tmp 7), none)) rfl rfl (fun w' hS => val_move rfl) ?_
      refine aS (by kernel_rfl : opAt F14.o11 3 = some (some 34, .buildSlice 31 1 #[(0, (.tmp 33))], none)) rfl rfl (a_buildSlice (ys := ([⟨bitsOf .and .u64 x (bitsOf .and .u64 y z)⟩] : List U64)) (e := 59) (bytes := 8) hF (by kernel_rfl) rfl (by decide) (by decide) ⟨rfl, ⟨_, rfl, rv_num.2 rfl⟩, trivial⟩) ?_
      rintro v34 w9 ⟨hs, g34, hF⟩
      refine ⟨trivial, ?_⟩
      replace hT := hT.trans hs (by simp)
      replace hd := hd.st hs (by first | decide | (simp <;> omega)) (by first | decide | (simp <;> omega))
      replace hr := hr.st hs (by first | decide | (simp <;> omega))
      replace hx := hx.st hs (by first | decide | (simp <;> omega))
      replace ho := ho.st hs (by first | decide | (simp <;> omega)) (by first | decide | (simp <;> omega))
      refine aS (by kernel_rfl : opAt F14.o11 4 = some (some 35, .call { callee := .builtin .append, args := #[(.tmp 32), (.tmp 34)], argTypes := #[31, 31] }, none)) rfl rfl (a_append (e := 59) (bytes := 8) hF (by decide) rfl rfl (by kernel_rfl) (by decide) ho g34 (by simp only [List.length_cons, List.length_nil]; omega) (by simp only [List.length_cons, List.length_nil]; omega)) ?_
      rintro v35 w10 ⟨Cw10, hs, ho, hF⟩
      refine ⟨trivial, ?_⟩
      replace hT := hT.trans hs (by simp)
      replace hd := hd.st hs (by first | decide | (simp <;> omega)) (by first | decide | (simp <;> omega))
      replace hr := hr.st hs (by first | decide | (simp <;> omega))
      replace hx := hx.st hs (by first | decide | (simp <;> omega))
      replace g34 := g34.st hs (by first | decide | (simp <;> omega))
      refine yS (by kernel_rfl : opAt F14.o11 5 = some (some 36, .fieldAddr 33 (.tmp 5) 1, none)) rfl rfl (fun w' hS => val_fieldAddr (off := 1) (by kernel_rfl) rfl) ?_
      refine aN (by kernel_rfl : opAt F14.o11 6 = some (none, .store 31 (.tmp 36) (.tmp 35), none)) rfl (a_store1 rfl rfl (by kernel_rfl) ho.one.1 ho.one.2 hx (by simp)) ?_
      rintro _ w11 ⟨rfl, hs, hx⟩
      refine ⟨trivial, ?_⟩
      replace hF := hF.st hs
      replace hT := hT.trans hs (by simp)
      replace hd := hd.st hs (by first | decide | (simp <;> omega)) (by first | decide | (simp <;> omega))
      replace hr := hr.st hs (by first | decide | (simp <;> omega))
      replace ho := ho.st hs (by first | decide | (simp <;> omega)) (by first | decide | (simp <;> omega))
      replace g34 := g34.st hs (by first | decide | (simp <;> omega))
      refine Sch.nil ?_
      refine run_inBlock ?_
      refine run_plain (id := 4) (ops := F14.o4) [(0, true), (1, true), (2, true)] (by kernel_rfl) (by kernel_rfl) ?_
      refine yS (by kernel_rfl : opAt F14.o4 0 = some (some 14, .move (.tmp 6), none)) rfl rfl (fun w' hS => val_move rfl) ?_
      refine yS (by kernel_rfl : opAt F14.o4 1 = some (some 15, .binOp .add 3 (.tmp 14) (.const (.int .i64 1)) 3, none)) rfl rfl (fun w' hS => val_addi rfl rfl (by omega) (by omega)) ?_
      refine yS (by kernel_rfl : opAt F14.o4 2 = some (some 6, .assign (.tmp 15), none)) rfl rfl (fun w' hS => val_assign rfl) ?_
      refine Sch.nil ?_
      refine kp (sub_cons 0 rfl rfl (sub_cons 1 rfl rfl (sub_cons 4 rfl rfl (sub_cons 5 rfl rfl (sub_cons 6 rfl (eq_int (by simp)) (sub_nil _)))))) (next1 (k + 1, xs ++ [⟨bitsOf .and .u64 x (bitsOf .and .u64 y z)⟩], v35, Cw10) _ ⟨(by first | omega | (simp only; omega)), (by simp [hxl]), (snoc_all hxs (inU_and _ _)), hF, hT, hd, hr, hx, ho⟩ (by first | omega | (simp only; omega)))
    · skip
      refine run_seq (x := F14.c28) (y := F14.c29) (by kernel_rfl) ?_
      refine run_plain (id := 9) (ops := F14.o9) [(0, true), (1, true)] (by kernel_rfl) (by kernel_rfl) ?_
      refine yS (by kernel_rfl : opAt F14.o9 0 = some (some 30, .binOp .eql 3 (.tmp 19) (.const (.int .i64 1)) 3, none)) rfl rfl (fun w' hS => val_eql rfl rfl) ?_
      refine yS (by kernel_rfl : opAt F14.o9 1 = some (some 29, .assign (.tmp 30), none)) rfl rfl (fun w' hS => val_assign rfl) ?_
      refine Sch.nil ?_
      refine run_if (x := F14.c30) (y := F14.c31) (o := .tmp 29) (by kernel_rfl) rfl (fun h29 => ?_) (fun h29 => ?_)
      · skip
        refine run_plain (id := 10) (ops := F14.o10) [(0, true)] (by kernel_rfl) (by kernel_rfl) ?_
        refine yS (by kernel_rfl : opAt F14.o10 0 = some (some 7, .assign (.const (.int .u64 0)), none)) rfl rfl (fun w' hS => val_assign rfl) ?_
        refine Sch.nil ?_
        refine run_inBlock ?_
        refine run_plain (id := 11) (ops := F14.o11) [(0, true), (1, false), (2, true), (3, false), (4, false), (5, true), (6, false)] (by kernel_rfl) (by kernel_rfl) ?_
        refine yS (by kernel_rfl : opAt F14.o11 0 = some (some 31, .fieldAddr 33 (.tmp 5) 1, none)) rfl rfl (fun w' hS => val_fieldAddr (off := 1) (by kernel_rfl) rfl) ?_
        refine nS (by kernel_rfl : opAt F14.o11 1 = some (some 32, .load 31 (.tmp 31), none)) rfl rfl trivial (val_loadOwn hx.at_ (by kernel_rfl) rfl rfl) ?_
        refine yS (by kernel_rfl : opAt F14.o11 2 = some (some 33, .move (.tmp 7), none)) rfl rfl (fun w' hS => val_move rfl) ?_
        refine aS (by kernel_rfl : opAt F14.o11 3 = some (some 34, .buildSlice 31 1 #[(0, (.tmp 33))], none)) rfl rfl (a_buildSlice (ys := ([⟨0⟩] : List U64)) (e := 59) (bytes := 8) hF (by kernel_rfl) rfl (by decide) (by decide) ⟨rfl, ⟨_, rfl, rv_num.2 rfl⟩, trivial⟩) ?_
        rintro v34 w12 ⟨hs, g34, hF⟩
        refine ⟨trivial, ?_⟩
        replace hT := hT.trans hs (by simp)
        replace hd := hd.st hs (by first | decide | (simp <;> omega)) (by first | decide | (simp <;> omega))
        replace hr := hr.st hs (by first | decide | (simp <;> omega))
        replace hx := hx.st hs (by first | decide | (simp <;> omega))
        replace ho := ho.st hs (by first | decide | (simp <;> omega)) (by first | decide | (simp <;> omega))
        refine aS (by kernel_rfl : opAt F14.o11 4 = some (some 35, .call { callee := .builtin .append, args := #[(.tmp 32), (.tmp 34)], argTypes := #[31, 31] }, none)) rfl rfl (a_append (e := 59) (bytes := 8) hF (by decide) rfl rfl (by kernel_rfl) (by decide) ho g34 (by simp only [List.length_cons, List.length_nil]; omega) (by simp only [List.length_cons, List.length_nil]; omega)) ?_
        rintro v35 w13 ⟨Cw13, hs, ho, hF⟩
        refine ⟨trivial, ?_⟩
        replace hT := hT.trans hs (by simp)
        replace hd := hd.st hs (by first | decide | (simp <;> omega)) (by first | decide | (simp <;> omega))
        replace hr := hr.st hs (by first | decide | (simp <;> omega))
        replace hx := hx.st hs (by first | decide | (simp <;> omega))
        replace g34 := g34.st hs (by first | decide | (simp <;> omega))
        refine yS (by kernel_rfl : opAt F14.o11 5 = some (some 36, .fieldAddr 33 (.tmp 5) 1, none)) rfl rfl (fun w' hS => val_fieldAddr (off := 1) (by kernel_rfl) rfl) ?_
        refine aN (by kernel_rfl : opAt F14.o11 6 = some (none, .store 31 (.tmp 36) (.tmp 35), none)) rfl (a_store1 rfl rfl (by kernel_rfl) ho.one.1 ho.one.2 hx (by simp)) ?_
        rintro _ w14 ⟨rfl, hs, hx⟩
        refine ⟨trivial, ?_⟩
        replace hF := hF.st hs
        replace hT := hT.trans hs (by simp)
        replace hd := hd.st hs (by first | decide | (simp <;> omega)) (by first | decide | (simp <;> omega))
        replace hr := hr.st hs (by first | decide | (simp <;> omega))
        replace ho := ho.st hs (by first | decide | (simp <;> omega)) (by first | decide | (simp <;> omega))
        replace g34 := g34.st hs (by first | decide | (simp <;> omega))
        refine Sch.nil ?_
        refine run_inBlock ?_
        refine run_plain (id := 4) (ops := F14.o4) [(0, true), (1, true), (2, true)] (by kernel_rfl) (by kernel_rfl) ?_
        refine yS (by kernel_rfl : opAt F14.o4 0 = some (some 14, .move (.tmp 6), none)) rfl rfl (fun w' hS => val_move rfl) ?_
        refine yS (by kernel_rfl : opAt F14.o4 1 = some (some 15, .binOp .add 3 (.tmp 14) (.const (.int .i64 1)) 3, none)) rfl rfl (fun w' hS => val_addi rfl rfl (by omega) (by omega)) ?_
        refine yS (by kernel_rfl : opAt F14.o4 2 = some (some 6, .assign (.tmp 15), none)) rfl rfl (fun w' hS => val_assign rfl) ?_
        refine Sch.nil ?_
        refine kp (sub_cons 0 rfl rfl (sub_cons 1 rfl rfl (sub_cons 4 rfl rfl (sub_cons 5 rfl rfl (sub_cons 6 rfl (eq_int (by simp)) (sub_nil _)))))) (next1 (k + 1, xs ++ [⟨0⟩], v35, Cw13) _ ⟨(by first | omega | (simp only; omega)), (by simp [hxl]), (snoc_all hxs inU_zero), hF, hT, hd, hr, hx, ho⟩ (by first | omega | (simp only; omega)))
      · skip
        refine run_skip (by kernel_rfl) ?_
        refine run_inBlock ?_
        refine run_plain (id := 11) (ops := F14.o11) [(0, true), (1, false), (2, true), (3, false), (4, false), (5, true), (6, false)] (by kernel_rfl) (by kernel_rfl) ?_
        refine yS (by kernel_rfl : opAt F14.o11 0 = some (some 31, .fieldAddr 33 (.tmp 5) 1, none)) rfl rfl (fun w' hS => val_fieldAddr (off := 1) (by kernel_rfl) rfl) ?_
        refine nS (by kernel_rfl : opAt F14.o11 1 = some (some 32, .load 31 (.tmp 31), none)) rfl rfl trivial (val_loadOwn hx.at_ (by kernel_rfl) rfl rfl) ?_
        refine yS (by kernel_rfl : opAt F14.o11 2 = some (some 33, .move (.tmp 7), none)) rfl rfl (fun w' hS => val_move rfl) ?_
        refine aS (by kernel_rfl : opAt F14.o11 3 = some (some 34, .buildSlice 31 1 #[(0, (.tmp 33))], none)) rfl rfl (a_buildSlice (ys := ([⟨x⟩] : List U64)) (e := 59) (bytes := 8) hF (by kernel_rfl) rfl (by decide) (by decide) ⟨rfl, ⟨_, rfl, rv_num.2 rfl⟩, trivial⟩) ?_
        rintro v34 w15 ⟨hs, g34, hF⟩
        refine ⟨trivial, ?_⟩
        replace hT := hT.trans hs (by simp)
        replace hd := hd.st hs (by first | decide | (simp <;> omega)) (by first | decide | (simp <;> omega))
        replace hr := hr.st hs (by first | decide | (simp <;> omega))
        replace hx := hx.st hs (by first | decide | (simp <;> omega))
        replace ho := ho.st hs (by first | decide | (simp <;> omega)) (by first | decide | (simp <;> omega))
        refine aS (by kernel_rfl : opAt F14.o11 4 = some (some 35, .call { callee := .builtin .append, args := #[(.tmp 32), (.tmp 34)], argTypes := #[31, 31] }, none)) rfl rfl (a_append (e := 59) (bytes := 8) hF (by decide) rfl rfl (by kernel_rfl) (by decide) ho g34 (by simp only [List.length_cons, List.length_nil]; omega) (by simp only [List.length_cons, List.length_nil]; omega)) ?_
        rintro v35 w16 ⟨Cw16, hs, ho, hF⟩
        refine ⟨trivial, ?_⟩
        replace hT := hT.trans hs (by simp)
        replace hd := hd.st hs (by first | decide | (simp <;> omega)) (by first | decide | (simp <;> omega))
        replace hr := hr.st hs (by first | decide | (simp <;> omega))
        replace hx := hx.st hs (by first | decide | (simp <;> omega))
        replace g34 := g34.st hs (by first | decide | (simp <;> omega))
        refine yS (by kernel_rfl : opAt F14.o11 5 = some (some 36, .fieldAddr 33 (.tmp 5) 1, none)) rfl rfl (fun w' hS => val_fieldAddr (off := 1) (by kernel_rfl) rfl) ?_
        refine aN (by kernel_rfl : opAt F14.o11 6 = some (none, .store 31 (.tmp 36) (.tmp 35), none)) rfl (a_store1 rfl rfl (by kernel_rfl) ho.one.1 ho.one.2 hx (by simp)) ?_
        rintro _ w17 ⟨rfl, hs, hx⟩
        refine ⟨trivial, ?_⟩
        replace hF := hF.st hs
        replace hT := hT.trans hs (by simp)
        replace hd := hd.st hs (by first | decide | (simp <;> omega)) (by first | decide | (simp <;> omega))
        replace hr := hr.st hs (by first | decide | (simp <;> omega))
        replace ho := ho.st hs (by first | decide | (simp <;> omega)) (by first | decide | (simp <;> omega))
        replace g34 := g34.st hs (by first | decide | (simp <;> omega))
        refine Sch.nil ?_
        refine run_inBlock ?_
        refine run_plain (id := 4) (ops := F14.o4) [(0, true), (1, true), (2, true)] (by kernel_rfl) (by kernel_rfl) ?_
        refine yS (by kernel_rfl : opAt F14.o4 0 = some (some 14, .move (.tmp 6), none)) rfl rfl (fun w' hS => val_move rfl) ?_
        refine yS (by kernel_rfl : opAt F14.o4 1 = some (some 15, .binOp .add 3 (.tmp 14) (.const (.int .i64 1)) 3, none)) rfl rfl (fun w' hS => val_addi rfl rfl (by omega) (by omega)) ?_
        refine yS (by kernel_rfl : opAt F14.o4 2 = some (some 6, .assign (.tmp 15), none)) rfl rfl (fun w' hS => val_assign rfl) ?_
        refine Sch.nil ?_
        refine kp (sub_cons 0 rfl rfl (sub_cons 1 rfl rfl (sub_cons 4 rfl rfl (sub_cons 5 rfl rfl (sub_cons 6 rfl (eq_int (by simp)) (sub_nil _)))))) (next1 (k + 1, xs ++ [⟨x⟩], v35, Cw16) _ ⟨(by first | omega | (simp only; omega)), (by simp [hxl]), (snoc_all hxs hxu), hF, hT, hd, hr, hx, ho⟩ (by first | omega | (simp only; omega)))
  · skip
    have hkl : (k : Int) = n / 64 := by omega
    refine run_exit (id := 0) (by kernel_rfl) rfl ?_
    refine run_seq (x := F14.c35) (y := F14.c36) (by kernel_rfl) ?_
    refine run_plain (id := 12) (ops := F14.o12) [(0, false), (1, false)] (by kernel_rfl) (by kernel_rfl) ?_
    refine nS (by kernel_rfl : opAt F14.o12 0 = some (some 37, .load 33 (.tmp 5), none)) rfl rfl trivial (val_loadOwnAgg (n := 2) (vs := [.int .i64 n, u]) hx.at_ (by kernel_rfl) (by kernel_rfl) rfl rfl rfl) ?_
    refine aN (by kernel_rfl : opAt F14.o12 1 = some (none, .store 33 (.tmp 4) (.tmp 37), none)) rfl (a_storeAll (vs := [.int .i64 n, u]) (n := 2) rfl rfl (by kernel_rfl) rfl rfl (by intro z hz; simp only [List.mem_cons, List.not_mem_nil, or_false] at hz; rcases hz with rfl | rfl <;> first | rfl | exact ho.one.2) hr rfl) ?_
    rintro _ w18 ⟨rfl, hs, hr⟩
    refine ⟨trivial, ?_⟩
    replace hF := hF.st hs
    replace hT := hT.trans hs (by simp)
    replace hd := hd.st hs (by first | decide | (simp <;> omega)) (by first | decide | (simp <;> omega))
    replace hx := hx.st hs (by first | decide | (simp <;> omega))
    replace ho := ho.st hs (by first | decide | (simp <;> omega)) (by first | decide | (simp <;> omega))
    refine Sch.nil ?_
    refine run_retC1 (by kernel_rfl) Try.func14 Try.results14 rfl hr.at_ (by kernel_rfl) (by kernel_rfl) rfl ?_
    exact ⟨⟨n, xs⟩, u, rfl, ⟨rfl, by simp only; omega, hxs⟩, hT.out2 (by decide), hd.out hT hF0 hbc, ho.out hT hF0 (Mc_col2 C i) (fun b _ => col2_lt C i (by decide) b) (by omega)⟩
namespace F10
noncomputable def c0 : Code := bodyOf Try.f10
noncomputable def c1 : Code := cl c0
noncomputable def o0 : Array Oper := rops c1
noncomputable def c2 : Code := cr c0
noncomputable def c3 : Code := cl c2
noncomputable def o1 : Array Oper := rops c3
noncomputable def c4 : Code := cr c2
noncomputable def c5 : Code := cl c4
noncomputable def o2 : Array Oper := rops c5
noncomputable def c6 : Code := cr c4
noncomputable def c7 : Code := cl c6
noncomputable def c8 : Code := cl c7
noncomputable def o3 : Array Oper := rops c8
noncomputable def c9 : Code := cr c7
noncomputable def c10 : Code := cl c9
noncomputable def c11 : Code := cl c10
noncomputable def c12 : Code := cl c11
noncomputable def c13 : Code := cl c12
noncomputable def o4 : Array Oper := rops c13
noncomputable def c14 : Code := cr c12
noncomputable def c15 : Code := cl c14
noncomputable def c16 : Code := cr c14
noncomputable def c17 : Code := cr c11
noncomputable def c18 : Code := cl c17
noncomputable def c19 : Code := cl c18
noncomputable def c20 : Code := cl c19
noncomputable def c21 : Code := cl c20
noncomputable def o7 : Array Oper := rops c21
noncomputable def c22 : Code := cr c20
noncomputable def c23 : Code := cl c22
noncomputable def o8 : Array Oper := rops c23
noncomputable def c24 : Code := cr c22
noncomputable def c25 : Code := cl c24
noncomputable def o9 : Array Oper := rops c25
noncomputable def c26 : Code := cr c24
noncomputable def c27 : Code := cl c26
noncomputable def o10 : Array Oper := rops c27
noncomputable def c28 : Code := cr c26
noncomputable def o6 : Array Oper := rops c28
noncomputable def c29 : Code := cr c17
noncomputable def o5 : Array Oper := rops c29
noncomputable def c30 : Code := cr c6
noncomputable def c31 : Code := cl c30
noncomputable def o11 : Array Oper := rops c31
noncomputable def c32 : Code := cr c30
end F10
theorem column_any {w₀ : World} {C : Nat → Nat} {i b : Nat} {n : Int} (hF : Lim w₀ C) (hi : i ≠ 0) (hd : DeckIs w₀ C i b) (hn0 : 0 ≤ n) (hn : n ≤ 100) : Calls Try.prog 10 #[.pointer (some ⟨b, 0, none⟩), .int .i64 n] w₀ (Ret fun v w' => ∃ cl : List Bits, (cl.length : Int) ≤ n ∧ (∀ x ∈ cl, GoodB x) ∧ Stp [i] w₀ C w' C ∧ DeckIs w' C i b ∧ RV w' (Mc C) cl v) := by
  have hF0 := hF
  have hbc := hd.colour
  replace hd := hd.col2 hi
  have hT := Stp.refl [2, 3, 4, 5, 6, 7, 8, 9] w₀ (col2 C i)
  replace hF := hF.col2 i
  refine calls_start (c := F10.c0) (N := 53) [.pointer (some ⟨b, 0, none⟩), .int .i64 n] Try.func10 (by kernel_rfl) (by kernel_rfl) (by kernel_rfl) ?_
  show Run _ _ _ _ [(0, .pointer (some ⟨b, 0, none⟩)), (1, .int .i64 n)] _ _
  refine run_seq (x := F10.c1) (y := F10.c2) (by kernel_rfl) ?_
  refine run_plain (id := 0) (ops := F10.o0) [(0, true)] (by kernel_rfl) (by kernel_rfl) ?_
  refine yS (by kernel_rfl : opAt F10.o0 0 = some (some 4, .assign (.const (.slice none 0 0)), none)) rfl rfl (fun w' hS => val_assign rfl) ?_
  refine Sch.nil ?_
  refine run_seq (x := F10.c3) (y := F10.c4) (by kernel_rfl) ?_
  refine run_plain (id := 1) (ops := F10.o1) [(0, true), (1, false), (2, true), (3, false), (4, true), (5, false), (6, true), (7, false), (8, false), (9, true)] (by kernel_rfl) (by kernel_rfl) ?_
  refine yS (by kernel_rfl : opAt F10.o1 0 = some (some 8, .move (.tmp 0), none)) rfl rfl (fun w' hS => val_move rfl) ?_
  refine cS (by kernel_rfl : opAt F10.o1 1 = some (some 9, .call { callee := .value (.func 14), args := #[(.tmp 8), (.const (.int .i64 64))], argTypes := #[25, 3] }, none)) rfl rfl (ent Try.call14 rfl) (bits_any (n := 64) hF (by decide) hd (.inl rfl)) ?_
  rintro vw1 w1 ⟨x1, u1, rfl, hx1, hs, hd, hw1⟩
  refine ⟨trivial, ?_⟩
  replace hF := hF.st hs
  replace hT := hT.trans hs (by simp)
  refine yS (by kernel_rfl : opAt F10.o1 2 = some (some 10, .move (.tmp 0), none)) rfl rfl (fun w' hS => val_move rfl) ?_
  refine cS (by kernel_rfl : opAt F10.o1 3 = some (some 11, .call { callee := .value (.func 14), args := #[(.tmp 10), (.const (.int .i64 64))], argTypes := #[25, 3] }, none)) rfl rfl (ent Try.call14 rfl) (bits_any (n := 64) hF (by decide) hd (.inl rfl)) ?_
  rintro vw2 w2 ⟨x2, u2, rfl, hx2, hs, hd, hw2⟩
  refine ⟨trivial, ?_⟩
  replace hF := hF.st hs
  replace hT := hT.trans hs (by simp)
  replace hw1 := hw1.st hs (by first | decide | (simp <;> omega))
  refine yS (by kernel_rfl : opAt F10.o1 4 = some (some 12, .move (.tmp 0), none)) rfl rfl (fun w' hS => val_move rfl) ?_
  refine cS (by kernel_rfl : opAt F10.o1 5 = some (some 13, .call { callee := .value (.func 14), args := #[(.tmp 12), (.const (.int .i64 64))], argTypes := #[25, 3] }, none)) rfl rfl (ent Try.call14 rfl) (bits_any (n := 64) hF (by decide) hd (.inl rfl)) ?_
  rintro vw3 w3 ⟨x3, u3, rfl, hx3, hs, hd, hw3⟩
  refine ⟨trivial, ?_⟩
  replace hF := hF.st hs
  replace hT := hT.trans hs (by simp)
  replace hw1 := hw1.st hs (by first | decide | (simp <;> omega))
  replace hw2 := hw2.st hs (by first | decide | (simp <;> omega))
  refine yS (by kernel_rfl : opAt F10.o1 6 = some (some 14, .move (.tmp 0), none)) rfl rfl (fun w' hS => val_move rfl) ?_
  refine cS (by kernel_rfl : opAt F10.o1 7 = some (some 15, .call { callee := .value (.func 14), args := #[(.tmp 14), (.const (.int .i64 64))], argTypes := #[25, 3] }, none)) rfl rfl (ent Try.call14 rfl) (bits_any (n := 64) hF (by decide) hd (.inl rfl)) ?_
  rintro vw4 w4 ⟨x4, u4, rfl, hx4, hs, hd, hw4⟩
  refine ⟨trivial, ?_⟩
  replace hF := hF.st hs
  replace hT := hT.trans hs (by simp)
  replace hw1 := hw1.st hs (by first | decide | (simp <;> omega))
  replace hw2 := hw2.st hs (by first | decide | (simp <;> omega))
  replace hw3 := hw3.st hs (by first | decide | (simp <;> omega))
  refine aS (by kernel_rfl : opAt F10.o1 8 = some (some 16, .buildSlice 27 4 #[(0, (.tmp 9)), (1, (.tmp 11)), (2, (.tmp 13)), (3, (.tmp 15))], none)) rfl rfl (a_buildSlice (ys := ([x1, x2, x3, x4] : List Bits)) (e := 33) (bytes := 32) hF (by kernel_rfl) rfl (by decide) (by decide) ⟨rfl, ⟨_, rfl, rv_bits.2 ⟨u1, rfl, hw1⟩⟩, rfl, ⟨_, rfl, rv_bits.2 ⟨u2, rfl, hw2⟩⟩, rfl, ⟨_, rfl, rv_bits.2 ⟨u3, rfl, hw3⟩⟩, rfl, ⟨_, rfl, rv_bits.2 ⟨u4, rfl, hw4⟩⟩, trivial⟩) ?_
  rintro v16 w5 ⟨hs, hp, hF⟩
  refine ⟨trivial, ?_⟩
  replace hT := hT.trans hs (by simp)
  replace hd := hd.st hs (by first | decide | (simp <;> omega)) (by first | decide | (simp <;> omega))
  replace hw1 := hw1.st hs (by first | decide | (simp <;> omega))
  replace hw2 := hw2.st hs (by first | decide | (simp <;> omega))
  replace hw3 := hw3.st hs (by first | decide | (simp <;> omega))
  replace hw4 := hw4.st hs (by first | decide | (simp <;> omega))
  clear hw1
  clear hw2
  clear hw3
  clear hw4
  obtain ⟨pool, hpe⟩ : ∃ l : List Bits, l = [x1, x2, x3, x4] := ⟨_, rfl⟩
  rw [← hpe] at hp
  have hpl : pool.length = 4 := by rw [hpe]; rfl
  have hpg : ∀ x ∈ pool, GoodB x := by
      rw [hpe]; intro x hx; simp only [List.mem_cons, List.not_mem_nil, or_false] at hx
      rcases hx with rfl | rfl | rfl | rfl
      · exact hx1.good64
      · exact hx2.good64
      · exact hx3.good64
      · exact hx4.good64
  refine yS (by kernel_rfl : opAt F10.o1 9 = some (some 5, .assign (.tmp 16), none)) rfl rfl (fun w' hS => val_assign rfl) ?_
  refine Sch.nil ?_
  refine run_seq (x := F10.c5) (y := F10.c6) (by kernel_rfl) ?_
  refine run_plain (id := 2) (ops := F10.o2) [(0, true)] (by kernel_rfl) (by kernel_rfl) ?_
  refine yS (by kernel_rfl : opAt F10.o2 0 = some (some 6, .assign (.const (.slice none 0 0)), none)) rfl rfl (fun w' hS => val_assign rfl) ?_
  refine Sch.nil ?_
  refine run_seq (x := F10.c7) (y := F10.c30) (by kernel_rfl) ?_
  refine run_seq (x := F10.c8) (y := F10.c9) (by kernel_rfl) ?_
  refine run_plain (id := 3) (ops := F10.o3) [(0, true), (1, true), (2, true), (3, false), (4, true)] (by kernel_rfl) (by kernel_rfl) ?_
  refine yS (by kernel_rfl : opAt F10.o3 0 = some (some 17, .move (.tmp 0), none)) rfl rfl (fun w' hS => val_move rfl) ?_
  refine yS (by kernel_rfl : opAt F10.o3 1 = some (some 18, .move (.tmp 1), none)) rfl rfl (fun w' hS => val_move rfl) ?_
  refine yS (by kernel_rfl : opAt F10.o3 2 = some (some 19, .binOp .add 3 (.tmp 18) (.const (.int .i64 1)) 3, none)) rfl rfl (fun w' hS => val_addi rfl rfl (by omega) (by omega)) ?_
  refine cS (by kernel_rfl : opAt F10.o3 3 = some (some 20, .call { callee := .value (.func 15), args := #[(.tmp 17), (.tmp 19)], argTypes := #[25, 3] }, none)) rfl rfl (ent Try.call15 rfl) (next_any (n := n + 1) hF (by decide) hd (by omega) (by omega)) ?_
  rintro vw6 w6 ⟨k0, rfl, hk0, hs, hd⟩
  refine ⟨trivial, ?_⟩
  replace hF := hF.st hs
  replace hT := hT.trans hs (by simp)
  replace hp := hp.st hs (by first | decide | (simp <;> omega))
  refine yS (by kernel_rfl : opAt F10.o3 4 = some (some 7, .assign (.tmp 20), none)) rfl rfl (fun w' hS => val_assign rfl) ?_
  refine Sch.nil ?_
  refine run_block (x := F10.c10) (id := 0) (by kernel_rfl) ?_
  
  refine run_loop (ι := Nat × (List Bits) × Value × (Nat → Nat)) (I := fun x w => (x.2.1.length : Int) + x.1 ≤ n ∧ (∀ y ∈ x.2.1, GoodB y) ∧ Lim w x.2.2.2 ∧ Stp [2, 3, 4, 5, 6, 7, 8, 9] w₀ (col2 C i) w x.2.2.2 ∧ DeckIs w x.2.2.2 2 b ∧ RV w (Mc x.2.2.2) pool v16 ∧ OwnL w x.2.2.2 4 33 x.2.2.1 x.2.1) (e := fun x => [(0, .pointer (some ⟨b, 0, none⟩)), (5, v16), (6, x.2.2.1), (7, .int .i64 x.1)]) (m := fun x => x.1) (x₀ := (k0, [], .slice none 0 0, col2 C i)) (body := F10.c11) (by kernel_rfl) (sub_cons 0 rfl rfl (sub_cons 5 rfl rfl (sub_cons 6 rfl rfl (sub_cons 7 rfl rfl (sub_nil _))))) ?_ ?_
  · exact ⟨(by simp only [List.length_nil]; omega), (fun x hx => by cases hx), hF, hT, hd, hp, OwnL.nil⟩
  intro ⟨m, cl, vc, C1⟩ w7 hI next
  obtain ⟨hm, hcl, hF, hT, hd, hp, hc⟩ := hI
  try simp only at hm hcl hF hT hd hp hc
  have next1 := next
  clear next
  show Run _ _ _ _ [(0, .pointer (some ⟨b, 0, none⟩)), (5, v16), (6, vc), (7, .int .i64 m)] _ _
  refine run_seq (x := F10.c12) (y := F10.c17) (by kernel_rfl) ?_
  refine run_seq (x := F10.c13) (y := F10.c14) (by kernel_rfl) ?_
  refine run_plain (id := 4) (ops := F10.o4) [(0, true), (1, true)] (by kernel_rfl) (by kernel_rfl) ?_
  refine yS (by kernel_rfl : opAt F10.o4 0 = some (some 21, .move (.tmp 7), none)) rfl rfl (fun w' hS => val_move rfl) ?_
  refine yS (by kernel_rfl : opAt F10.o4 1 = some (some 22, .binOp .gtr 3 (.tmp 21) (.const (.int .i64 0)) 3, none)) rfl rfl (fun w' hS => val_gtr rfl rfl) ?_
  refine Sch.nil ?_
  refine run_if (x := F10.c15) (y := F10.c16) (o := .tmp 22) (by kernel_rfl) rfl (fun h22 => ?_) (fun h22 => ?_)
  · skip
    refine run_skip (by kernel_rfl) ?_
    refine run_seq (x := F10.c18) (y := F10.c29) (by kernel_rfl) ?_
    refine run_block (x := F10.c19) (id := 1) (by kernel_rfl) ?_
    refine run_block (x := F10.c20) (id := 2) (by kernel_rfl) ?_
    refine run_seq (x := F10.c21) (y := F10.c22) (by kernel_rfl) ?_
    refine run_plain (id := 7) (ops := F10.o7) [(0, true), (1, false), (2, true)] (by kernel_rfl) (by kernel_rfl) ?_
    refine yS (by kernel_rfl : opAt F10.o7 0 = some (some 38, .move (.tmp 0), none)) rfl rfl (fun w' hS => val_move rfl) ?_
    refine cS (by kernel_rfl : opAt F10.o7 1 = some (some 39, .call { callee := .value (.func 27), args := #[(.tmp 38), (.const (.int .i64 9))], argTypes := #[25, 3] }, none)) rfl rfl (ent Try.call27 rfl) (one_any (n := 9) hF (by decide) hd (by omega) (by omega)) ?_
    rintro vw8 w8 ⟨t1, rfl, hs, hd⟩
    refine ⟨trivial, ?_⟩
    replace hF := hF.st hs
    replace hT := hT.trans hs (by simp)
    replace hp := hp.st hs (by first | decide | (simp <;> omega))
    replace hc := hc.st hs (by first | decide | (simp <;> omega)) (by first | decide | (simp <;> omega))
    refine yS (by kernel_rfl : opAt F10.o7 2 = some (some 37, .assign (.tmp 39), none)) rfl rfl (fun w' hS => val_assign rfl) ?_
    refine Sch.nil ?_
    refine run_cond (x := F10.c23) (y := F10.c24) (o := .tmp 37) (by kernel_rfl) rfl (fun h37 => ?_) (fun h37 => ?_)
    · skip
      refine run_plain (id := 8) (ops := F10.o8) [(0, true), (1, true), (2, false), (3, false), (4, true)] (by kernel_rfl) (by kernel_rfl) ?_
      refine yS (by kernel_rfl : opAt F10.o8 0 = some (some 40, .move (.tmp 6), none)) rfl rfl (fun w' hS => val_move rfl) ?_
      refine yS (by kernel_rfl : opAt F10.o8 1 = some (some 41, .build 33 #[], none)) rfl rfl (fun w' hS => val_build (zs := [.int .i64 0, .slice none 0 0]) (ps := [(0, 1), (1, 1)]) (qs := []) (cs := [.int .i64 0, .slice none 0 0]) (by kernel_rfl) (by kernel_rfl) (by exact trivial) rfl) ?_
      refine aS (by kernel_rfl : opAt F10.o8 2 = some (some 42, .buildSlice 27 1 #[(0, (.tmp 41))], none)) rfl rfl (a_buildSlice (ys := ([⟨0, []⟩] : List Bits)) (e := 33) (bytes := 32) hF (by kernel_rfl) rfl (by decide) (by decide) ⟨rfl, ⟨_, rfl, rv_bits.2 ⟨_, rfl, rv_nil⟩⟩, trivial⟩) ?_
      rintro v42 w9 ⟨hs, g42, hF⟩
      refine ⟨trivial, ?_⟩
      replace hT := hT.trans hs (by simp)
      replace hd := hd.st hs (by first | decide | (simp <;> omega)) (by first | decide | (simp <;> omega))
      replace hp := hp.st hs (by first | decide | (simp <;> omega))
      replace hc := hc.st hs (by first | decide | (simp <;> omega)) (by first | decide | (simp <;> omega))
      refine aS (by kernel_rfl : opAt F10.o8 3 = some (some 43, .call { callee := .builtin .append, args := #[(.tmp 40), (.tmp 42)], argTypes := #[27, 27] }, none)) rfl rfl (a_append (e := 33) (bytes := 32) hF (by decide) rfl rfl (by kernel_rfl) (by decide) hc g42 (by simp only [List.length_cons, List.length_nil]; omega) (by simp only [List.length_cons, List.length_nil]; omega)) ?_
      rintro v43 w10 ⟨Cw10, hs, hc, hF⟩
      refine ⟨trivial, ?_⟩
      replace hT := hT.trans hs (by simp)
      replace hd := hd.st hs (by first | decide | (simp <;> omega)) (by first | decide | (simp <;> omega))
      replace hp := hp.st hs (by first | decide | (simp <;> omega))
      replace g42 := g42.st hs (by first | decide | (simp <;> omega))
      refine yS (by kernel_rfl : opAt F10.o8 4 = some (some 6, .assign (.tmp 43), none)) rfl rfl (fun w' hS => val_assign rfl) ?_
      refine Sch.nil ?_
      refine run_inBlock ?_
      refine run_inBlock ?_
      refine run_plain (id := 5) (ops := F10.o5) [(0, true), (1, true), (2, true)] (by kernel_rfl) (by kernel_rfl) ?_
      refine yS (by kernel_rfl : opAt F10.o5 0 = some (some 23, .move (.tmp 7), none)) rfl rfl (fun w' hS => val_move rfl) ?_
      refine yS (by kernel_rfl : opAt F10.o5 1 = some (some 24, .binOp .sub 3 (.tmp 23) (.const (.int .i64 1)) 3, none)) rfl rfl (fun w' hS => val_subi rfl rfl (by omega) (by omega)) ?_
      refine yS (by kernel_rfl : opAt F10.o5 2 = some (some 7, .assign (.tmp 24), none)) rfl rfl (fun w' hS => val_assign rfl) ?_
      refine Sch.nil ?_
      refine kp (sub_cons 0 rfl rfl (sub_cons 5 rfl rfl (sub_cons 6 rfl rfl (sub_cons 7 rfl (eq_int (by omega)) (sub_nil _))))) (next1 (m - 1, cl ++ [⟨0, []⟩], v43, Cw10) _ ⟨(by simp only [List.length_append, List.length_cons, List.length_nil]; omega), (snoc_all hcl good_empty), hF, hT, hd, hp, hc⟩ (by first | omega | (simp only; omega)))
    · skip
      refine run_seq (x := F10.c25) (y := F10.c26) (by kernel_rfl) ?_
      refine run_plain (id := 9) (ops := F10.o9) [(0, true), (1, false), (2, true)] (by kernel_rfl) (by kernel_rfl) ?_
      refine yS (by kernel_rfl : opAt F10.o9 0 = some (some 45, .move (.tmp 0), none)) rfl rfl (fun w' hS => val_move rfl) ?_
      refine cS (by kernel_rfl : opAt F10.o9 1 = some (some 46, .call { callee := .value (.func 27), args := #[(.tmp 45), (.const (.int .i64 30))], argTypes := #[25, 3] }, none)) rfl rfl (ent Try.call27 rfl) (one_any (n := 30) hF (by decide) hd (by omega) (by omega)) ?_
      rintro vw11 w11 ⟨t2, rfl, hs, hd⟩
      refine ⟨trivial, ?_⟩
      replace hF := hF.st hs
      replace hT := hT.trans hs (by simp)
      replace hp := hp.st hs (by first | decide | (simp <;> omega))
      replace hc := hc.st hs (by first | decide | (simp <;> omega)) (by first | decide | (simp <;> omega))
      refine yS (by kernel_rfl : opAt F10.o9 2 = some (some 44, .assign (.tmp 46), none)) rfl rfl (fun w' hS => val_assign rfl) ?_
      refine Sch.nil ?_
      refine run_cond (x := F10.c27) (y := F10.c28) (o := .tmp 44) (by kernel_rfl) rfl (fun h44 => ?_) (fun h44 => ?_)
      · skip
        refine run_plain (id := 10) (ops := F10.o10) [(0, true), (1, true), (2, false), (3, false), (4, false), (5, true)] (by kernel_rfl) (by kernel_rfl) ?_
        refine yS (by kernel_rfl : opAt F10.o10 0 = some (some 47, .move (.tmp 6), none)) rfl rfl (fun w' hS => val_move rfl) ?_
        refine yS (by kernel_rfl : opAt F10.o10 1 = some (some 48, .move (.tmp 0), none)) rfl rfl (fun w' hS => val_move rfl) ?_
        refine cS (by kernel_rfl : opAt F10.o10 2 = some (some 49, .call { callee := .value (.func 14), args := #[(.tmp 48), (.const (.int .i64 128))], argTypes := #[25, 3] }, none)) rfl rfl (ent Try.call14 rfl) (bits_any (n := 128) hF (by decide) hd (.inr rfl)) ?_
        rintro vw12 w12 ⟨x, u, rfl, hx, hs, hd, hw⟩
        refine ⟨trivial, ?_⟩
        replace hF := hF.st hs
        replace hT := hT.trans hs (by simp)
        replace hp := hp.st hs (by first | decide | (simp <;> omega))
        replace hc := hc.st hs (by first | decide | (simp <;> omega)) (by first | decide | (simp <;> omega))
        refine aS (by kernel_rfl : opAt F10.o10 3 = some (some 50, .buildSlice 27 1 #[(0, (.tmp 49))], none)) rfl rfl (a_buildSlice (ys := ([x] : List Bits)) (e := 33) (bytes := 32) hF (by kernel_rfl) rfl (by decide) (by decide) ⟨rfl, ⟨_, rfl, rv_bits.2 ⟨u, rfl, hw⟩⟩, trivial⟩) ?_
        rintro v50 w13 ⟨hs, g50, hF⟩
        refine ⟨trivial, ?_⟩
        replace hT := hT.trans hs (by simp)
        replace hd := hd.st hs (by first | decide | (simp <;> omega)) (by first | decide | (simp <;> omega))
        replace hp := hp.st hs (by first | decide | (simp <;> omega))
        replace hc := hc.st hs (by first | decide | (simp <;> omega)) (by first | decide | (simp <;> omega))
        replace hw := hw.st hs (by first | decide | (simp <;> omega))
        refine aS (by kernel_rfl : opAt F10.o10 4 = some (some 51, .call { callee := .builtin .append, args := #[(.tmp 47), (.tmp 50)], argTypes := #[27, 27] }, none)) rfl rfl (a_append (e := 33) (bytes := 32) hF (by decide) rfl rfl (by kernel_rfl) (by decide) hc g50 (by simp only [List.length_cons, List.length_nil]; omega) (by simp only [List.length_cons, List.length_nil]; omega)) ?_
        rintro v51 w14 ⟨Cw14, hs, hc, hF⟩
        refine ⟨trivial, ?_⟩
        replace hT := hT.trans hs (by simp)
        replace hd := hd.st hs (by first | decide | (simp <;> omega)) (by first | decide | (simp <;> omega))
        replace hp := hp.st hs (by first | decide | (simp <;> omega))
        replace hw := hw.st hs (by first | decide | (simp <;> omega))
        replace g50 := g50.st hs (by first | decide | (simp <;> omega))
        refine yS (by kernel_rfl : opAt F10.o10 5 = some (some 6, .assign (.tmp 51), none)) rfl rfl (fun w' hS => val_assign rfl) ?_
        refine Sch.nil ?_
        refine run_inBlock ?_
        refine run_inBlock ?_
        refine run_plain (id := 5) (ops := F10.o5) [(0, true), (1, true), (2, true)] (by kernel_rfl) (by kernel_rfl) ?_
        refine yS (by kernel_rfl : opAt F10.o5 0 = some (some 23, .move (.tmp 7), none)) rfl rfl (fun w' hS => val_move rfl) ?_
        refine yS (by kernel_rfl : opAt F10.o5 1 = some (some 24, .binOp .sub 3 (.tmp 23) (.const (.int .i64 1)) 3, none)) rfl rfl (fun w' hS => val_subi rfl rfl (by omega) (by omega)) ?_
        refine yS (by kernel_rfl : opAt F10.o5 2 = some (some 7, .assign (.tmp 24), none)) rfl rfl (fun w' hS => val_assign rfl) ?_
        refine Sch.nil ?_
        refine kp (sub_cons 0 rfl rfl (sub_cons 5 rfl rfl (sub_cons 6 rfl rfl (sub_cons 7 rfl (eq_int (by omega)) (sub_nil _))))) (next1 (m - 1, cl ++ [x], v51, Cw14) _ ⟨(by simp only [List.length_append, List.length_cons, List.length_nil]; omega), (snoc_all hcl hx.good128), hF, hT, hd, hp, hc⟩ (by first | omega | (simp only; omega)))
      · skip
        refine run_plain (id := 6) (ops := F10.o6) [(0, true), (1, true), (2, true), (3, true), (4, false), (5, true), (6, false), (7, true), (8, false), (9, false), (10, false), (11, false), (12, true)] (by kernel_rfl) (by kernel_rfl) ?_
        refine yS (by kernel_rfl : opAt F10.o6 0 = some (some 25, .move (.tmp 6), none)) rfl rfl (fun w' hS => val_move rfl) ?_
        refine yS (by kernel_rfl : opAt F10.o6 1 = some (some 26, .move (.tmp 5), none)) rfl rfl (fun w' hS => val_move rfl) ?_
        refine yS (by kernel_rfl : opAt F10.o6 2 = some (some 27, .move (.tmp 0), none)) rfl rfl (fun w' hS => val_move rfl) ?_
        refine yS (by kernel_rfl : opAt F10.o6 3 = some (some 28, .move (.tmp 0), none)) rfl rfl (fun w' hS => val_move rfl) ?_
        refine cS (by kernel_rfl : opAt F10.o6 4 = some (some 29, .call { callee := .value (.func 15), args := #[(.tmp 28), (.const (.int .i64 4))], argTypes := #[25, 3] }, none)) rfl rfl (ent Try.call15 rfl) (next_any (n := 4) hF (by decide) hd (by omega) (by omega)) ?_
        rintro vw15 w15 ⟨k1, rfl, hk1, hs, hd⟩
        refine ⟨trivial, ?_⟩
        replace hF := hF.st hs
        replace hT := hT.trans hs (by simp)
        replace hp := hp.st hs (by first | decide | (simp <;> omega))
        replace hc := hc.st hs (by first | decide | (simp <;> omega)) (by first | decide | (simp <;> omega))
        refine yS (by kernel_rfl : opAt F10.o6 5 = some (some 30, .binOp .add 3 (.const (.int .i64 1)) (.tmp 29) 3, none)) rfl rfl (fun w' hS => val_addi rfl rfl (by omega) (by omega)) ?_
        refine cS (by kernel_rfl : opAt F10.o6 6 = some (some 31, .call { callee := .value (.func 15), args := #[(.tmp 27), (.tmp 30)], argTypes := #[25, 3] }, none)) rfl rfl (ent Try.call15 rfl) (next_any (n := 1 + (k1 : Int)) hF (by decide) hd (by omega) (by omega)) ?_
        rintro vw16 w16 ⟨k2, rfl, hk2, hs, hd⟩
        refine ⟨trivial, ?_⟩
        replace hF := hF.st hs
        replace hT := hT.trans hs (by simp)
        replace hp := hp.st hs (by first | decide | (simp <;> omega))
        replace hc := hc.st hs (by first | decide | (simp <;> omega)) (by first | decide | (simp <;> omega))
        refine iS (e := 33) (by kernel_rfl : opAt F10.o6 7 = some (some 32, .indexAddr 27 (.tmp 26) (.tmp 31), none)) rfl rfl hp rfl (by kernel_rfl) rfl (by omega) (by omega) ?_
        intro b32 o32 h32
        try simp only [Int.toNat_natCast] at h32
        refine lNA (by kernel_rfl : opAt F10.o6 8 = some (some 33, .load 33 (.tmp 32), none)) rfl rfl trivial h32 (by kernel_rfl) (by kernel_rfl) rfl rfl ?_
        intro v33 g33
        obtain ⟨u, rfl, hw⟩ := rv_bits.1 g33
        clear g33
        have hgd := hpg _ (List.getElem_mem (show k2 < pool.length by omega))
        have hgl := hgd.len
        refine cS (by kernel_rfl : opAt F10.o6 9 = some (some 34, .call { callee := .value (.func 28), args := #[(.tmp 33)], argTypes := #[33] }, none)) rfl rfl (ent Try.call28 rfl) (copy_ok (x := pool[k2]) hF hw (by omega)) ?_
        rintro vw17 w17 ⟨u2, rfl, hs, hw2⟩
        refine ⟨trivial, ?_⟩
        replace hF := hF.st hs
        replace hT := hT.trans hs (by simp)
        replace hd := hd.st hs (by first | decide | (simp <;> omega)) (by first | decide | (simp <;> omega))
        replace hp := hp.st hs (by first | decide | (simp <;> omega))
        replace hc := hc.st hs (by first | decide | (simp <;> omega)) (by first | decide | (simp <;> omega))
        replace h32 := h32.st hs (by first | decide | (simp <;> omega))
        replace hw := hw.st hs (by first | decide | (simp <;> omega))
        refine aS (by kernel_rfl : opAt F10.o6 10 = some (some 35, .buildSlice 27 1 #[(0, (.tmp 34))], none)) rfl rfl (a_buildSlice (ys := ([pool[k2]] : List Bits)) (e := 33) (bytes := 32) hF (by kernel_rfl) rfl (by decide) (by decide) ⟨rfl, ⟨_, rfl, rv_bits.2 ⟨u2, rfl, hw2⟩⟩, trivial⟩) ?_
        rintro v35 w18 ⟨hs, g35, hF⟩
        refine ⟨trivial, ?_⟩
        replace hT := hT.trans hs (by simp)
        replace hd := hd.st hs (by first | decide | (simp <;> omega)) (by first | decide | (simp <;> omega))
        replace hp := hp.st hs (by first | decide | (simp <;> omega))
        replace hc := hc.st hs (by first | decide | (simp <;> omega)) (by first | decide | (simp <;> omega))
        replace h32 := h32.st hs (by first | decide | (simp <;> omega))
        replace hw := hw.st hs (by first | decide | (simp <;> omega))
        replace hw2 := hw2.st hs (by first | decide | (simp <;> omega))
        refine aS (by kernel_rfl : opAt F10.o6 11 = some (some 36, .call { callee := .builtin .append, args := #[(.tmp 25), (.tmp 35)], argTypes := #[27, 27] }, none)) rfl rfl (a_append (e := 33) (bytes := 32) hF (by decide) rfl rfl (by kernel_rfl) (by decide) hc g35 (by simp only [List.length_cons, List.length_nil]; omega) (by simp only [List.length_cons, List.length_nil]; omega)) ?_
        rintro v36 w19 ⟨Cw19, hs, hc, hF⟩
        refine ⟨trivial, ?_⟩
        replace hT := hT.trans hs (by simp)
        replace hd := hd.st hs (by first | decide | (simp <;> omega)) (by first | decide | (simp <;> omega))
        replace hp := hp.st hs (by first | decide | (simp <;> omega))
        replace h32 := h32.st hs (by first | decide | (simp <;> omega))
        replace hw := hw.st hs (by first | decide | (simp <;> omega))
        replace hw2 := hw2.st hs (by first | decide | (simp <;> omega))
        replace g35 := g35.st hs (by first | decide | (simp <;> omega))
        refine yS (by kernel_rfl : opAt F10.o6 12 = some (some 6, .assign (.tmp 36), none)) rfl rfl (fun w' hS => val_assign rfl) ?_
        refine Sch.nil ?_
        refine run_inBlock ?_
        refine run_inBlock ?_
        refine run_plain (id := 5) (ops := F10.o5) [(0, true), (1, true), (2, true)] (by kernel_rfl) (by kernel_rfl) ?_
        refine yS (by kernel_rfl : opAt F10.o5 0 = some (some 23, .move (.tmp 7), none)) rfl rfl (fun w' hS => val_move rfl) ?_
        refine yS (by kernel_rfl : opAt F10.o5 1 = some (some 24, .binOp .sub 3 (.tmp 23) (.const (.int .i64 1)) 3, none)) rfl rfl (fun w' hS => val_subi rfl rfl (by omega) (by omega)) ?_
        refine yS (by kernel_rfl : opAt F10.o5 2 = some (some 7, .assign (.tmp 24), none)) rfl rfl (fun w' hS => val_assign rfl) ?_
        refine Sch.nil ?_
        refine kp (sub_cons 0 rfl rfl (sub_cons 5 rfl rfl (sub_cons 6 rfl rfl (sub_cons 7 rfl (eq_int (by omega)) (sub_nil _))))) (next1 (m - 1, cl ++ [pool[k2]], v36, Cw19) _ ⟨(by simp only [List.length_append, List.length_cons, List.length_nil]; omega), (snoc_all hcl hgd), hF, hT, hd, hp, hc⟩ (by first | omega | (simp only; omega)))
  · skip
    refine run_exit (id := 0) (by kernel_rfl) rfl ?_
    refine run_seq (x := F10.c31) (y := F10.c32) (by kernel_rfl) ?_
    refine run_plain (id := 11) (ops := F10.o11) [(0, true), (1, true)] (by kernel_rfl) (by kernel_rfl) ?_
    refine yS (by kernel_rfl : opAt F10.o11 0 = some (some 52, .move (.tmp 6), none)) rfl rfl (fun w' hS => val_move rfl) ?_
    refine yS (by kernel_rfl : opAt F10.o11 1 = some (some 4, .assign (.tmp 52), none)) rfl rfl (fun w' hS => val_assign rfl) ?_
    refine Sch.nil ?_
    refine run_ret1 (by kernel_rfl) Try.func10 Try.results10 rfl ?_
    exact ⟨cl, by omega, hcl, hT.out2 (by decide), hd.out hT hF0 hbc, hc.out hT hF0 (Mc_col2 C i) (fun b _ => col2_lt C i (by decide) b) (by omega)⟩
end Go.Proofs.Ytbdlkdiadplmcaa
