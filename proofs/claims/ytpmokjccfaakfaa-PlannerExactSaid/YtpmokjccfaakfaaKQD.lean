/- Steps through functions of the program. -/
import Derived.Test.YtpmokjccfaakfaaKQC
set_option linter.unusedVariables false
set_option linter.unusedSimpArgs false
set_option maxRecDepth 100000
set_option maxHeartbeats 400000
namespace Go.Proofs.Ytpmokjccfaakfaa
open Go.K Go.K.Rep

namespace F16
noncomputable def c0 : Code := bodyOf Try.f16
noncomputable def c1 : Code := cl c0
noncomputable def o0 : Array Oper := rops c1
noncomputable def c2 : Code := cr c0
noncomputable def c3 : Code := cl c2
noncomputable def o1 : Array Oper := rops c3
noncomputable def c4 : Code := cr c2
noncomputable def c5 : Code := cl c4
noncomputable def c6 : Code := cl c5
noncomputable def o2 : Array Oper := rops c6
noncomputable def c7 : Code := cr c5
noncomputable def c8 : Code := cl c7
noncomputable def c9 : Code := cl c8
noncomputable def c10 : Code := cl c9
noncomputable def o3 : Array Oper := rops c10
noncomputable def c11 : Code := cr c9
noncomputable def c12 : Code := cl c11
noncomputable def c13 : Code := cl c12
noncomputable def c14 : Code := cr c12
noncomputable def c15 : Code := cr c11
noncomputable def c16 : Code := cl c15
noncomputable def c17 : Code := cl c16
noncomputable def o4 : Array Oper := rops c17
noncomputable def c18 : Code := cr c15
noncomputable def o5 : Array Oper := rops c18
noncomputable def c19 : Code := cr c4
noncomputable def c20 : Code := cl c19
noncomputable def o6 : Array Oper := rops c20
noncomputable def c21 : Code := cr c19
end F16
/-- Some rates. -/
theorem rates_ok {w₀ : World} {C : Nat → Nat} {i b : Nat} {ks : List Key} {vk : Value} (hF : Lim w₀ C) (hi : i ≠ 0) (hd : DeckIs w₀ C i b) (hk : RV w₀ (Mc C) ks vk) (hs0 : KeysSm ks) : Calls Try.prog 16 #[.pointer (some ⟨b, 0, none⟩), vk] w₀ (Ret fun v w' => ∃ rs : List Int, Stp [i] w₀ C w' C ∧ RV w' (Mc C) rs v ∧ DeckIs w' C i b ∧ rs.length = (atomsS ks).length ∧ RatesOK rs) := by
  have hF0 := hF
  have hbc := hd.colour
  replace hd := hd.col2 hi
  have hT := Stp.refl [2, 3, 4, 5, 6, 7, 8, 9] w₀ (col2 C i)
  replace hF := hF.col2 i
  replace hk : RV w₀ (Mc (col2 C i)) ks vk := by rw [Mc_col2]; exact hk
  refine calls_start (c := F16.c0) (N := 23) [.pointer (some ⟨b, 0, none⟩), vk] Try.func16 (by kernel_rfl) (by kernel_rfl) (by kernel_rfl) ?_
  show Run _ _ _ _ [(0, .pointer (some ⟨b, 0, none⟩)), (1, vk)] _ _
  refine run_seq (x := F16.c1) (y := F16.c2) (by kernel_rfl) ?_
  refine run_plain (id := 0) (ops := F16.o0) [(0, true)] (by kernel_rfl) (by kernel_rfl) ?_
  refine yS (by kernel_rfl : opAt F16.o0 0 = some (some 4, .assign (.const (.slice none 0 0)), none)) rfl rfl (fun w' hS => val_assign rfl) ?_
  refine Sch.nil ?_
  refine run_seq (x := F16.c3) (y := F16.c4) (by kernel_rfl) ?_
  refine run_plain (id := 1) (ops := F16.o1) [(0, true)] (by kernel_rfl) (by kernel_rfl) ?_
  refine yS (by kernel_rfl : opAt F16.o1 0 = some (some 5, .assign (.const (.slice none 0 0)), none)) rfl rfl (fun w' hS => val_assign rfl) ?_
  refine Sch.nil ?_
  refine run_seq (x := F16.c5) (y := F16.c19) (by kernel_rfl) ?_
  refine run_seq (x := F16.c6) (y := F16.c7) (by kernel_rfl) ?_
  refine run_plain (id := 2) (ops := F16.o2) [(0, true), (1, false), (2, true), (3, true)] (by kernel_rfl) (by kernel_rfl) ?_
  refine yS (by kernel_rfl : opAt F16.o2 0 = some (some 6, .move (.tmp 1), none)) rfl rfl (fun w' hS => val_move rfl) ?_
  refine cS (by kernel_rfl : opAt F16.o2 1 = some (some 7, .call { callee := .value (.func 15), args := #[(.tmp 6)], argTypes := #[23] }, none)) rfl rfl (ent Try.call15 rfl) (refAtoms_ok hF hk hs0) ?_
  rintro vw1 w1 ⟨hs, ha⟩
  refine ⟨trivial, ?_⟩
  replace hF := hF.st hs
  replace hT := hT.trans hs (by simp)
  replace hd := hd.st hs (by first | decide | (simp <;> omega)) (by first | decide | (simp <;> omega))
  replace hk := hk.st hs (by first | decide | (simp <;> omega))
  have hal := atomsS_len hs0
  refine yS (by kernel_rfl : opAt F16.o2 2 = some (some 8, .call { callee := .builtin .len, args := #[(.tmp 7)], argTypes := #[26] }, none)) rfl rfl (fun w' hS => ha.lenV rfl Try.underlying26 w' ) ?_
  refine yS (by kernel_rfl : opAt F16.o2 3 = some (some 9, .move (.const (.int .i64 0)), none)) rfl rfl (fun w' hS => val_move rfl) ?_
  refine Sch.nil ?_
  refine run_block (x := F16.c8) (id := 0) (by kernel_rfl) ?_
  
  refine run_loop (ι := Nat × (List Int) × Value × (Nat → Nat)) (I := fun x w => x.1 ≤ (atomsS ks).length ∧ x.2.1.length = x.1 ∧ RatesOK x.2.1 ∧ Lim w x.2.2.2 ∧ Stp [2, 3, 4, 5, 6, 7, 8, 9] w₀ (col2 C i) w x.2.2.2 ∧ DeckIs w x.2.2.2 2 b ∧ OwnL w x.2.2.2 3 3 x.2.2.1 x.2.1) (e := fun x => [(0, .pointer (some ⟨b, 0, none⟩)), (5, x.2.2.1), (8, .int .i64 (atomsS ks).length), (9, .int .i64 x.1)]) (m := fun x => (atomsS ks).length - x.1) (x₀ := (0, [], .slice none 0 0, col2 C i)) (body := F16.c9) (by kernel_rfl) (sub_cons 0 rfl rfl (sub_cons 5 rfl rfl (sub_cons 8 rfl rfl (sub_cons 9 rfl rfl (sub_nil _))))) ?_ ?_
  · exact ⟨Nat.zero_le _, rfl, fun r hr => (by cases hr), hF, hT, hd, OwnL.nil⟩
  intro ⟨q, rs, vo, C1⟩ w2 hI next
  obtain ⟨hq, hrl, hro, hF, hT, hd, ho⟩ := hI
  try simp only at hq hrl hro hF hT hd ho
  have next1 := next
  clear next
  show Run _ _ _ _ [(0, .pointer (some ⟨b, 0, none⟩)), (5, vo), (8, .int .i64 (atomsS ks).length), (9, .int .i64 q)] _ _
  refine run_seq (x := F16.c10) (y := F16.c11) (by kernel_rfl) ?_
  refine run_plain (id := 3) (ops := F16.o3) [(0, true)] (by kernel_rfl) (by kernel_rfl) ?_
  refine yS (by kernel_rfl : opAt F16.o3 0 = some (some 10, .binOp .lss 3 (.tmp 9) (.tmp 8) 3, none)) rfl rfl (fun w' hS => val_lss rfl rfl) ?_
  refine Sch.nil ?_
  refine run_seq (x := F16.c12) (y := F16.c15) (by kernel_rfl) ?_
  refine run_if (x := F16.c13) (y := F16.c14) (o := .tmp 10) (by kernel_rfl) rfl (fun h10 => ?_) (fun h10 => ?_)
  · skip
    refine run_skip (by kernel_rfl) ?_
    refine run_seq (x := F16.c16) (y := F16.c18) (by kernel_rfl) ?_
    refine run_block (x := F16.c17) (id := 1) (by kernel_rfl) ?_
    refine run_plain (id := 4) (ops := F16.o4) [(0, true), (1, true), (2, false), (3, false), (4, true), (5, false), (6, true), (7, false), (8, false), (9, false), (10, true)] (by kernel_rfl) (by kernel_rfl) ?_
    refine yS (by kernel_rfl : opAt F16.o4 0 = some (some 11, .move (.tmp 5), none)) rfl rfl (fun w' hS => val_move rfl) ?_
    refine yS (by kernel_rfl : opAt F16.o4 1 = some (some 12, .move (.tmp 0), none)) rfl rfl (fun w' hS => val_move rfl) ?_
    refine cS (by kernel_rfl : opAt F16.o4 2 = some (some 13, .call { callee := .value (.func 19), args := #[(.tmp 12), (.const (.int .i64 64))], argTypes := #[29, 3] }, none)) rfl rfl (ent Try.call19 rfl) (next_any (n := 64) hF (by decide) hd (by omega) (by omega)) ?_
    rintro vw3 w3 ⟨k, rfl, hk, hs, hd⟩
    refine ⟨trivial, ?_⟩
    replace hF := hF.st hs
    replace hT := hT.trans hs (by simp)
    replace ho := ho.st hs (by first | decide | (simp <;> omega)) (by first | decide | (simp <;> omega))
    refine aS (by kernel_rfl : opAt F16.o4 3 = some (some 14, .buildSlice 22 7 #[(0, (.const (.int .i64 0))), (1, (.const (.int .i64 1))), (2, (.const (.int .i64 3))), (3, (.const (.int .i64 8))), (4, (.const (.int .i64 32))), (5, (.const (.int .i64 64))), (6, (.tmp 13))], none)) rfl rfl (a_buildSlice (ys := ([0, 1, 3, 8, 32, 64, (k : Int)] : List Int)) (e := 3) (bytes := 8) hF (by kernel_rfl) rfl (by decide) (by decide) ⟨rfl, ⟨_, rfl, rv_int.2 rfl⟩, rfl, ⟨_, rfl, rv_int.2 rfl⟩, rfl, ⟨_, rfl, rv_int.2 rfl⟩, rfl, ⟨_, rfl, rv_int.2 rfl⟩, rfl, ⟨_, rfl, rv_int.2 rfl⟩, rfl, ⟨_, rfl, rv_int.2 rfl⟩, rfl, ⟨_, rfl, rv_int.2 rfl⟩, trivial⟩) ?_
    rintro v14 w4 ⟨hs, g14, hF⟩
    refine ⟨trivial, ?_⟩
    replace hT := hT.trans hs (by simp)
    replace hd := hd.st hs (by first | decide | (simp <;> omega)) (by first | decide | (simp <;> omega))
    replace ho := ho.st hs (by first | decide | (simp <;> omega)) (by first | decide | (simp <;> omega))
    obtain ⟨opts, hopts⟩ : ∃ l : List Int, l = [0, 1, 3, 8, 32, 64, (k : Int)] := ⟨_, rfl⟩
    rw [← hopts] at g14
    have hol : opts.length = 7 := by rw [hopts]; rfl
    have hoo : RatesOK opts := fun r hr => by rw [hopts] at hr; simp only [List.mem_cons, List.not_mem_nil, or_false] at hr; omega
    refine yS (by kernel_rfl : opAt F16.o4 4 = some (some 15, .move (.tmp 0), none)) rfl rfl (fun w' hS => val_move rfl) ?_
    refine cS (by kernel_rfl : opAt F16.o4 5 = some (some 16, .call { callee := .value (.func 19), args := #[(.tmp 15), (.const (.int .i64 7))], argTypes := #[29, 3] }, none)) rfl rfl (ent Try.call19 rfl) (next_any (n := 7) hF (by decide) hd (by omega) (by omega)) ?_
    rintro vw5 w5 ⟨m, rfl, hm, hs, hd⟩
    refine ⟨trivial, ?_⟩
    replace hF := hF.st hs
    replace hT := hT.trans hs (by simp)
    replace ho := ho.st hs (by first | decide | (simp <;> omega)) (by first | decide | (simp <;> omega))
    replace g14 := g14.st hs (by first | decide | (simp <;> omega))
    refine iS (e := 3) (by kernel_rfl : opAt F16.o4 6 = some (some 17, .indexAddr 22 (.tmp 14) (.tmp 16), none)) rfl rfl g14 rfl (by kernel_rfl) rfl (by omega) (by omega) ?_
    intro b17 o17 h17
    try simp only [Int.toNat_natCast] at h17
    refine lN (by kernel_rfl : opAt F16.o4 7 = some (some 18, .load 3 (.tmp 17), none)) rfl rfl trivial h17 (by kernel_rfl) rfl rfl ?_
    intro v18 g18
    obtain rfl := rv_int.1 g18
    refine aS (by kernel_rfl : opAt F16.o4 8 = some (some 19, .buildSlice 22 1 #[(0, (.tmp 18))], none)) rfl rfl (a_buildSlice (ys := ([opts[m]'(by omega)] : List Int)) (e := 3) (bytes := 8) hF (by kernel_rfl) rfl (by decide) (by decide) ⟨rfl, ⟨_, rfl, rv_int.2 rfl⟩, trivial⟩) ?_
    rintro v19 w6 ⟨hs, g19, hF⟩
    refine ⟨trivial, ?_⟩
    replace hT := hT.trans hs (by simp)
    replace hd := hd.st hs (by first | decide | (simp <;> omega)) (by first | decide | (simp <;> omega))
    replace ho := ho.st hs (by first | decide | (simp <;> omega)) (by first | decide | (simp <;> omega))
    replace g14 := g14.st hs (by first | decide | (simp <;> omega))
    replace h17 := h17.st hs (by first | decide | (simp <;> omega))
    refine aS (by kernel_rfl : opAt F16.o4 9 = some (some 20, .call { callee := .builtin .append, args := #[(.tmp 11), (.tmp 19)], argTypes := #[22, 22] }, none)) rfl rfl (a_append (e := 3) (bytes := 8) hF (by decide) rfl rfl (by kernel_rfl) (by decide) ho g19 (by simp; omega) (by simp; omega)) ?_
    rintro v20 w7 ⟨Cw7, hs, ho, hF⟩
    refine ⟨trivial, ?_⟩
    replace hT := hT.trans hs (by simp)
    replace hd := hd.st hs (by first | decide | (simp <;> omega)) (by first | decide | (simp <;> omega))
    replace g14 := g14.st hs (by first | decide | (simp <;> omega))
    replace h17 := h17.st hs (by first | decide | (simp <;> omega))
    replace g19 := g19.st hs (by first | decide | (simp <;> omega))
    refine yS (by kernel_rfl : opAt F16.o4 10 = some (some 5, .assign (.tmp 20), none)) rfl rfl (fun w' hS => val_assign rfl) ?_
    refine Sch.nil ?_
    refine run_inBlock ?_
    refine run_plain (id := 5) (ops := F16.o5) [(0, true), (1, true)] (by kernel_rfl) (by kernel_rfl) ?_
    refine yS (by kernel_rfl : opAt F16.o5 0 = some (some 21, .binOp .add 3 (.tmp 9) (.const (.int .i64 1)) 3, none)) rfl rfl (fun w' hS => val_addi rfl rfl (by omega) (by omega)) ?_
    refine yS (by kernel_rfl : opAt F16.o5 1 = some (some 9, .move (.tmp 21), none)) rfl rfl (fun w' hS => val_move rfl) ?_
    refine Sch.nil ?_
    refine kp (sub_cons 0 rfl rfl (sub_cons 5 rfl rfl (sub_cons 8 rfl rfl (sub_cons 9 rfl (eq_int (by simp)) (sub_nil _))))) (next1 (q + 1, rs ++ [opts[m]'(by omega)], v20, Cw7) _ ⟨(by first | omega | (simp only; omega)), (by simp only [List.length_append, List.length_singleton]; omega), (fun r hr => by
        rcases List.mem_append.1 hr with h | h
        · exact hro r h
        · rw [List.mem_singleton.1 h]; exact hoo _ (List.getElem_mem _)), hF, hT, hd, ho⟩ (by first | omega | (simp only; omega)))
  · skip
    refine run_exit (id := 0) (by kernel_rfl) rfl ?_
    refine run_seq (x := F16.c20) (y := F16.c21) (by kernel_rfl) ?_
    refine run_plain (id := 6) (ops := F16.o6) [(0, true), (1, true)] (by kernel_rfl) (by kernel_rfl) ?_
    refine yS (by kernel_rfl : opAt F16.o6 0 = some (some 22, .move (.tmp 5), none)) rfl rfl (fun w' hS => val_move rfl) ?_
    refine yS (by kernel_rfl : opAt F16.o6 1 = some (some 4, .assign (.tmp 22), none)) rfl rfl (fun w' hS => val_assign rfl) ?_
    refine Sch.nil ?_
    refine run_ret1 (by kernel_rfl) Try.func16 Try.results16 rfl ?_
    exact ⟨rs, hT.out2 (by decide), ho.out hT hF0 (Mc_col2 C i) (fun b _ => col2_lt C i (by decide) b) (by omega), hd.out hT hF0 hbc, by omega, hro⟩
namespace F22
noncomputable def c0 : Code := bodyOf Try.f22
noncomputable def c1 : Code := cl c0
noncomputable def o0 : Array Oper := rops c1
noncomputable def c2 : Code := cr c0
noncomputable def c3 : Code := cl c2
noncomputable def o1 : Array Oper := rops c3
noncomputable def c4 : Code := cr c2
noncomputable def c5 : Code := cl c4
noncomputable def c6 : Code := cl c5
noncomputable def o2 : Array Oper := rops c6
noncomputable def c7 : Code := cr c5
noncomputable def c8 : Code := cl c7
noncomputable def c9 : Code := cl c8
noncomputable def c10 : Code := cl c9
noncomputable def o3 : Array Oper := rops c10
noncomputable def c11 : Code := cr c9
noncomputable def c12 : Code := cl c11
noncomputable def c13 : Code := cl c12
noncomputable def c14 : Code := cr c12
noncomputable def c15 : Code := cr c11
noncomputable def c16 : Code := cl c15
noncomputable def c17 : Code := cl c16
noncomputable def c18 : Code := cl c17
noncomputable def o4 : Array Oper := rops c18
noncomputable def c19 : Code := cr c17
noncomputable def c20 : Code := cl c19
noncomputable def o5 : Array Oper := rops c20
noncomputable def c21 : Code := cr c19
noncomputable def c22 : Code := cl c21
noncomputable def c23 : Code := cl c22
noncomputable def c24 : Code := cl c23
noncomputable def c25 : Code := cl c24
noncomputable def o6 : Array Oper := rops c25
noncomputable def c26 : Code := cr c24
noncomputable def c27 : Code := cl c26
noncomputable def c28 : Code := cr c26
noncomputable def c29 : Code := cr c23
noncomputable def c30 : Code := cl c29
noncomputable def c31 : Code := cl c30
noncomputable def c32 : Code := cl c31
noncomputable def o8 : Array Oper := rops c32
noncomputable def c33 : Code := cr c31
noncomputable def c34 : Code := cl c33
noncomputable def o9 : Array Oper := rops c34
noncomputable def c35 : Code := cr c33
noncomputable def c36 : Code := cr c29
noncomputable def o7 : Array Oper := rops c36
noncomputable def c37 : Code := cr c15
noncomputable def o10 : Array Oper := rops c37
noncomputable def c38 : Code := cr c4
noncomputable def c39 : Code := cl c38
noncomputable def o11 : Array Oper := rops c39
noncomputable def c40 : Code := cr c38
end F22
/-- Some numbers. -/
theorem numbers_ok {w₀ : World} {C : Nat → Nat} {i b n : Nat} (hF : Lim w₀ C) (hi : i ≠ 0) (hd : DeckIs w₀ C i b) (hn : n ≤ 5) : Calls Try.prog 22 #[.pointer (some ⟨b, 0, none⟩), .int .i64 (n : Int)] w₀ (Ret fun v w' => ∃ ys : List Int, Stp [i] w₀ C w' C ∧ RV w' (Mc C) ys v ∧ DeckIs w' C i b ∧ ys.length = 2 ^ n ∧ ∀ p (h : p < ys.length), 0 ≤ ys[p] ∧ ys[p] ≤ 29 * (p : Int)) := by
  have hF0 := hF
  have hbc := hd.colour
  replace hd := hd.col2 hi
  have hT := Stp.refl [2, 3, 4, 5, 6, 7, 8, 9] w₀ (col2 C i)
  replace hF := hF.col2 i
  obtain ⟨z, hz, hz32⟩ : ∃ z : Nat, z = 2 ^ n ∧ z ≤ 32 := ⟨_, rfl, Nat.pow_le_pow_right (n := 2) (by decide) hn⟩
  refine calls_start (c := F22.c0) (N := 46) [.pointer (some ⟨b, 0, none⟩), .int .i64 (n : Int)] Try.func22 (by kernel_rfl) (by kernel_rfl) (by kernel_rfl) ?_
  show Run _ _ _ _ [(0, .pointer (some ⟨b, 0, none⟩)), (1, .int .i64 (n : Int))] _ _
  refine run_seq (x := F22.c1) (y := F22.c2) (by kernel_rfl) ?_
  refine run_plain (id := 0) (ops := F22.o0) [(0, true)] (by kernel_rfl) (by kernel_rfl) ?_
  refine yS (by kernel_rfl : opAt F22.o0 0 = some (some 4, .assign (.const (.slice none 0 0)), none)) rfl rfl (fun w' hS => val_assign rfl) ?_
  refine Sch.nil ?_
  refine run_seq (x := F22.c3) (y := F22.c4) (by kernel_rfl) ?_
  refine run_plain (id := 1) (ops := F22.o1) [(0, true), (1, true), (2, false), (3, true)] (by kernel_rfl) (by kernel_rfl) ?_
  refine yS (by kernel_rfl : opAt F22.o1 0 = some (some 8, .move (.tmp 1), none)) rfl rfl (fun w' hS => val_move rfl) ?_
  refine yS (by kernel_rfl : opAt F22.o1 1 = some (some 9, .binOp .shl 3 (.const (.int .i64 1)) (.tmp 8) 3, none)) rfl rfl (fun w' hS => val_shlE (r := (z : Int)) rfl rfl (by omega) (by rw [hz]; exact shl1N (by omega))) ?_
  refine aS (by kernel_rfl : opAt F22.o1 2 = some (some 10, .makeSlice 22 (.tmp 9) (.tmp 9), none)) rfl rfl (a_make (e := 3) (bytes := 8) (x0 := (0 : Int)) (zs := [.int .i64 0]) hF (j := 3) (by decide) (by kernel_rfl) (by kernel_rfl) rfl rfl (by omega) (by omega) (by omega) (fun h M => zero_int)) ?_
  rintro v10 w1 ⟨Cw1, hs, ho, hF⟩
  refine ⟨trivial, ?_⟩
  replace hT := hT.trans hs (by simp)
  replace hd := hd.st hs (by first | decide | (simp <;> omega)) (by first | decide | (simp <;> omega))
  refine yS (by kernel_rfl : opAt F22.o1 3 = some (some 5, .assign (.tmp 10), none)) rfl rfl (fun w' hS => val_assign rfl) ?_
  refine Sch.nil ?_
  refine run_seq (x := F22.c5) (y := F22.c38) (by kernel_rfl) ?_
  refine run_seq (x := F22.c6) (y := F22.c7) (by kernel_rfl) ?_
  refine run_plain (id := 2) (ops := F22.o2) [(0, true), (1, true), (2, true)] (by kernel_rfl) (by kernel_rfl) ?_
  refine yS (by kernel_rfl : opAt F22.o2 0 = some (some 11, .move (.tmp 5), none)) rfl rfl (fun w' hS => val_move rfl) ?_
  refine yS (by kernel_rfl : opAt F22.o2 1 = some (some 12, .call { callee := .builtin .len, args := #[(.tmp 11)], argTypes := #[22] }, none)) rfl rfl (fun w' hS => ho.lenV rfl Try.underlying22 w' ) ?_
  refine yS (by kernel_rfl : opAt F22.o2 2 = some (some 13, .move (.const (.int .i64 0)), none)) rfl rfl (fun w' hS => val_move rfl) ?_
  refine Sch.nil ?_
  refine run_block (x := F22.c8) (id := 0) (by kernel_rfl) ?_
  
  refine run_loop (ι := Nat × (List Int) × (Nat → Nat)) (I := fun x w => x.1 ≤ z ∧ x.2.1.length = z ∧ (∀ p (h : p < x.2.1.length), 0 ≤ x.2.1[p] ∧ x.2.1[p] ≤ 29 * (p : Int)) ∧ Lim w x.2.2 ∧ Stp [2, 3, 4, 5, 6, 7, 8, 9] w₀ (col2 C i) w x.2.2 ∧ DeckIs w x.2.2 2 b ∧ OwnL w x.2.2 3 3 v10 x.2.1) (e := fun x => [(0, .pointer (some ⟨b, 0, none⟩)), (1, .int .i64 (n : Int)), (5, v10), (12, .int .i64 (z : Int)), (13, .int .i64 x.1)]) (m := fun x => z - x.1) (x₀ := (0, List.replicate z 0, Cw1)) (body := F22.c9) (by kernel_rfl) (sub_cons 0 rfl rfl (sub_cons 1 rfl rfl (sub_cons 5 rfl rfl (sub_cons 12 rfl (eq_int (by simp)) (sub_cons 13 rfl rfl (sub_nil _)))))) ?_ ?_
  · exact ⟨Nat.zero_le _, by simp, fun p h => by simp; omega, hF, hT, hd, ho⟩
  intro ⟨m, ys, C1⟩ w2 hI next
  obtain ⟨hm, hyl, hyb, hF, hT, hd, ho⟩ := hI
  try simp only at hm hyl hyb hF hT hd ho
  have next1 := next
  clear next
  show Run _ _ _ _ [(0, .pointer (some ⟨b, 0, none⟩)), (1, .int .i64 (n : Int)), (5, v10), (12, .int .i64 (z : Int)), (13, .int .i64 m)] _ _
  refine run_seq (x := F22.c10) (y := F22.c11) (by kernel_rfl) ?_
  refine run_plain (id := 3) (ops := F22.o3) [(0, true)] (by kernel_rfl) (by kernel_rfl) ?_
  refine yS (by kernel_rfl : opAt F22.o3 0 = some (some 14, .binOp .lss 3 (.tmp 13) (.tmp 12) 3, none)) rfl rfl (fun w' hS => val_lss rfl rfl) ?_
  refine Sch.nil ?_
  refine run_seq (x := F22.c12) (y := F22.c15) (by kernel_rfl) ?_
  refine run_if (x := F22.c13) (y := F22.c14) (o := .tmp 14) (by kernel_rfl) rfl (fun h14 => ?_) (fun h14 => ?_)
  · skip
    have hmz : m < z := by omega
    refine run_skip (by kernel_rfl) ?_
    refine run_seq (x := F22.c16) (y := F22.c37) (by kernel_rfl) ?_
    refine run_block (x := F22.c17) (id := 1) (by kernel_rfl) ?_
    refine run_seq (x := F22.c18) (y := F22.c19) (by kernel_rfl) ?_
    refine run_plain (id := 4) (ops := F22.o4) [(0, true), (1, true)] (by kernel_rfl) (by kernel_rfl) ?_
    refine yS (by kernel_rfl : opAt F22.o4 0 = some (some 15, .move (.tmp 13), none)) rfl rfl (fun w' hS => val_move rfl) ?_
    refine yS (by kernel_rfl : opAt F22.o4 1 = some (some 6, .assign (.tmp 15), none)) rfl rfl (fun w' hS => val_assign rfl) ?_
    refine Sch.nil ?_
    refine run_seq (x := F22.c20) (y := F22.c21) (by kernel_rfl) ?_
    refine run_plain (id := 5) (ops := F22.o5) [(0, true)] (by kernel_rfl) (by kernel_rfl) ?_
    refine yS (by kernel_rfl : opAt F22.o5 0 = some (some 7, .assign (.const (.int .i64 0)), none)) rfl rfl (fun w' hS => val_assign rfl) ?_
    refine Sch.nil ?_
    refine run_block (x := F22.c22) (id := 2) (by kernel_rfl) ?_
    
    refine run_loop (ι := Nat × (List Int) × (Nat → Nat)) (I := fun x w => x.1 ≤ n ∧ x.2.1.length = z ∧ (∀ p (h : p < x.2.1.length), 0 ≤ x.2.1[p] ∧ x.2.1[p] ≤ 29 * (p : Int)) ∧ Lim w x.2.2 ∧ Stp [2, 3, 4, 5, 6, 7, 8, 9] w₀ (col2 C i) w x.2.2 ∧ DeckIs w x.2.2 2 b ∧ OwnL w x.2.2 3 3 v10 x.2.1) (e := fun x => [(0, .pointer (some ⟨b, 0, none⟩)), (1, .int .i64 (n : Int)), (5, v10), (6, .int .i64 m), (7, .int .i64 x.1), (12, .int .i64 (z : Int)), (13, .int .i64 m)]) (m := fun x => n - x.1) (x₀ := (0, ys, C1)) (body := F22.c23) (by kernel_rfl) (sub_cons 0 rfl rfl (sub_cons 1 rfl rfl (sub_cons 5 rfl rfl (sub_cons 6 rfl rfl (sub_cons 7 rfl rfl (sub_cons 12 rfl rfl (sub_cons 13 rfl rfl (sub_nil _)))))))) ?_ ?_
    · exact ⟨Nat.zero_le _, hyl, hyb, hF, hT, hd, ho⟩
    intro ⟨q, ys, C1⟩ w3 hI next
    obtain ⟨hq, hyl, hyb, hF, hT, hd, ho⟩ := hI
    try simp only at hq hyl hyb hF hT hd ho
    have next2 := next
    clear next
    show Run _ _ _ _ [(0, .pointer (some ⟨b, 0, none⟩)), (1, .int .i64 (n : Int)), (5, v10), (6, .int .i64 m), (7, .int .i64 q), (12, .int .i64 (z : Int)), (13, .int .i64 m)] _ _
    refine run_seq (x := F22.c24) (y := F22.c29) (by kernel_rfl) ?_
    refine run_seq (x := F22.c25) (y := F22.c26) (by kernel_rfl) ?_
    refine run_plain (id := 6) (ops := F22.o6) [(0, true), (1, true), (2, true)] (by kernel_rfl) (by kernel_rfl) ?_
    refine yS (by kernel_rfl : opAt F22.o6 0 = some (some 16, .move (.tmp 7), none)) rfl rfl (fun w' hS => val_move rfl) ?_
    refine yS (by kernel_rfl : opAt F22.o6 1 = some (some 17, .move (.tmp 1), none)) rfl rfl (fun w' hS => val_move rfl) ?_
    refine yS (by kernel_rfl : opAt F22.o6 2 = some (some 18, .binOp .lss 3 (.tmp 16) (.tmp 17) 3, none)) rfl rfl (fun w' hS => val_lss rfl rfl) ?_
    refine Sch.nil ?_
    refine run_if (x := F22.c27) (y := F22.c28) (o := .tmp 18) (by kernel_rfl) rfl (fun h18 => ?_) (fun h18 => ?_)
    · skip
      have hqn : q < n := by omega
      obtain ⟨pw, hpw⟩ : ∃ pw : Nat, pw = 2 ^ q := ⟨_, rfl⟩
      have hpz : pw ≤ 32 := by rw [hpw]; exact Nat.pow_le_pow_right (n := 2) (by decide) (show q ≤ 5 by omega)
      refine run_skip (by kernel_rfl) ?_
      refine run_seq (x := F22.c30) (y := F22.c36) (by kernel_rfl) ?_
      refine run_block (x := F22.c31) (id := 3) (by kernel_rfl) ?_
      refine run_seq (x := F22.c32) (y := F22.c33) (by kernel_rfl) ?_
      refine run_plain (id := 8) (ops := F22.o8) [(0, true), (1, true), (2, true), (3, true), (4, true)] (by kernel_rfl) (by kernel_rfl) ?_
      refine yS (by kernel_rfl : opAt F22.o8 0 = some (some 21, .move (.tmp 6), none)) rfl rfl (fun w' hS => val_move rfl) ?_
      refine yS (by kernel_rfl : opAt F22.o8 1 = some (some 22, .move (.tmp 7), none)) rfl rfl (fun w' hS => val_move rfl) ?_
      refine yS (by kernel_rfl : opAt F22.o8 2 = some (some 23, .binOp .shr 3 (.tmp 21) (.tmp 22) 3, none)) rfl rfl (fun w' hS => val_shrE (r := ((m / 2 ^ q : Nat) : Int)) rfl rfl (by omega) (shrN (by omega))) ?_
      refine yS (by kernel_rfl : opAt F22.o8 3 = some (some 24, .binOp .and 3 (.tmp 23) (.const (.int .i64 1)) 3, none)) rfl rfl (fun w' hS => val_andE (r := ((m / 2 ^ q &&& 1 : Nat) : Int)) rfl rfl (bits_and (n := 1) (Nat.lt_of_le_of_lt (Nat.div_le_self _ _) (by omega)) (by decide))) ?_
      refine yS (by kernel_rfl : opAt F22.o8 4 = some (some 25, .binOp .eql 3 (.tmp 24) (.const (.int .i64 1)) 3, none)) rfl rfl (fun w' hS => val_eql rfl rfl) ?_
      refine Sch.nil ?_
      refine run_if (x := F22.c34) (y := F22.c35) (o := .tmp 25) (by kernel_rfl) rfl (fun h25 => ?_) (fun h25 => ?_)
      · skip
        have hbt := (bit_is _ _).1 h25
        obtain ⟨r, hr, hr1, hr2⟩ := bits_andNot (m := m) (n := pw) (by omega) (by omega)
        have hrm : r < m := hr2 (by rw [hpw]; exact and_two_pow_ne hbt)
        have hb1 := hyb m (by omega)
        have hb2 := hyb r (by omega)
        refine run_draw (id := 9) (ops := F22.o9) [2] (C1) [(0, true), (1, true), (2, true), (3, true), (4, true), (5, true), (6, true), (7, true), (8, true), (9, true), (10, true), (11, true), (12, true), (13, true), (14, false), (15, true), (16, true), (17, true), (18, false)] Try_mixed (by kernel_rfl) (by kernel_rfl) (by kernel_rfl) ?_
        intro w4 hs
        replace hF := hF.st hs
        replace hT := hT.trans hs (by simp)
        replace hd := hd.st hs (by first | decide | (simp <;> omega)) (by first | decide | (simp <;> omega))
        replace ho := ho.st hs (by first | decide | (simp <;> omega)) (by first | decide | (simp <;> omega))
        have hR := Stp.refl [2] w4 (C1)
        refine yS (by kernel_rfl : opAt F22.o9 0 = some (some 26, .move (.tmp 5), none)) rfl rfl (fun w' hS => val_move rfl) ?_
        refine yS (by kernel_rfl : opAt F22.o9 1 = some (some 27, .move (.tmp 6), none)) rfl rfl (fun w' hS => val_move rfl) ?_
        refine yS (by kernel_rfl : opAt F22.o9 2 = some (some 28, .move (.tmp 5), none)) rfl rfl (fun w' hS => val_move rfl) ?_
        refine yS (by kernel_rfl : opAt F22.o9 3 = some (some 29, .move (.tmp 6), none)) rfl rfl (fun w' hS => val_move rfl) ?_
        refine oI (e' := 3) (by kernel_rfl : opAt F22.o9 4 = some (some 30, .indexAddr 22 (.tmp 28) (.tmp 29), none)) rfl rfl ho rfl (by kernel_rfl) rfl (by omega) (by omega) ?_
        intro g30 hg30
        try simp only [Int.toNat_natCast]
        refine oS (I := [2]) (by kernel_rfl : opAt F22.o9 5 = some (some 31, .load 3 (.tmp 30), none)) rfl rfl ho hg30 (fun w' hS => ho.stay hg30 hS (by first | decide | simp)) (by omega) (by kernel_rfl) rfl rfl ?_
        intro v31 g31
        try simp only [Int.toNat_natCast] at g31
        obtain rfl := rv_int.1 g31
        refine yS (by kernel_rfl : opAt F22.o9 6 = some (some 32, .move (.tmp 5), none)) rfl rfl (fun w' hS => val_move rfl) ?_
        refine yS (by kernel_rfl : opAt F22.o9 7 = some (some 33, .move (.tmp 6), none)) rfl rfl (fun w' hS => val_move rfl) ?_
        refine yS (by kernel_rfl : opAt F22.o9 8 = some (some 34, .move (.tmp 7), none)) rfl rfl (fun w' hS => val_move rfl) ?_
        refine yS (by kernel_rfl : opAt F22.o9 9 = some (some 35, .binOp .shl 3 (.const (.int .i64 1)) (.tmp 34) 3, none)) rfl rfl (fun w' hS => val_shlE (r := (pw : Int)) rfl rfl (by omega) (by rw [hpw]; exact shl1N (by omega))) ?_
        refine yS (by kernel_rfl : opAt F22.o9 10 = some (some 36, .binOp .andNot 3 (.tmp 33) (.tmp 35) 3, none)) rfl rfl (fun w' hS => val_andNotE (r := (r : Int)) rfl rfl hr) ?_
        refine oI (e' := 3) (by kernel_rfl : opAt F22.o9 11 = some (some 37, .indexAddr 22 (.tmp 32) (.tmp 36), none)) rfl rfl ho rfl (by kernel_rfl) rfl (by omega) (by omega) ?_
        intro g37 hg37
        try simp only [Int.toNat_natCast]
        refine oS (I := [2]) (by kernel_rfl : opAt F22.o9 12 = some (some 38, .load 3 (.tmp 37), none)) rfl rfl ho hg37 (fun w' hS => ho.stay hg37 hS (by first | decide | simp)) (by omega) (by kernel_rfl) rfl rfl ?_
        intro v38 g38
        try simp only [Int.toNat_natCast] at g38
        obtain rfl := rv_int.1 g38
        refine yS (by kernel_rfl : opAt F22.o9 13 = some (some 39, .move (.tmp 0), none)) rfl rfl (fun w' hS => val_move rfl) ?_
        refine cS (by kernel_rfl : opAt F22.o9 14 = some (some 40, .call { callee := .value (.func 19), args := #[(.tmp 39), (.const (.int .i64 30))], argTypes := #[29, 3] }, none)) rfl rfl (ent Try.call19 rfl) (next_any (n := 30) hF (by decide) hd (by omega) (by omega)) ?_
        rintro vw5 w5 ⟨k, rfl, hk, hs, hd⟩
        refine ⟨(hR.trans hs (by simp)).ext, ?_⟩
        replace hF := hF.st hs
        replace hT := hT.trans hs (by simp)
        replace ho := ho.st hs (by first | decide | (simp <;> omega)) (by first | decide | (simp <;> omega))
        replace hR := hR.trans hs (by simp)
        refine yS (by kernel_rfl : opAt F22.o9 15 = some (some 41, .binOp .add 3 (.tmp 38) (.tmp 40) 3, none)) rfl rfl (fun w' hS => val_addi rfl rfl (by omega) (by omega)) ?_
        refine yS (by kernel_rfl : opAt F22.o9 16 = some (some 42, .call { callee := .builtin .max, args := #[(.tmp 31), (.tmp 41)], argTypes := #[3, 3] }, none)) rfl rfl (fun w' hS => val_max rfl rfl Try.underlying3) ?_
        refine oI (e' := 3) (by kernel_rfl : opAt F22.o9 17 = some (some 43, .indexAddr 22 (.tmp 26) (.tmp 27), none)) rfl rfl ho rfl (by kernel_rfl) rfl (by omega) (by omega) ?_
        intro g43 hg43
        try simp only [Int.toNat_natCast]
        refine Sch.free rfl ?_
        refine aN (by kernel_rfl : opAt F22.o9 18 = some (none, .store 3 (.tmp 43) (.tmp 42), none)) rfl (a_storeO ho hg43 (by omega) rfl rfl (by kernel_rfl) (rv_int.2 rfl)) ?_
        rintro _ w6 ⟨rfl, hs, ho⟩
        refine ⟨trivial, ?_⟩
        replace hF := hF.st hs
        replace hT := hT.trans hs (by simp)
        replace hd := hd.st hs (by first | decide | (simp <;> omega)) (by first | decide | (simp <;> omega))
        refine Sch.nil ?_
        refine run_inBlock ?_
        refine run_plain (id := 7) (ops := F22.o7) [(0, true), (1, true), (2, true)] (by kernel_rfl) (by kernel_rfl) ?_
        refine yS (by kernel_rfl : opAt F22.o7 0 = some (some 19, .move (.tmp 7), none)) rfl rfl (fun w' hS => val_move rfl) ?_
        refine yS (by kernel_rfl : opAt F22.o7 1 = some (some 20, .binOp .add 3 (.tmp 19) (.const (.int .i64 1)) 3, none)) rfl rfl (fun w' hS => val_addi rfl rfl (by omega) (by omega)) ?_
        refine yS (by kernel_rfl : opAt F22.o7 2 = some (some 7, .assign (.tmp 20), none)) rfl rfl (fun w' hS => val_assign rfl) ?_
        refine Sch.nil ?_
        refine kp (sub_cons 0 rfl rfl (sub_cons 1 rfl rfl (sub_cons 5 rfl rfl (sub_cons 6 rfl rfl (sub_cons 7 rfl (eq_int (by simp)) (sub_cons 12 rfl rfl (sub_cons 13 rfl rfl (sub_nil _)))))))) (next2 (q + 1, ys.set m (max (ys[m]'(by omega)) (ys[r]'(by omega) + (k : Int))), C1) _ ⟨(by first | omega | (simp only; omega)), (by simp only [List.length_set]; exact hyl), (fun p h => by
            simp only [List.length_set] at h
            simp only [List.getElem_set]
            split
            · rename_i e; subst e; omega
            · exact hyb p h), hF, hT, hd, ho⟩ (by first | omega | (simp only; omega)))
      · skip
        refine run_skip (by kernel_rfl) ?_
        refine run_inBlock ?_
        refine run_plain (id := 7) (ops := F22.o7) [(0, true), (1, true), (2, true)] (by kernel_rfl) (by kernel_rfl) ?_
        refine yS (by kernel_rfl : opAt F22.o7 0 = some (some 19, .move (.tmp 7), none)) rfl rfl (fun w' hS => val_move rfl) ?_
        refine yS (by kernel_rfl : opAt F22.o7 1 = some (some 20, .binOp .add 3 (.tmp 19) (.const (.int .i64 1)) 3, none)) rfl rfl (fun w' hS => val_addi rfl rfl (by omega) (by omega)) ?_
        refine yS (by kernel_rfl : opAt F22.o7 2 = some (some 7, .assign (.tmp 20), none)) rfl rfl (fun w' hS => val_assign rfl) ?_
        refine Sch.nil ?_
        refine kp (sub_cons 0 rfl rfl (sub_cons 1 rfl rfl (sub_cons 5 rfl rfl (sub_cons 6 rfl rfl (sub_cons 7 rfl (eq_int (by simp)) (sub_cons 12 rfl rfl (sub_cons 13 rfl rfl (sub_nil _)))))))) (next2 (q + 1, ys, C1) _ ⟨(by first | omega | (simp only; omega)), (by first | omega | (simp only; omega)), (by first | omega | (simp only; omega)), hF, hT, hd, ho⟩ (by first | omega | (simp only; omega)))
    · skip
      refine run_exit (id := 2) (by kernel_rfl) rfl ?_
      refine run_inBlock ?_
      refine run_plain (id := 10) (ops := F22.o10) [(0, true), (1, true)] (by kernel_rfl) (by kernel_rfl) ?_
      refine yS (by kernel_rfl : opAt F22.o10 0 = some (some 44, .binOp .add 3 (.tmp 13) (.const (.int .i64 1)) 3, none)) rfl rfl (fun w' hS => val_addi rfl rfl (by omega) (by omega)) ?_
      refine yS (by kernel_rfl : opAt F22.o10 1 = some (some 13, .move (.tmp 44), none)) rfl rfl (fun w' hS => val_move rfl) ?_
      refine Sch.nil ?_
      refine kp (sub_cons 0 rfl rfl (sub_cons 1 rfl rfl (sub_cons 5 rfl rfl (sub_cons 12 rfl rfl (sub_cons 13 rfl (eq_int (by simp)) (sub_nil _)))))) (next1 (m + 1, ys, C1) _ ⟨(by first | omega | (simp only; omega)), (by first | omega | (simp only; omega)), (by first | omega | (simp only; omega)), hF, hT, hd, ho⟩ (by first | omega | (simp only; omega)))
  · skip
    refine run_exit (id := 0) (by kernel_rfl) rfl ?_
    refine run_seq (x := F22.c39) (y := F22.c40) (by kernel_rfl) ?_
    refine run_plain (id := 11) (ops := F22.o11) [(0, true), (1, true)] (by kernel_rfl) (by kernel_rfl) ?_
    refine yS (by kernel_rfl : opAt F22.o11 0 = some (some 45, .move (.tmp 5), none)) rfl rfl (fun w' hS => val_move rfl) ?_
    refine yS (by kernel_rfl : opAt F22.o11 1 = some (some 4, .assign (.tmp 45), none)) rfl rfl (fun w' hS => val_assign rfl) ?_
    refine Sch.nil ?_
    refine run_ret1 (by kernel_rfl) Try.func22 Try.results22 rfl ?_
    exact ⟨ys, hT.out2 (by decide), ho.out hT hF0 (Mc_col2 C i) (fun b _ => col2_lt C i (by decide) b) (by omega), hd.out hT hF0 hbc, by rw [hyl, hz], hyb⟩
end Go.Proofs.Ytpmokjccfaakfaa

