/- Steps through functions of the program. -/
import Derived.Test.YtpmokjccfaakfaaKQ5
set_option linter.unusedVariables false
set_option linter.unusedSimpArgs false
set_option maxRecDepth 100000
set_option maxHeartbeats 400000
namespace Go.Proofs.Ytpmokjccfaakfaa
open Go.K Go.K.Rep

namespace F46
noncomputable def c0 : Code := bodyOf Try.f46
noncomputable def c1 : Code := cl c0
noncomputable def c2 : Code := cl c1
noncomputable def o0 : Array Oper := rops c2
noncomputable def c3 : Code := cr c1
noncomputable def c4 : Code := cl c3
noncomputable def c5 : Code := cr c3
noncomputable def c6 : Code := cr c0
noncomputable def c7 : Code := cl c6
noncomputable def c8 : Code := cl c7
noncomputable def o1 : Array Oper := rops c8
noncomputable def c9 : Code := cr c7
noncomputable def c10 : Code := cl c9
noncomputable def c11 : Code := cl c10
noncomputable def o2 : Array Oper := rops c11
noncomputable def c12 : Code := cr c10
noncomputable def c13 : Code := cl c12
noncomputable def o3 : Array Oper := rops c13
noncomputable def c14 : Code := cr c12
noncomputable def c15 : Code := cr c9
noncomputable def c16 : Code := cr c6
noncomputable def c17 : Code := cl c16
noncomputable def c18 : Code := cl c17
noncomputable def o4 : Array Oper := rops c18
noncomputable def c19 : Code := cr c17
noncomputable def c20 : Code := cl c19
noncomputable def c21 : Code := cl c20
noncomputable def c22 : Code := cl c21
noncomputable def o5 : Array Oper := rops c22
noncomputable def c23 : Code := cr c21
noncomputable def c24 : Code := cl c23
noncomputable def c25 : Code := cl c24
noncomputable def c26 : Code := cr c24
noncomputable def c27 : Code := cr c23
noncomputable def c28 : Code := cl c27
noncomputable def c29 : Code := cl c28
noncomputable def c30 : Code := cl c29
noncomputable def o6 : Array Oper := rops c30
noncomputable def c31 : Code := cr c29
noncomputable def c32 : Code := cl c31
noncomputable def o7 : Array Oper := rops c32
noncomputable def c33 : Code := cr c31
noncomputable def c34 : Code := cl c33
noncomputable def c35 : Code := cr c33
noncomputable def c36 : Code := cr c27
noncomputable def o8 : Array Oper := rops c36
noncomputable def c37 : Code := cr c16
noncomputable def o9 : Array Oper := rops c37
end F46
/-- The walk over all sets of atoms. -/
theorem walk_ok {rs : List Int} {S : List Nat} {mask : Nat} {b3 b4 b5 b6 b7 : Nat} (hrs : RatesOK rs) (hrl : rs.length ≤ 10) (hS : ∀ x ∈ S, x < 1024) (hm : mask < 256) (hSl : S.length ≤ 8) :
    ∀ (m i dis : Nat) (p s : Int) (w₀ : World) (C : Nat → Nat) (j : Nat), rs.length = i + m → dis < 2 ^ i → 0 ≤ p → 0 ≤ s → s + p * 64 ^ m ≤ 1152921504606846976 → j ≠ 0 → Lim w₀ C → RA w₀ (Mc C) rs b3 0 →
      RA w₀ (Mc C) (⟨.func (.func 46) #[] #[.pointer (some ⟨b3, 0, none⟩), .pointer (some ⟨b4, 0, none⟩), .pointer (some ⟨b5, 0, none⟩), .pointer (some ⟨b6, 0, none⟩), .pointer (some ⟨b7, 0, none⟩)], rfl⟩ : Fv) b4 0 → RA w₀ (Mc C) (S.map fun n : Nat => (n : Int)) b5 0 → RA w₀ (Mc C) (mask : Int) b6 0 → OwnB w₀ C j b7 (.cells [.int .i64 s].toArray 3) →
      Calls Try.prog 46 #[.int .i64 (i : Int), .int .i64 (dis : Int), .int .i64 p, .pointer (some ⟨b3, 0, none⟩), .pointer (some ⟨b4, 0, none⟩), .pointer (some ⟨b5, 0, none⟩), .pointer (some ⟨b6, 0, none⟩), .pointer (some ⟨b7, 0, none⟩)] w₀ (Ret fun v w' => v = .tuple #[] ∧ Stp [j] w₀ C w' C ∧ OwnB w' C j b7 (.cells [.int .i64 (s + missW (okS S mask) (rs.drop i) i dis p)].toArray 3)) := by
  intro m
  induction m using Nat.strongRecOn
  rename_i m ih
  intro i dis p s w₀ C j hlm hdis hp hs0 hb hj hF h3 h4 h5 h6 hsum
  have hT := Stp.refl [j] w₀ C
  refine calls_start (c := F46.c0) (N := 67) [.int .i64 (i : Int), .int .i64 (dis : Int), .int .i64 p, .pointer (some ⟨b3, 0, none⟩), .pointer (some ⟨b4, 0, none⟩), .pointer (some ⟨b5, 0, none⟩), .pointer (some ⟨b6, 0, none⟩), .pointer (some ⟨b7, 0, none⟩)] Try.func46 (by kernel_rfl) (by kernel_rfl) (by kernel_rfl) ?_
  show Run _ _ _ _ [(0, .int .i64 (i : Int)), (1, .int .i64 (dis : Int)), (2, .int .i64 p), (3, .pointer (some ⟨b3, 0, none⟩)), (4, .pointer (some ⟨b4, 0, none⟩)), (5, .pointer (some ⟨b5, 0, none⟩)), (6, .pointer (some ⟨b6, 0, none⟩)), (7, .pointer (some ⟨b7, 0, none⟩))] _ _
  refine run_seq (x := F46.c1) (y := F46.c6) (by kernel_rfl) ?_
  refine run_seq (x := F46.c2) (y := F46.c3) (by kernel_rfl) ?_
  refine run_plain (id := 0) (ops := F46.o0) [(0, true), (1, true)] (by kernel_rfl) (by kernel_rfl) ?_
  refine yS (by kernel_rfl : opAt F46.o0 0 = some (some 13, .move (.tmp 2), none)) rfl rfl (fun w' hS => val_move rfl) ?_
  refine yS (by kernel_rfl : opAt F46.o0 1 = some (some 14, .binOp .eql 3 (.tmp 13) (.const (.int .i64 0)) 3, none)) rfl rfl (fun w' hS => val_eql rfl rfl) ?_
  refine Sch.nil ?_
  refine run_if (x := F46.c4) (y := F46.c5) (o := .tmp 14) (by kernel_rfl) rfl (fun h14 => ?_) (fun h14 => ?_)
  · skip
    refine run_ret0 (by kernel_rfl) Try.func46 Try.results46 ?_
    subst h14
    refine ⟨rfl, hT, ?_⟩
    rw [missW_zero, Int.add_zero]; exact hsum
  · skip
    refine run_skip (by kernel_rfl) ?_
    refine run_seq (x := F46.c7) (y := F46.c16) (by kernel_rfl) ?_
    refine run_seq (x := F46.c8) (y := F46.c9) (by kernel_rfl) ?_
    refine run_plain (id := 1) (ops := F46.o1) [(0, true), (1, false), (2, true), (3, true)] (by kernel_rfl) (by kernel_rfl) ?_
    refine yS (by kernel_rfl : opAt F46.o1 0 = some (some 15, .move (.tmp 0), none)) rfl rfl (fun w' hS => val_move rfl) ?_
    refine lN (by kernel_rfl : opAt F46.o1 1 = some (some 16, .load 22 (.tmp 3), none)) rfl rfl trivial h3 (by kernel_rfl) rfl rfl ?_
    intro v16 g16
    refine yS (by kernel_rfl : opAt F46.o1 2 = some (some 17, .call { callee := .builtin .len, args := #[(.tmp 16)], argTypes := #[22] }, none)) rfl rfl (fun w' hS => g16.lenV rfl Try.underlying22 w' ) ?_
    refine yS (by kernel_rfl : opAt F46.o1 3 = some (some 18, .binOp .lss 3 (.tmp 15) (.tmp 17) 3, none)) rfl rfl (fun w' hS => val_lss rfl rfl) ?_
    refine Sch.nil ?_
    refine run_if (x := F46.c10) (y := F46.c15) (o := .tmp 18) (by kernel_rfl) rfl (fun h18 => ?_) (fun h18 => ?_)
    · skip
      have hil : i < rs.length := by omega
      obtain ⟨k, rfl⟩ : ∃ k, m = k + 1 := ⟨m - 1, by omega⟩
      have hrr := hrs rs[i] (List.getElem_mem hil)
      have hX := pow64_pos k
      rw [show (64 : Int) ^ (k + 1) = 64 * 64 ^ k from by rw [Int.pow_succ, Int.mul_comm]] at hb
      obtain ⟨q1, q2, q3, q4, q5, q6, q7, q8⟩ := walk_split hs0 hp hrr.1 hrr.2 hX hb
      have hdr : rs.drop i = rs[i] :: rs.drop (i + 1) := List.drop_eq_getElem_cons hil
      have hdl : (rs.drop (i + 1)).length = k := by rw [List.length_drop]; omega
      have hmle := missW_le (okS S mask) (rs.drop (i + 1)) (i + 1) dis (p * (64 - rs[i])) (fun r hr => hrs r (List.mem_of_mem_drop hr)) q1
      have hmge := missW_nonneg (okS S mask) (rs.drop (i + 1)) (i + 1) dis (p * (64 - rs[i])) (fun r hr => hrs r (List.mem_of_mem_drop hr)) q1
      rw [hdl] at hmle
      have hd2 : dis < 2 ^ (i + 1) := Nat.lt_of_lt_of_le hdis (Nat.pow_le_pow_right (by decide) (by omega))
      have hd3 : dis ||| 2 ^ i < 2 ^ (i + 1) := Nat.or_lt_two_pow hd2 (Nat.pow_lt_pow_right (by decide) (by omega))
      have hpi : 2 ^ i ≤ 2 ^ 9 := Nat.pow_le_pow_right (by decide) (by omega)
      refine run_seq (x := F46.c11) (y := F46.c12) (by kernel_rfl) ?_
      refine run_draw (id := 2) (ops := F46.o2) [] (C) [(0, true), (1, true), (2, true), (3, true), (4, true), (5, true), (6, true), (7, true), (8, true), (9, true), (10, true), (11, false)] Try_mixed (by kernel_rfl) (by kernel_rfl) (by kernel_rfl) ?_
      intro w1 hs
      replace hF := hF.st hs
      replace hT := hT.trans hs (by simp)
      replace h3 := h3.st hs (by first | decide | (simp <;> omega))
      replace h4 := h4.st hs (by first | decide | (simp <;> omega))
      replace h5 := h5.st hs (by first | decide | (simp <;> omega))
      replace h6 := h6.st hs (by first | decide | (simp <;> omega))
      replace hsum := hsum.st hs (by first | decide | (simp <;> omega))
      replace g16 := g16.st hs (by first | decide | (simp <;> omega))
      have hR := Stp.refl [] w1 (C)
      refine lS (by kernel_rfl : opAt F46.o2 0 = some (some 19, .load 72 (.tmp 4), none)) rfl rfl (fun w' hS => h4.stay hS (by decide)) h4 (by kernel_rfl) rfl rfl ?_
      intro v19 g19
      obtain rfl := rv_fv.1 g19
      refine yS (by kernel_rfl : opAt F46.o2 1 = some (some 20, .move (.tmp 0), none)) rfl rfl (fun w' hS => val_move rfl) ?_
      refine yS (by kernel_rfl : opAt F46.o2 2 = some (some 21, .binOp .add 3 (.tmp 20) (.const (.int .i64 1)) 3, none)) rfl rfl (fun w' hS => val_is (val_addi rfl rfl (by omega) (by omega)) (congrArg (Value.int .i64) (show (i : Int) + 1 = ((i + 1 : Nat) : Int) from by omega))) ?_
      refine yS (by kernel_rfl : opAt F46.o2 3 = some (some 22, .move (.tmp 1), none)) rfl rfl (fun w' hS => val_move rfl) ?_
      refine yS (by kernel_rfl : opAt F46.o2 4 = some (some 23, .move (.tmp 2), none)) rfl rfl (fun w' hS => val_move rfl) ?_
      refine lS (by kernel_rfl : opAt F46.o2 5 = some (some 24, .load 22 (.tmp 3), none)) rfl rfl (fun w' hS => h3.stay hS (by decide)) h3 (by kernel_rfl) rfl rfl ?_
      intro v24 g24
      refine yS (by kernel_rfl : opAt F46.o2 6 = some (some 25, .move (.tmp 0), none)) rfl rfl (fun w' hS => val_move rfl) ?_
      refine iS (e := 3) (by kernel_rfl : opAt F46.o2 7 = some (some 26, .indexAddr 22 (.tmp 24) (.tmp 25), none)) rfl rfl g24 rfl (by kernel_rfl) rfl (by omega) (by omega) ?_
      intro b26 o26 h26
      try simp only [Int.toNat_natCast] at h26
      refine lS (by kernel_rfl : opAt F46.o2 8 = some (some 27, .load 3 (.tmp 26), none)) rfl rfl (fun w' hS => h26.stay hS (by decide)) h26 (by kernel_rfl) rfl rfl ?_
      intro v27 g27
      obtain rfl := rv_int.1 g27
      refine yS (by kernel_rfl : opAt F46.o2 9 = some (some 28, .binOp .sub 3 (.const (.int .i64 64)) (.tmp 27) 3, none)) rfl rfl (fun w' hS => val_subi rfl rfl (by omega) (by omega)) ?_
      refine yS (by kernel_rfl : opAt F46.o2 10 = some (some 29, .binOp .mul 3 (.tmp 23) (.tmp 28) 3, none)) rfl rfl (fun w' hS => val_muli rfl rfl (by omega) (by omega)) ?_
      refine Sch.free rfl ?_
      refine cS (by kernel_rfl : opAt F46.o2 11 = some (some 30, .call { callee := .value (.tmp 19), args := #[(.tmp 21), (.tmp 22), (.tmp 29)], argTypes := #[3, 3, 3] }, none)) rfl rfl (enters_func (cap := #[.pointer (some ⟨b3, 0, none⟩), .pointer (some ⟨b4, 0, none⟩), .pointer (some ⟨b5, 0, none⟩), .pointer (some ⟨b6, 0, none⟩), .pointer (some ⟨b7, 0, none⟩)]) (fun args w => Try.call46 args w) rfl rfl) (ih k (by omega) (i + 1) dis (p * (64 - rs[i])) s _ _ _ (by omega) hd2 q1 hs0 q5 hj hF h3 h4 h5 h6 hsum) ?_
      rintro vw2 w2 ⟨rfl, hs, hsum⟩
      refine ⟨trivial, ?_⟩
      replace hF := hF.st hs
      replace hT := hT.trans hs (by simp <;> omega)
      replace h3 := h3.st hs (by first | decide | (simp <;> omega))
      replace h4 := h4.st hs (by first | decide | (simp <;> omega))
      replace h5 := h5.st hs (by first | decide | (simp <;> omega))
      replace h6 := h6.st hs (by first | decide | (simp <;> omega))
      replace g16 := g16.st hs (by first | decide | (simp <;> omega))
      replace g19 := g19.st hs (by first | decide | (simp <;> omega))
      replace g24 := g24.st hs (by first | decide | (simp <;> omega))
      replace h26 := h26.st hs (by first | decide | (simp <;> omega))
      refine Sch.nil ?_
      refine run_seq (x := F46.c13) (y := F46.c14) (by kernel_rfl) ?_
      refine run_draw (id := 3) (ops := F46.o3) [] (C) [(0, true), (1, true), (2, true), (3, true), (4, true), (5, true), (6, true), (7, true), (8, true), (9, true), (10, true), (11, true), (12, true), (13, false)] Try_mixed (by kernel_rfl) (by kernel_rfl) (by kernel_rfl) ?_
      intro w3 hs
      replace hF := hF.st hs
      replace hT := hT.trans hs (by simp)
      replace h3 := h3.st hs (by first | decide | (simp <;> omega))
      replace h4 := h4.st hs (by first | decide | (simp <;> omega))
      replace h5 := h5.st hs (by first | decide | (simp <;> omega))
      replace h6 := h6.st hs (by first | decide | (simp <;> omega))
      replace hsum := hsum.st hs (by first | decide | (simp <;> omega))
      replace g16 := g16.st hs (by first | decide | (simp <;> omega))
      replace g19 := g19.st hs (by first | decide | (simp <;> omega))
      replace g24 := g24.st hs (by first | decide | (simp <;> omega))
      replace h26 := h26.st hs (by first | decide | (simp <;> omega))
      have hR := Stp.refl [] w3 (C)
      refine lS (by kernel_rfl : opAt F46.o3 0 = some (some 31, .load 72 (.tmp 4), none)) rfl rfl (fun w' hS => h4.stay hS (by decide)) h4 (by kernel_rfl) rfl rfl ?_
      intro v31 g31
      obtain rfl := rv_fv.1 g31
      refine yS (by kernel_rfl : opAt F46.o3 1 = some (some 32, .move (.tmp 0), none)) rfl rfl (fun w' hS => val_move rfl) ?_
      refine yS (by kernel_rfl : opAt F46.o3 2 = some (some 33, .binOp .add 3 (.tmp 32) (.const (.int .i64 1)) 3, none)) rfl rfl (fun w' hS => val_is (val_addi rfl rfl (by omega) (by omega)) (congrArg (Value.int .i64) (show (i : Int) + 1 = ((i + 1 : Nat) : Int) from by omega))) ?_
      refine yS (by kernel_rfl : opAt F46.o3 3 = some (some 34, .move (.tmp 1), none)) rfl rfl (fun w' hS => val_move rfl) ?_
      refine yS (by kernel_rfl : opAt F46.o3 4 = some (some 35, .move (.tmp 0), none)) rfl rfl (fun w' hS => val_move rfl) ?_
      refine yS (by kernel_rfl : opAt F46.o3 5 = some (some 36, .binOp .shl 3 (.const (.int .i64 1)) (.tmp 35) 3, none)) rfl rfl (fun w' hS => val_shlE (r := ((2 ^ i : Nat) : Int)) rfl rfl (by omega) (shl1N (by omega))) ?_
      refine yS (by kernel_rfl : opAt F46.o3 6 = some (some 37, .binOp .or 3 (.tmp 34) (.tmp 36) 3, none)) rfl rfl (fun w' hS => val_orE (r := ((dis ||| 2 ^ i : Nat) : Int)) rfl rfl (bits_or (by omega) (by omega))) ?_
      refine yS (by kernel_rfl : opAt F46.o3 7 = some (some 38, .move (.tmp 2), none)) rfl rfl (fun w' hS => val_move rfl) ?_
      refine lS (by kernel_rfl : opAt F46.o3 8 = some (some 39, .load 22 (.tmp 3), none)) rfl rfl (fun w' hS => h3.stay hS (by decide)) h3 (by kernel_rfl) rfl rfl ?_
      intro v39 g39
      refine yS (by kernel_rfl : opAt F46.o3 9 = some (some 40, .move (.tmp 0), none)) rfl rfl (fun w' hS => val_move rfl) ?_
      refine iS (e := 3) (by kernel_rfl : opAt F46.o3 10 = some (some 41, .indexAddr 22 (.tmp 39) (.tmp 40), none)) rfl rfl g39 rfl (by kernel_rfl) rfl (by omega) (by omega) ?_
      intro b41 o41 h41
      try simp only [Int.toNat_natCast] at h41
      refine lS (by kernel_rfl : opAt F46.o3 11 = some (some 42, .load 3 (.tmp 41), none)) rfl rfl (fun w' hS => h41.stay hS (by decide)) h41 (by kernel_rfl) rfl rfl ?_
      intro v42 g42
      obtain rfl := rv_int.1 g42
      refine yS (by kernel_rfl : opAt F46.o3 12 = some (some 43, .binOp .mul 3 (.tmp 38) (.tmp 42) 3, none)) rfl rfl (fun w' hS => val_muli rfl rfl (by omega) (by omega)) ?_
      refine Sch.free rfl ?_
      refine cS (by kernel_rfl : opAt F46.o3 13 = some (some 44, .call { callee := .value (.tmp 31), args := #[(.tmp 33), (.tmp 37), (.tmp 43)], argTypes := #[3, 3, 3] }, none)) rfl rfl (enters_func (cap := #[.pointer (some ⟨b3, 0, none⟩), .pointer (some ⟨b4, 0, none⟩), .pointer (some ⟨b5, 0, none⟩), .pointer (some ⟨b6, 0, none⟩), .pointer (some ⟨b7, 0, none⟩)]) (fun args w => Try.call46 args w) rfl rfl) (ih k (by omega) (i + 1) (dis ||| 2 ^ i) (p * rs[i]) _ _ _ _ (by omega) hd3 q2 (by omega) (q6 _ hmle) hj hF h3 h4 h5 h6 hsum) ?_
      rintro vw4 w4 ⟨rfl, hs, hsum⟩
      refine ⟨trivial, ?_⟩
      replace hF := hF.st hs
      replace hT := hT.trans hs (by simp <;> omega)
      replace h3 := h3.st hs (by first | decide | (simp <;> omega))
      replace h4 := h4.st hs (by first | decide | (simp <;> omega))
      replace h5 := h5.st hs (by first | decide | (simp <;> omega))
      replace h6 := h6.st hs (by first | decide | (simp <;> omega))
      replace g16 := g16.st hs (by first | decide | (simp <;> omega))
      replace g19 := g19.st hs (by first | decide | (simp <;> omega))
      replace g24 := g24.st hs (by first | decide | (simp <;> omega))
      replace h26 := h26.st hs (by first | decide | (simp <;> omega))
      replace g31 := g31.st hs (by first | decide | (simp <;> omega))
      replace g39 := g39.st hs (by first | decide | (simp <;> omega))
      replace h41 := h41.st hs (by first | decide | (simp <;> omega))
      refine Sch.nil ?_
      refine run_ret0 (by kernel_rfl) Try.func46 Try.results46 ?_
      refine ⟨rfl, hT, ?_⟩
      rw [hdr]; unfold missW; rw [← Int.add_assoc]; exact hsum
    · skip
      obtain rfl : m = 0 := by omega
      have hil : rs.length = i := by omega
      have hdr : rs.drop i = [] := List.drop_eq_nil_of_le (by omega)
      have hpi : 2 ^ i ≤ 2 ^ 10 := Nat.pow_le_pow_right (by decide) (by omega)
      rw [Int.pow_zero, Int.mul_one] at hb
      refine run_skip (by kernel_rfl) ?_
      refine run_seq (x := F46.c17) (y := F46.c37) (by kernel_rfl) ?_
      refine run_seq (x := F46.c18) (y := F46.c19) (by kernel_rfl) ?_
      refine run_plain (id := 4) (ops := F46.o4) [(0, false), (1, true), (2, true)] (by kernel_rfl) (by kernel_rfl) ?_
      refine lN (by kernel_rfl : opAt F46.o4 0 = some (some 45, .load 22 (.tmp 5), none)) rfl rfl trivial h5 (by kernel_rfl) rfl rfl ?_
      intro v45 g45
      refine yS (by kernel_rfl : opAt F46.o4 1 = some (some 46, .call { callee := .builtin .len, args := #[(.tmp 45)], argTypes := #[22] }, none)) rfl rfl (fun w' hS => g45.lenV rfl Try.underlying22 w' ) ?_
      refine yS (by kernel_rfl : opAt F46.o4 2 = some (some 47, .move (.const (.int .i64 0)), none)) rfl rfl (fun w' hS => val_move rfl) ?_
      refine Sch.nil ?_
      refine run_block (x := F46.c20) (id := 0) (by kernel_rfl) ?_
      
      refine run_loop (ι := Nat) (I := fun x w => x ≤ S.length ∧ (∀ q, q < x → mask.testBit q = true → S.getD q 0 &&& dis ≠ 0) ∧ Lim w C ∧ Stp [j] w₀ C w C ∧ RA w (Mc C) (mask : Int) b6 0 ∧ OwnB w C j b7 (.cells [.int .i64 (s)].toArray 3) ∧ RV w (Mc C) (S.map fun n : Nat => (n : Int)) v45) (e := fun x => [(1, .int .i64 (dis : Int)), (2, .int .i64 p), (6, .pointer (some ⟨b6, 0, none⟩)), (7, .pointer (some ⟨b7, 0, none⟩)), (45, v45), (46, .int .i64 (S.length : Int)), (47, .int .i64 x)]) (m := fun x => S.length - x) (x₀ := 0) (body := F46.c21) (by kernel_rfl) (sub_cons 1 rfl rfl (sub_cons 2 rfl rfl (sub_cons 6 rfl rfl (sub_cons 7 rfl rfl (sub_cons 45 rfl rfl (sub_cons 46 rfl (eq_int (by simp)) (sub_cons 47 rfl rfl (sub_nil _)))))))) ?_ ?_
      · exact ⟨Nat.zero_le _, fun q hq => by omega, hF, hT, h6, hsum, g45⟩
      intro k w5 hI next
      obtain ⟨hk, h0, hF, hT, h6, hsum, g45⟩ := hI
      try simp only at hk h0 hF hT h6 hsum g45
      have next1 := next
      clear next
      show Run _ _ _ _ [(1, .int .i64 (dis : Int)), (2, .int .i64 p), (6, .pointer (some ⟨b6, 0, none⟩)), (7, .pointer (some ⟨b7, 0, none⟩)), (45, v45), (46, .int .i64 (S.length : Int)), (47, .int .i64 k)] _ _
      refine run_seq (x := F46.c22) (y := F46.c23) (by kernel_rfl) ?_
      refine run_plain (id := 5) (ops := F46.o5) [(0, true)] (by kernel_rfl) (by kernel_rfl) ?_
      refine yS (by kernel_rfl : opAt F46.o5 0 = some (some 48, .binOp .lss 3 (.tmp 47) (.tmp 46) 3, none)) rfl rfl (fun w' hS => val_lss rfl rfl) ?_
      refine Sch.nil ?_
      refine run_seq (x := F46.c24) (y := F46.c27) (by kernel_rfl) ?_
      refine run_if (x := F46.c25) (y := F46.c26) (o := .tmp 48) (by kernel_rfl) rfl (fun h48 => ?_) (fun h48 => ?_)
      · skip
        have hkl : k < S.length := by omega
        have hkm : k < (S.map fun n : Nat => (n : Int)).length := by rw [List.length_map]; exact hkl
        have hSk := hS _ (List.getElem_mem hkl)
        have hgd : S.getD k 0 = S[k] := by simp [List.getD_eq_getElem?_getD, hkl]
        refine run_skip (by kernel_rfl) ?_
        refine run_seq (x := F46.c28) (y := F46.c36) (by kernel_rfl) ?_
        refine run_block (x := F46.c29) (id := 1) (by kernel_rfl) ?_
        refine run_seq (x := F46.c30) (y := F46.c31) (by kernel_rfl) ?_
        refine run_plain (id := 6) (ops := F46.o6) [(0, true), (1, true), (2, false), (3, true), (4, true)] (by kernel_rfl) (by kernel_rfl) ?_
        refine yS (by kernel_rfl : opAt F46.o6 0 = some (some 49, .move (.tmp 47), none)) rfl rfl (fun w' hS => val_move rfl) ?_
        refine iS (e := 3) (by kernel_rfl : opAt F46.o6 1 = some (some 50, .indexAddr 22 (.tmp 45) (.tmp 47), none)) rfl rfl g45 rfl (by kernel_rfl) rfl (by omega) (by omega) ?_
        intro b50 o50 h50
        try simp only [Int.toNat_natCast] at h50
        refine lN (by kernel_rfl : opAt F46.o6 2 = some (some 51, .load 3 (.tmp 50), none)) rfl rfl trivial h50 (by kernel_rfl) rfl rfl ?_
        intro v51 g51
        obtain rfl := rv_int.1 g51
        rw [List.getElem_map]
        refine yS (by kernel_rfl : opAt F46.o6 3 = some (some 11, .assign (.tmp 49), none)) rfl rfl (fun w' hS => val_assign rfl) ?_
        refine yS (by kernel_rfl : opAt F46.o6 4 = some (some 12, .assign (.tmp 51), none)) rfl rfl (fun w' hS => val_assign rfl) ?_
        refine Sch.nil ?_
        refine run_seq (x := F46.c32) (y := F46.c33) (by kernel_rfl) ?_
        refine run_cut 62 (decide (mask.testBit k = true ∧ S[k] &&& dis = 0)) (C) ?_ ?_
        · intro hcut
          by_cases hA : mask.testBit k = true
          · skip
            refine run_plain (id := 7) (ops := F46.o7) [(0, false), (1, true), (2, true), (3, true), (4, true), (5, true), (6, true), (7, true), (8, true), (9, true), (10, true)] (by kernel_rfl) (by kernel_rfl) ?_
            refine lN (by kernel_rfl : opAt F46.o7 0 = some (some 52, .load 3 (.tmp 6), none)) rfl rfl trivial h6 (by kernel_rfl) rfl rfl ?_
            intro v52 g52
            obtain rfl := rv_int.1 g52
            refine yS (by kernel_rfl : opAt F46.o7 1 = some (some 53, .move (.tmp 11), none)) rfl rfl (fun w' hS => val_move rfl) ?_
            refine yS (by kernel_rfl : opAt F46.o7 2 = some (some 54, .binOp .shr 3 (.tmp 52) (.tmp 53) 3, none)) rfl rfl (fun w' hS => val_shrE (r := ((mask / 2 ^ k : Nat) : Int)) rfl rfl (by omega) (shrN (by omega))) ?_
            refine yS (by kernel_rfl : opAt F46.o7 3 = some (some 55, .binOp .and 3 (.tmp 54) (.const (.int .i64 1)) 3, none)) rfl rfl (fun w' hS => val_andE (r := ((mask / 2 ^ k &&& 1 : Nat) : Int)) rfl rfl (bits_and (n := 1) (Nat.lt_of_le_of_lt (Nat.div_le_self _ _) (by omega)) (by decide))) ?_
            refine yS (by kernel_rfl : opAt F46.o7 4 = some (some 56, .binOp .eql 3 (.tmp 55) (.const (.int .i64 1)) 3, none)) rfl rfl (fun w' hS => val_T (val_eql rfl rfl) ((bit_is _ _).2 hA)) ?_
            refine yS (by kernel_rfl : opAt F46.o7 5 = some (some 57, .move (.tmp 56), none)) rfl rfl (fun w' hS => val_move rfl) ?_
            refine yS (by kernel_rfl : opAt F46.o7 6 = some (some 58, .move (.tmp 12), (some (5, true)))) rfl rfl (fun w' hS => val_move rfl) ?_
            refine yS (by kernel_rfl : opAt F46.o7 7 = some (some 59, .move (.tmp 1), (some (5, true)))) rfl rfl (fun w' hS => val_move rfl) ?_
            refine yS (by kernel_rfl : opAt F46.o7 8 = some (some 60, .binOp .and 3 (.tmp 58) (.tmp 59) 3, (some (5, true)))) rfl rfl (fun w' hS => val_andE (r := ((S[k] &&& dis : Nat) : Int)) rfl rfl (bits_and (by omega) (by omega))) ?_
            refine yS (by kernel_rfl : opAt F46.o7 9 = some (some 61, .binOp .eql 3 (.tmp 60) (.const (.int .i64 0)) 3, (some (5, true)))) rfl rfl (fun w' hS => val_eql rfl rfl) ?_
            refine yS (by kernel_rfl : opAt F46.o7 10 = some (some 62, .pick (.tmp 57) (.tmp 61) (.const (.bool false)), none)) rfl rfl (fun w' hS => val_pick_t rfl rfl) ?_
            exact Sch.nil (hcut _ _ _ (Stp.refl _ _ _) rfl (by congr 1; apply decide_eq_decide.2; simp only [hA, true_and]; omega) (sub_skip rfl (sub_skip rfl (sub_skip rfl (sub_skip rfl (sub_skip rfl (sub_skip rfl (sub_skip rfl (sub_skip rfl (sub_skip rfl (sub_skip rfl (sub_skip rfl (Sub.refl _)))))))))))))
          · skip
            refine run_plain (id := 7) (ops := F46.o7) [(0, false), (1, true), (2, true), (3, true), (4, true), (5, true), (6, true), (7, true), (8, true), (9, true), (10, true)] (by kernel_rfl) (by kernel_rfl) ?_
            refine lN (by kernel_rfl : opAt F46.o7 0 = some (some 52, .load 3 (.tmp 6), none)) rfl rfl trivial h6 (by kernel_rfl) rfl rfl ?_
            intro v52 g52
            obtain rfl := rv_int.1 g52
            refine yS (by kernel_rfl : opAt F46.o7 1 = some (some 53, .move (.tmp 11), none)) rfl rfl (fun w' hS => val_move rfl) ?_
            refine yS (by kernel_rfl : opAt F46.o7 2 = some (some 54, .binOp .shr 3 (.tmp 52) (.tmp 53) 3, none)) rfl rfl (fun w' hS => val_shrE (r := ((mask / 2 ^ k : Nat) : Int)) rfl rfl (by omega) (shrN (by omega))) ?_
            refine yS (by kernel_rfl : opAt F46.o7 3 = some (some 55, .binOp .and 3 (.tmp 54) (.const (.int .i64 1)) 3, none)) rfl rfl (fun w' hS => val_andE (r := ((mask / 2 ^ k &&& 1 : Nat) : Int)) rfl rfl (bits_and (n := 1) (Nat.lt_of_le_of_lt (Nat.div_le_self _ _) (by omega)) (by decide))) ?_
            refine yS (by kernel_rfl : opAt F46.o7 4 = some (some 56, .binOp .eql 3 (.tmp 55) (.const (.int .i64 1)) 3, none)) rfl rfl (fun w' hS => val_F (val_eql rfl rfl) (fun e => hA ((bit_is _ _).1 e))) ?_
            refine yS (by kernel_rfl : opAt F46.o7 5 = some (some 57, .move (.tmp 56), none)) rfl rfl (fun w' hS => val_move rfl) ?_
            refine pS (by kernel_rfl : opAt F46.o7 6 = some (some 58, .move (.tmp 12), (some (5, true)))) rfl rfl ?_
            refine pS (by kernel_rfl : opAt F46.o7 7 = some (some 59, .move (.tmp 1), (some (5, true)))) rfl rfl ?_
            refine pS (by kernel_rfl : opAt F46.o7 8 = some (some 60, .binOp .and 3 (.tmp 58) (.tmp 59) 3, (some (5, true)))) rfl rfl ?_
            refine pS (by kernel_rfl : opAt F46.o7 9 = some (some 61, .binOp .eql 3 (.tmp 60) (.const (.int .i64 0)) 3, (some (5, true)))) rfl rfl ?_
            refine yS (by kernel_rfl : opAt F46.o7 10 = some (some 62, .pick (.tmp 57) (.tmp 61) (.const (.bool false)), none)) rfl rfl (fun w' hS => val_pick_f rfl rfl) ?_
            exact Sch.nil (hcut _ _ _ (Stp.refl _ _ _) rfl (by rw [decide_eq_false (fun e => hA e.1)]) (sub_skip rfl (sub_skip rfl (sub_skip rfl (sub_skip rfl (sub_skip rfl (sub_skip rfl (sub_skip rfl (sub_skip rfl (sub_skip rfl (sub_skip rfl (sub_skip rfl (Sub.refl _)))))))))))))
        intro w6 hs
        replace hF := hF.st hs
        replace hT := hT.trans hs (by simp)
        replace h6 := h6.st hs (by first | decide | (simp <;> omega))
        replace hsum := hsum.st hs (by first | decide | (simp <;> omega))
        replace g45 := g45.st hs (by first | decide | (simp <;> omega))
        replace h50 := h50.st hs (by first | decide | (simp <;> omega))
        refine run_if (x := F46.c34) (y := F46.c35) (o := .tmp 62) (by kernel_rfl) rfl (fun h62 => ?_) (fun h62 => ?_)
        · skip
          refine run_ret0 (by kernel_rfl) Try.func46 Try.results46 ?_
          have hok : okS S mask dis = false := by
            apply Bool.eq_false_iff.2; intro e; exact okS_iff.1 e k hkl h62.1 (by rw [hgd]; exact h62.2)
          refine ⟨rfl, hT, ?_⟩
          rw [hdr]; unfold missW; rw [hok, if_neg (by decide), Int.add_zero]; exact hsum
        · skip
          refine run_skip (by kernel_rfl) ?_
          refine run_inBlock ?_
          refine run_plain (id := 8) (ops := F46.o8) [(0, true), (1, true)] (by kernel_rfl) (by kernel_rfl) ?_
          refine yS (by kernel_rfl : opAt F46.o8 0 = some (some 63, .binOp .add 3 (.tmp 47) (.const (.int .i64 1)) 3, none)) rfl rfl (fun w' hS => val_addi rfl rfl (by omega) (by omega)) ?_
          refine yS (by kernel_rfl : opAt F46.o8 1 = some (some 47, .move (.tmp 63), none)) rfl rfl (fun w' hS => val_move rfl) ?_
          refine Sch.nil ?_
          refine kp (sub_cons 1 rfl rfl (sub_cons 2 rfl rfl (sub_cons 6 rfl rfl (sub_cons 7 rfl rfl (sub_cons 45 rfl rfl (sub_cons 46 rfl rfl (sub_cons 47 rfl (eq_int (by simp)) (sub_nil _)))))))) (next1 (k + 1) _ ⟨(by first | omega | (simp only; omega)), (fun q hq hm => by
              by_cases e : q = k
              · subst e; rw [hgd]; exact fun e2 => h62 ⟨hm, e2⟩
              · exact h0 q (by omega) hm), hF, hT, h6, hsum, g45⟩ (by first | omega | (simp only; omega)))
      · skip
        have hkl : k = S.length := by omega
        have hok : okS S mask dis = true := okS_iff.2 (fun q hq hm => h0 q (by omega) hm)
        refine run_exit (id := 0) (by kernel_rfl) rfl ?_
        refine run_plain (id := 9) (ops := F46.o9) [(0, false), (1, true), (2, true), (3, false)] (by kernel_rfl) (by kernel_rfl) ?_
        refine nS (by kernel_rfl : opAt F46.o9 0 = some (some 64, .load 3 (.tmp 7), none)) rfl rfl trivial (val_loadOwn hsum.at_ (by kernel_rfl) rfl rfl) ?_
        refine yS (by kernel_rfl : opAt F46.o9 1 = some (some 65, .move (.tmp 2), none)) rfl rfl (fun w' hS => val_move rfl) ?_
        refine yS (by kernel_rfl : opAt F46.o9 2 = some (some 66, .binOp .add 3 (.tmp 64) (.tmp 65) 3, none)) rfl rfl (fun w' hS => val_addi rfl rfl (by omega) (by omega)) ?_
        refine aN (by kernel_rfl : opAt F46.o9 3 = some (none, .store 3 (.tmp 7) (.tmp 66), none)) rfl (a_store1 rfl rfl (by kernel_rfl) rfl rfl hsum (by simp)) ?_
        rintro _ w7 ⟨rfl, hs, hsum⟩
        refine ⟨trivial, ?_⟩
        replace hF := hF.st hs
        replace hT := hT.trans hs (by simp <;> omega)
        replace h6 := h6.st hs (by first | decide | (simp <;> omega))
        replace g45 := g45.st hs (by first | decide | (simp <;> omega))
        refine Sch.nil ?_
        refine run_end0 Try.func46 rfl ?_
        refine ⟨rfl, hT, ?_⟩
        rw [hdr]; unfold missW; rw [hok, if_pos rfl]; exact hsum
end Go.Proofs.Ytpmokjccfaakfaa

