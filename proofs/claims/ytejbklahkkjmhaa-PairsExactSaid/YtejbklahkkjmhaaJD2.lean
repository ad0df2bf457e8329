/- Steps through functions of the program. -/
import Derived.Test.YtejbklahkkjmhaaJD1
import Derived.Test.YtejbklahkkjmhaaL1
set_option linter.unusedVariables false
set_option linter.unusedSimpArgs false
set_option maxRecDepth 100000
set_option maxHeartbeats 400000
namespace Go.Proofs.Ytejbklahkkjmhaa
open Go.K Go.K.Rep

namespace F17
noncomputable def c0 : Code := bodyOf Try.f17
noncomputable def c1 : Code := cl c0
noncomputable def o0 : Array Oper := rops c1
noncomputable def c2 : Code := cr c0
noncomputable def c3 : Code := cl c2
noncomputable def o1 : Array Oper := rops c3
noncomputable def c4 : Code := cr c2
noncomputable def c5 : Code := cl c4
noncomputable def o2 : Array Oper := rops c5
noncomputable def c6 : Code := cr c4
noncomputable def c7 : Code := cl c6
noncomputable def c8 : Code := cl c7
noncomputable def o3 : Array Oper := rops c8
noncomputable def c9 : Code := cr c7
noncomputable def c10 : Code := cl c9
noncomputable def c11 : Code := cl c10
noncomputable def c12 : Code := cl c11
noncomputable def c13 : Code := cl c12
noncomputable def o4 : Array Oper := rops c13
noncomputable def c14 : Code := cr c12
noncomputable def c15 : Code := cl c14
noncomputable def c16 : Code := cr c14
noncomputable def c17 : Code := cr c11
noncomputable def c18 : Code := cl c17
noncomputable def c19 : Code := cl c18
noncomputable def o6 : Array Oper := rops c19
noncomputable def c20 : Code := cr c17
noncomputable def o5 : Array Oper := rops c20
noncomputable def c21 : Code := cr c6
noncomputable def c22 : Code := cl c21
noncomputable def c23 : Code := cl c22
noncomputable def o7 : Array Oper := rops c23
noncomputable def c24 : Code := cr c22
noncomputable def c25 : Code := cl c24
noncomputable def c26 : Code := cl c25
noncomputable def c27 : Code := cl c26
noncomputable def c28 : Code := cl c27
noncomputable def o8 : Array Oper := rops c28
noncomputable def c29 : Code := cr c27
noncomputable def c30 : Code := cl c29
noncomputable def c31 : Code := cr c29
noncomputable def c32 : Code := cr c26
noncomputable def c33 : Code := cl c32
noncomputable def c34 : Code := cl c33
noncomputable def c35 : Code := cl c34
noncomputable def o10 : Array Oper := rops c35
noncomputable def c36 : Code := cr c34
noncomputable def c37 : Code := cl c36
noncomputable def o11 : Array Oper := rops c37
noncomputable def c38 : Code := cr c36
noncomputable def c39 : Code := cl c38
noncomputable def o12 : Array Oper := rops c39
noncomputable def c40 : Code := cr c38
noncomputable def c41 : Code := cr c32
noncomputable def o9 : Array Oper := rops c41
noncomputable def c42 : Code := cr c21
noncomputable def c43 : Code := cl c42
noncomputable def o13 : Array Oper := rops c43
noncomputable def c44 : Code := cr c42
noncomputable def c45 : Code := cl c44
noncomputable def c46 : Code := cl c45
noncomputable def o14 : Array Oper := rops c46
noncomputable def c47 : Code := cr c45
noncomputable def c48 : Code := cl c47
noncomputable def c49 : Code := cl c48
noncomputable def c50 : Code := cl c49
noncomputable def c51 : Code := cl c50
noncomputable def o15 : Array Oper := rops c51
noncomputable def c52 : Code := cr c50
noncomputable def c53 : Code := cl c52
noncomputable def c54 : Code := cr c52
noncomputable def c55 : Code := cr c49
noncomputable def c56 : Code := cl c55
noncomputable def c57 : Code := cl c56
noncomputable def c58 : Code := cl c57
noncomputable def o17 : Array Oper := rops c58
noncomputable def c59 : Code := cr c57
noncomputable def c60 : Code := cl c59
noncomputable def o18 : Array Oper := rops c60
noncomputable def c61 : Code := cr c59
noncomputable def c62 : Code := cr c55
noncomputable def o16 : Array Oper := rops c62
noncomputable def c63 : Code := cr c44
noncomputable def c64 : Code := cl c63
noncomputable def o19 : Array Oper := rops c64
noncomputable def c65 : Code := cr c63
end F17
/-- Blocks are dealt. -/
theorem blocks_ok {w₀ : World} {C : Nat → Nat} {i b : Nat} {d : Dk} {most : Nat} (hF : Lim w₀ C) (hi : i ≠ 0) (hd : DeckAt 55 w₀ C i b d) (hlen : d.list.length ≤ 9223372036854775807) (hmost : most ≤ 1000) : Calls Try.prog 17 #[.pointer (some ⟨b, 0, none⟩), .int .i64 most] w₀ (Ret fun v w' => Stp [i] w₀ C w' C ∧ RV w' (Mc C) (blocksOf d most) v ∧ DeckAt 55 w' C i b (dkBlocks d most)) := by
  have hbc : C b = i := by obtain ⟨_, _, _, h⟩ := hd; exact h.col
  have hF0 := hF
  replace hF := hF.col2 i
  replace hd := hd.col2 hi
  have hT := Stp.refl [2, 3, 4, 5, 6, 7, 8, 9] w₀ (col2 C i)
  refine calls_start (c := F17.c0) (N := 69) [.pointer (some ⟨b, 0, none⟩), .int .i64 most] Try.func17 (by kernel_rfl) (by kernel_rfl) (by kernel_rfl) ?_
  show Run _ _ _ _ [(0, .pointer (some ⟨b, 0, none⟩)), (1, .int .i64 most)] _ _
  refine run_seq (x := F17.c1) (y := F17.c2) (by kernel_rfl) ?_
  refine run_plain (id := 0) (ops := F17.o0) [(0, true)] (by kernel_rfl) (by kernel_rfl) ?_
  refine yS (by kernel_rfl : opAt F17.o0 0 = some (some 4, .assign (.const (.slice none 0 0)), none)) rfl rfl (fun w' hS => val_assign rfl) ?_
  refine Sch.nil ?_
  refine run_seq (x := F17.c3) (y := F17.c4) (by kernel_rfl) ?_
  refine run_plain (id := 1) (ops := F17.o1) [(0, false), (1, true)] (by kernel_rfl) (by kernel_rfl) ?_
  refine aS (by kernel_rfl : opAt F17.o1 0 = some (some 12, .buildSlice 65 4 #[(0, (.const (.int .u64 3))), (1, (.const (.int .u64 5))), (2, (.const (.int .u64 8))), (3, (.const (.int .u64 9223372036854775808)))], none)) rfl rfl (a_buildSlice (ys := hashL) (e := 42) (bytes := 8) hF (by kernel_rfl) rfl (by decide) (by decide) ⟨rfl, ⟨_, rfl, rv_num.2 rfl⟩, rfl, ⟨_, rfl, rv_num.2 rfl⟩, rfl, ⟨_, rfl, rv_num.2 rfl⟩, rfl, ⟨_, rfl, rv_num.2 rfl⟩, trivial⟩) ?_
  rintro v12 w1 ⟨hs, hh, hF⟩
  refine ⟨trivial, ?_⟩
  replace hT := hT.trans hs (by simp)
  replace hd := hd.st hs (by first | decide | (simp <;> omega)) (by first | decide | (simp <;> omega))
  refine yS (by kernel_rfl : opAt F17.o1 1 = some (some 5, .assign (.tmp 12), none)) rfl rfl (fun w' hS => val_assign rfl) ?_
  refine Sch.nil ?_
  refine run_seq (x := F17.c5) (y := F17.c6) (by kernel_rfl) ?_
  refine run_plain (id := 2) (ops := F17.o2) [(0, true)] (by kernel_rfl) (by kernel_rfl) ?_
  refine yS (by kernel_rfl : opAt F17.o2 0 = some (some 6, .assign (.const (.slice none 0 0)), none)) rfl rfl (fun w' hS => val_assign rfl) ?_
  refine Sch.nil ?_
  refine run_seq (x := F17.c7) (y := F17.c21) (by kernel_rfl) ?_
  refine run_seq (x := F17.c8) (y := F17.c9) (by kernel_rfl) ?_
  refine run_plain (id := 3) (ops := F17.o3) [(0, true)] (by kernel_rfl) (by kernel_rfl) ?_
  refine yS (by kernel_rfl : opAt F17.o3 0 = some (some 7, .assign (.const (.int .i64 0)), none)) rfl rfl (fun w' hS => val_assign rfl) ?_
  refine Sch.nil ?_
  refine run_block (x := F17.c10) (id := 0) (by kernel_rfl) ?_
  refine run_loop (ι := Nat × (Nat → Nat) × Value) (I := fun x w => x.1 ≤ 4 ∧ Lim w x.2.1 ∧ Stp [2, 3, 4, 5, 6, 7, 8, 9] w₀ (col2 C i) w x.2.1 ∧ DeckAt 55 w x.2.1 2 b d ∧ RV w (Mc x.2.1) hashL v12 ∧ OwnL w x.2.1 3 44 x.2.2 (blocks0 x.1)) (e := fun x => [(0, .pointer (some ⟨b, 0, none⟩)), (1, .int .i64 most), (5, v12), (6, x.2.2), (7, .int .i64 x.1)]) (m := fun x => 4 - x.1) (x₀ := (0, col2 C i, .slice none 0 0)) (body := F17.c11) (by kernel_rfl) (sub_cons 0 rfl rfl (sub_cons 1 rfl rfl (sub_cons 5 rfl rfl (sub_cons 6 rfl rfl (sub_cons 7 rfl rfl (sub_nil _)))))) ?_ ?_
  · exact ⟨Nat.zero_le _, hF, hT, hd, hh, OwnL.nil⟩
  intro ⟨j, Cj, vo⟩ w2 hI next
  obtain ⟨hj, hF, hT, hd, hh, ho⟩ := hI
  simp only at hj hF hT hd hh ho
  show Run _ _ _ _ [(0, .pointer (some ⟨b, 0, none⟩)), (1, .int .i64 most), (5, v12), (6, vo), (7, .int .i64 (j : Int))] _ _
  refine run_seq (x := F17.c12) (y := F17.c17) (by kernel_rfl) ?_
  refine run_seq (x := F17.c13) (y := F17.c14) (by kernel_rfl) ?_
  refine run_plain (id := 4) (ops := F17.o4) [(0, true), (1, true), (2, true), (3, true)] (by kernel_rfl) (by kernel_rfl) ?_
  refine yS (by kernel_rfl : opAt F17.o4 0 = some (some 13, .move (.tmp 7), none)) rfl rfl (fun w' hS => val_move rfl) ?_
  refine yS (by kernel_rfl : opAt F17.o4 1 = some (some 14, .move (.tmp 5), none)) rfl rfl (fun w' hS => val_move rfl) ?_
  refine yS (by kernel_rfl : opAt F17.o4 2 = some (some 15, .call { callee := .builtin .len, args := #[(.tmp 14)], argTypes := #[65] }, none)) rfl rfl (fun w' hS => hh.lenV rfl Try.underlying65 w' ) ?_
  refine yS (by kernel_rfl : opAt F17.o4 3 = some (some 16, .binOp .lss 3 (.tmp 13) (.tmp 15) 3, none)) rfl rfl (fun w' hS => val_lss rfl rfl) ?_
  refine Sch.nil ?_
  refine run_if (x := F17.c15) (y := F17.c16) (o := .tmp 16) (by kernel_rfl) rfl (fun h16 => ?_) (fun h16 => ?_)
  · skip
    have hj4 : j < 4 := by simp [hashL] at h16; omega
    refine run_skip (by kernel_rfl) ?_
    refine run_seq (x := F17.c18) (y := F17.c20) (by kernel_rfl) ?_
    refine run_block (x := F17.c19) (id := 1) (by kernel_rfl) ?_
    refine run_plain (id := 6) (ops := F17.o6) [(0, true), (1, true), (2, true), (3, true), (4, false), (5, true), (6, false), (7, false), (8, true)] (by kernel_rfl) (by kernel_rfl) ?_
    refine yS (by kernel_rfl : opAt F17.o6 0 = some (some 19, .move (.tmp 6), none)) rfl rfl (fun w' hS => val_move rfl) ?_
    refine yS (by kernel_rfl : opAt F17.o6 1 = some (some 20, .move (.tmp 5), none)) rfl rfl (fun w' hS => val_move rfl) ?_
    refine yS (by kernel_rfl : opAt F17.o6 2 = some (some 21, .move (.tmp 7), none)) rfl rfl (fun w' hS => val_move rfl) ?_
    have hjl : (j : Int) < hashL.length := by simp [hashL]; omega
    refine iS (e := 42) (by kernel_rfl : opAt F17.o6 3 = some (some 22, .indexAddr 65 (.tmp 20) (.tmp 21), none)) rfl rfl hh rfl (by kernel_rfl) rfl (by omega) (by omega) ?_
    intro b22 o22 h22
    try simp only [Int.toNat_natCast] at h22
    refine lN (by kernel_rfl : opAt F17.o6 4 = some (some 23, .load 42 (.tmp 22), none)) rfl rfl trivial h22 (by kernel_rfl) rfl rfl ?_
    rintro v23 g23
    obtain rfl := rv_num.1 g23
    rw [show (hashL[j]'(by simp [hashL]; omega)).n = hashN j from by simp [hashL_get]]
    refine yS (by kernel_rfl : opAt F17.o6 5 = some (some 24, .build 44 #[(0, (.tmp 23))], none)) rfl rfl (fun w' hS => val_build (zs := [.int .u64 0, .slice none 0 0]) (ps := [(0, 1), (1, 1)]) (qs := [(0, [.int .u64 (hashN j)])]) (cs := [.int .u64 (hashN j), .slice none 0 0]) (by kernel_rfl) (by kernel_rfl) ⟨rfl, ⟨_, rfl, rfl⟩, trivial⟩ rfl) ?_
    refine aS (by kernel_rfl : opAt F17.o6 6 = some (some 25, .buildSlice 39 1 #[(0, (.tmp 24))], none)) rfl rfl (a_buildSlice (ys := ([raw0 j] : List (Raw 2))) (e := 44) (bytes := 32) hF (by kernel_rfl) rfl (by decide) (by decide) ⟨rfl, ⟨_, rfl, rv_raw (x := raw0 j)⟩, trivial⟩) ?_
    rintro v25 w3 ⟨hs, g25, hF⟩
    refine ⟨trivial, ?_⟩
    replace hT := hT.trans hs (by simp)
    replace hd := hd.st hs (by first | decide | (simp <;> omega)) (by first | decide | (simp <;> omega))
    replace hh := hh.st hs (by first | decide | (simp <;> omega))
    replace ho := ho.st hs (by first | decide | (simp <;> omega)) (by first | decide | (simp <;> omega))
    replace h22 := h22.st hs (by first | decide | (simp <;> omega))
    refine aS (by kernel_rfl : opAt F17.o6 7 = some (some 26, .call { callee := .builtin .append, args := #[(.tmp 19), (.tmp 25)], argTypes := #[39, 39] }, none)) rfl rfl (a_append (e := 44) (bytes := 32) hF (by decide) rfl rfl (by kernel_rfl) (by decide) ho g25 (by simp; omega) (by simp; omega)) ?_
    rintro v26 w4 ⟨Cw4, hs, ho, hF⟩
    refine ⟨trivial, ?_⟩
    replace hT := hT.trans hs (by simp)
    replace hd := hd.st hs (by first | decide | (simp <;> omega)) (by first | decide | (simp <;> omega))
    replace hh := hh.st hs (by first | decide | (simp <;> omega))
    replace h22 := h22.st hs (by first | decide | (simp <;> omega))
    replace g25 := g25.st hs (by first | decide | (simp <;> omega))
    refine yS (by kernel_rfl : opAt F17.o6 8 = some (some 6, .assign (.tmp 26), none)) rfl rfl (fun w' hS => val_assign rfl) ?_
    refine Sch.nil ?_
    refine run_inBlock ?_
    refine run_plain (id := 5) (ops := F17.o5) [(0, true), (1, true), (2, true)] (by kernel_rfl) (by kernel_rfl) ?_
    refine yS (by kernel_rfl : opAt F17.o5 0 = some (some 17, .move (.tmp 7), none)) rfl rfl (fun w' hS => val_move rfl) ?_
    refine yS (by kernel_rfl : opAt F17.o5 1 = some (some 18, .binOp .add 3 (.tmp 17) (.const (.int .i64 1)) 3, none)) rfl rfl (fun w' hS => val_addi rfl rfl (by omega) (by omega)) ?_
    refine yS (by kernel_rfl : opAt F17.o5 2 = some (some 7, .assign (.tmp 18), none)) rfl rfl (fun w' hS => val_assign rfl) ?_
    refine Sch.nil ?_
    refine kp ?_ (next (j + 1, Cw4, v26) _ ⟨by simp only; omega, hF, hT, hd, hh, by rw [blocks0_succ hj4]; exact ho⟩ (by simp only; omega))
    exact sub_cons 0 rfl rfl (sub_cons 1 rfl rfl (sub_cons 5 rfl rfl (sub_cons 6 rfl rfl (sub_cons 7 rfl (eq_int (by simp)) (sub_nil _)))))
  · skip
    have hj4 : j = 4 := by simp [hashL] at h16; omega
    refine run_exit (id := 0) (by kernel_rfl) rfl ?_
    refine run_seq (x := F17.c22) (y := F17.c42) (by kernel_rfl) ?_
    refine run_seq (x := F17.c23) (y := F17.c24) (by kernel_rfl) ?_
    refine run_plain (id := 7) (ops := F17.o7) [(0, true)] (by kernel_rfl) (by kernel_rfl) ?_
    refine yS (by kernel_rfl : opAt F17.o7 0 = some (some 8, .assign (.const (.int .i64 1)), none)) rfl rfl (fun w' hS => val_assign rfl) ?_
    refine Sch.nil ?_
    refine run_block (x := F17.c25) (id := 2) (by kernel_rfl) ?_
    subst hj4
    obtain ⟨g, cap, cs, rfl, hb, hcap, hsz, hc1, hc2⟩ := blocks0_own ho
    have hin : ∀ k, k < 4 → OwnL w2 Cj (4 + k) 3 ((fun _ : Nat => Value.slice none 0 0) k) ((blkSt d 0).2 k) := fun k hk => OwnL.nil
    refine run_loop (ι := Nat × (Nat → Nat) × List Value × (Nat → Value)) (I := fun x w => x.1 ≤ most ∧ Lim w x.2.1 ∧ Stp [2, 3, 4, 5, 6, 7, 8, 9] w₀ (col2 C i) w x.2.1 ∧ DeckAt 55 w x.2.1 2 b (blkSt d x.1).1 ∧ OwnB w x.2.1 3 g (.cells x.2.2.1.toArray 44) ∧ x.2.2.1.length = cap * 2 ∧ (∀ k, k < 4 → x.2.2.1[k * 2]? = some (.int .u64 (hashN k))) ∧ (∀ k, k < 4 → x.2.2.1[k * 2 + 1]? = some (x.2.2.2 k)) ∧ (∀ k, k < 4 → OwnL w x.2.1 (4 + k) 3 (x.2.2.2 k) ((blkSt d x.1).2 k))) (e := fun x => [(0, .pointer (some ⟨b, 0, none⟩)), (1, .int .i64 most), (6, .slice (some ⟨g, 0, none⟩) 4 cap), (8, .int .i64 ((x.1 : Int) + 1))]) (m := fun x => most - x.1) (x₀ := (0, Cj, cs, fun _ => .slice none 0 0)) (body := F17.c26) (by kernel_rfl) (sub_cons 0 rfl rfl (sub_cons 1 rfl rfl (sub_cons 6 rfl rfl (sub_cons 8 rfl (eq_int (by simp)) (sub_nil _))))) ?_ ?_
    · exact ⟨Nat.zero_le _, hF, hT, hd, hb, hsz, hc1, hc2, hin⟩
    intro ⟨j, Cj, cs, vf⟩ w5 hI next
    obtain ⟨hj, hF, hT, hd, hb, hsz, hc1, hc2, hin⟩ := hI
    simp only at hj hF hT hd hb hsz hc1 hc2 hin
    show Run _ _ _ _ [(0, .pointer (some ⟨b, 0, none⟩)), (1, .int .i64 most), (6, .slice (some ⟨g, 0, none⟩) 4 cap), (8, .int .i64 ((j : Int) + 1))] _ _
    have hll := blkSt_list d j
    refine run_seq (x := F17.c27) (y := F17.c32) (by kernel_rfl) ?_
    refine run_seq (x := F17.c28) (y := F17.c29) (by kernel_rfl) ?_
    refine run_plain (id := 8) (ops := F17.o8) [(0, true), (1, true), (2, true)] (by kernel_rfl) (by kernel_rfl) ?_
    refine yS (by kernel_rfl : opAt F17.o8 0 = some (some 27, .move (.tmp 8), none)) rfl rfl (fun w' hS => val_move rfl) ?_
    refine yS (by kernel_rfl : opAt F17.o8 1 = some (some 28, .move (.tmp 1), none)) rfl rfl (fun w' hS => val_move rfl) ?_
    refine yS (by kernel_rfl : opAt F17.o8 2 = some (some 29, .binOp .leq 3 (.tmp 27) (.tmp 28) 3, none)) rfl rfl (fun w' hS => val_leq rfl rfl) ?_
    refine Sch.nil ?_
    refine run_if (x := F17.c30) (y := F17.c31) (o := .tmp 29) (by kernel_rfl) rfl (fun h29 => ?_) (fun h29 => ?_)
    · skip
      refine run_skip (by kernel_rfl) ?_
      refine run_seq (x := F17.c33) (y := F17.c41) (by kernel_rfl) ?_
      refine run_block (x := F17.c34) (id := 3) (by kernel_rfl) ?_
      refine run_seq (x := F17.c35) (y := F17.c36) (by kernel_rfl) ?_
      refine run_plain (id := 10) (ops := F17.o10) [(0, true), (1, false), (2, true)] (by kernel_rfl) (by kernel_rfl) ?_
      refine yS (by kernel_rfl : opAt F17.o10 0 = some (some 32, .move (.tmp 0), none)) rfl rfl (fun w' hS => val_move rfl) ?_
      refine cS (by kernel_rfl : opAt F17.o10 1 = some (some 33, .call { callee := .value (.func 11), args := #[(.tmp 32), (.const (.int .i64 6))], argTypes := #[25, 3] }, none)) rfl rfl (ent Try.call11 rfl) (next_ok (d := (blkSt d j).1) (n := 6) hF (by decide) hd (by rw [hll]; exact hlen) (by decide)) ?_
      rintro vw6 w6 ⟨rfl, hs, hd⟩
      refine ⟨trivial, ?_⟩
      replace hF := hF.st hs
      replace hT := hT.trans hs (by simp)
      replace hb := hb.st hs (by first | decide | (simp <;> omega))
      replace hin := fun k hk => (hin k hk).st hs (by simp <;> omega) (by simp <;> omega)
      have hk0 := (blkSt d j).1.num_range (n := 6) (by decide)
      obtain ⟨κ, hκ⟩ : ∃ κ : Nat, (blkSt d j).1.num 6 = κ := ⟨_, (Int.toNat_of_nonneg hk0.1).symm⟩
      rw [hκ]
      refine yS (by kernel_rfl : opAt F17.o10 2 = some (some 9, .assign (.tmp 33), none)) rfl rfl (fun w' hS => val_assign rfl) ?_
      refine Sch.nil ?_
      refine run_seq (x := F17.c37) (y := F17.c38) (by kernel_rfl) ?_
      refine run_plain (id := 11) (ops := F17.o11) [(0, true), (1, true)] (by kernel_rfl) (by kernel_rfl) ?_
      refine yS (by kernel_rfl : opAt F17.o11 0 = some (some 34, .move (.tmp 9), none)) rfl rfl (fun w' hS => val_move rfl) ?_
      refine yS (by kernel_rfl : opAt F17.o11 1 = some (some 35, .binOp .lss 3 (.tmp 34) (.const (.int .i64 4)) 3, none)) rfl rfl (fun w' hS => val_lss rfl rfl) ?_
      refine Sch.nil ?_
      refine run_if (x := F17.c39) (y := F17.c40) (o := .tmp 35) (by kernel_rfl) rfl (fun h35 => ?_) (fun h35 => ?_)
      · skip
        have hk4 : κ < 4 := by omega
        refine run_plain (id := 12) (ops := F17.o12) [(0, true), (1, true), (2, true), (3, true), (4, true), (5, true), (6, false), (7, true), (8, false), (9, false), (10, true), (11, true), (12, false)] (by kernel_rfl) (by kernel_rfl) ?_
        refine yS (by kernel_rfl : opAt F17.o12 0 = some (some 36, .move (.tmp 6), none)) rfl rfl (fun w' hS => val_move rfl) ?_
        refine yS (by kernel_rfl : opAt F17.o12 1 = some (some 37, .move (.tmp 9), none)) rfl rfl (fun w' hS => val_move rfl) ?_
        refine yS (by kernel_rfl : opAt F17.o12 2 = some (some 38, .move (.tmp 6), none)) rfl rfl (fun w' hS => val_move rfl) ?_
        refine yS (by kernel_rfl : opAt F17.o12 3 = some (some 39, .move (.tmp 9), none)) rfl rfl (fun w' hS => val_move rfl) ?_
        refine yS (by kernel_rfl : opAt F17.o12 4 = some (some 40, .indexAddr 39 (.tmp 38) (.tmp 39), none)) rfl rfl (fun w' hS => val_indexAddr (e := 44) (n := 2) (by kernel_rfl) rfl rfl (by omega) (by simp; omega)) ?_
        refine yS (by kernel_rfl : opAt F17.o12 5 = some (some 41, .fieldAddr 44 (.tmp 40) 1, none)) rfl rfl (fun w' hS => val_fieldAddr (off := 1) (by kernel_rfl) rfl) ?_
        have hlen2 : ((blkSt d j).2 κ).length ≤ j := blkSt_len d κ j
        refine nS (by kernel_rfl : opAt F17.o12 6 = some (some 42, .load 22 (.tmp 41), none)) rfl rfl trivial (val_loadOwn hb.at_ (by kernel_rfl) (show _ = some (vf κ) from by rw [show 0 + (κ : Int).toNat * 2 + 1 = κ * 2 + 1 from by simp]; exact hc2 κ hk4) rfl) ?_
        refine yS (by kernel_rfl : opAt F17.o12 7 = some (some 43, .move (.tmp 8), none)) rfl rfl (fun w' hS => val_move rfl) ?_
        refine aS (by kernel_rfl : opAt F17.o12 8 = some (some 44, .buildSlice 22 1 #[(0, (.tmp 43))], none)) rfl rfl (a_buildSlice (ys := ([(j : Int) + 1] : List Int)) (e := 3) (bytes := 8) hF (by kernel_rfl) rfl (by decide) (by decide) ⟨rfl, ⟨_, rfl, rv_int.2 rfl⟩, trivial⟩) ?_
        rintro v44 w7 ⟨hs, g44, hF⟩
        refine ⟨trivial, ?_⟩
        replace hT := hT.trans hs (by simp)
        replace hd := hd.st hs (by first | decide | (simp <;> omega)) (by first | decide | (simp <;> omega))
        replace hb := hb.st hs (by first | decide | (simp <;> omega))
        replace hin := fun k hk => (hin k hk).st hs (by simp <;> omega) (by simp <;> omega)
        refine aS (by kernel_rfl : opAt F17.o12 9 = some (some 45, .call { callee := .builtin .append, args := #[(.tmp 42), (.tmp 44)], argTypes := #[22, 22] }, none)) rfl rfl (a_append (e := 3) (bytes := 8) hF (by omega) rfl rfl (by kernel_rfl) (by decide) (hin κ hk4) g44 (by simp; omega) (by simp; omega)) ?_
        rintro v45 w8 ⟨Cw8, hs, h45, hF⟩
        refine ⟨trivial, ?_⟩
        replace hT := hT.trans hs (by simp <;> omega)
        replace hd := hd.st hs (by first | decide | (simp <;> omega)) (by first | decide | (simp <;> omega))
        replace hb := hb.st hs (by first | decide | (simp <;> omega))
        replace g44 := g44.st hs (by first | decide | (simp <;> omega))
        replace hin : ∀ k, k < 4 → k ≠ κ → OwnL _ _ (4 + k) 3 (vf k) ((blkSt d j).2 k) := fun k hk hne => (hin k hk).st hs (by simp <;> omega) (by simp <;> omega)
        refine yS (by kernel_rfl : opAt F17.o12 10 = some (some 46, .indexAddr 39 (.tmp 36) (.tmp 37), none)) rfl rfl (fun w' hS => val_indexAddr (e := 44) (n := 2) (by kernel_rfl) rfl rfl (by omega) (by simp; omega)) ?_
        refine yS (by kernel_rfl : opAt F17.o12 11 = some (some 47, .fieldAddr 44 (.tmp 46) 1, none)) rfl rfl (fun w' hS => val_fieldAddr (off := 1) (by kernel_rfl) rfl) ?_
        have hw0 : 0 + (κ : Int).toNat * 2 + 1 < cs.length := by simp; omega
        refine aN (by kernel_rfl : opAt F17.o12 12 = some (none, .store 22 (.tmp 47) (.tmp 45), none)) rfl (a_store1 rfl rfl (by kernel_rfl) h45.one.1 h45.one.2 hb hw0) ?_
        rintro _ w9 ⟨rfl, hs, hb⟩
        refine ⟨trivial, ?_⟩
        replace hF := hF.st hs
        replace hT := hT.trans hs (by simp)
        replace hd := hd.st hs (by first | decide | (simp <;> omega)) (by first | decide | (simp <;> omega))
        replace g44 := g44.st hs (by first | decide | (simp <;> omega))
        replace h45 := h45.st hs (by first | decide | (simp <;> omega)) (by first | decide | (simp <;> omega))
        replace hin := fun k hk hne => (hin k hk hne).st hs (by simp <;> omega) (by simp <;> omega)
        refine Sch.nil ?_
        refine run_inBlock ?_
        refine run_plain (id := 9) (ops := F17.o9) [(0, true), (1, true), (2, true)] (by kernel_rfl) (by kernel_rfl) ?_
        refine yS (by kernel_rfl : opAt F17.o9 0 = some (some 30, .move (.tmp 8), none)) rfl rfl (fun w' hS => val_move rfl) ?_
        refine yS (by kernel_rfl : opAt F17.o9 1 = some (some 31, .binOp .add 3 (.tmp 30) (.const (.int .i64 1)) 3, none)) rfl rfl (fun w' hS => val_addi rfl rfl (by omega) (by omega)) ?_
        refine yS (by kernel_rfl : opAt F17.o9 2 = some (some 8, .assign (.tmp 31), none)) rfl rfl (fun w' hS => val_assign rfl) ?_
        refine Sch.nil ?_
        have e1 : 0 + (κ : Int).toNat * 2 + 1 = κ * 2 + 1 := by simp
        rw [e1] at hb
        have e2 : (blkSt d (j + 1)).2 κ = (blkSt d j).2 κ ++ [(j : Int) + 1] := by simp only [blkSt]; rw [if_pos ⟨hκ, hk4⟩]
        have e3 : ∀ k, k ≠ κ → (blkSt d (j + 1)).2 k = (blkSt d j).2 k := fun k hk => by simp only [blkSt]; rw [if_neg (by rw [hκ]; omega)]
        refine kp ?_ (next (j + 1, Cw8, cs.set (κ * 2 + 1) v45, updF vf κ v45) _ ⟨by simp only; omega, hF, hT, hd, hb, by simpa using hsz, fun k hk => ?_, fun k hk => ?_, fun k hk => ?_⟩ (by simp only; omega))
        · exact sub_cons 0 rfl rfl (sub_cons 1 rfl rfl (sub_cons 6 rfl rfl (sub_cons 8 rfl (eq_int (by simp)) (sub_nil _))))
        · simp only; rw [List.getElem?_set_ne (by omega)]; exact hc1 k hk
        · simp only [updF]
          by_cases hkk : k = κ
          · subst hkk; rw [if_pos rfl, List.getElem?_set_self (by omega)]
          · rw [if_neg hkk, List.getElem?_set_ne (by omega)]; exact hc2 k hk
        · simp only [updF]
          by_cases hkk : k = κ
          · subst hkk; rw [if_pos rfl, e2]; exact h45
          · rw [if_neg hkk, e3 k hkk]; exact hin k hk hkk
      · skip
        refine run_skip (by kernel_rfl) ?_
        refine run_inBlock ?_
        refine run_plain (id := 9) (ops := F17.o9) [(0, true), (1, true), (2, true)] (by kernel_rfl) (by kernel_rfl) ?_
        refine yS (by kernel_rfl : opAt F17.o9 0 = some (some 30, .move (.tmp 8), none)) rfl rfl (fun w' hS => val_move rfl) ?_
        refine yS (by kernel_rfl : opAt F17.o9 1 = some (some 31, .binOp .add 3 (.tmp 30) (.const (.int .i64 1)) 3, none)) rfl rfl (fun w' hS => val_addi rfl rfl (by omega) (by omega)) ?_
        refine yS (by kernel_rfl : opAt F17.o9 2 = some (some 8, .assign (.tmp 31), none)) rfl rfl (fun w' hS => val_assign rfl) ?_
        refine Sch.nil ?_
        have e3 : ∀ k, k < 4 → (blkSt d (j + 1)).2 k = (blkSt d j).2 k := fun k hk => by simp only [blkSt]; rw [if_neg (by rw [hκ]; omega)]
        refine kp ?_ (next (j + 1, Cj, cs, vf) _ ⟨by simp only; omega, hF, hT, hd, hb, hsz, hc1, hc2, fun k hk => ?_⟩ (by simp only; omega))
        · exact sub_cons 0 rfl rfl (sub_cons 1 rfl rfl (sub_cons 6 rfl rfl (sub_cons 8 rfl (eq_int (by simp)) (sub_nil _))))
        · simp only; rw [e3 k hk]; exact hin k hk
    · skip
      refine run_exit (id := 2) (by kernel_rfl) rfl ?_
      refine run_seq (x := F17.c43) (y := F17.c44) (by kernel_rfl) ?_
      refine run_plain (id := 13) (ops := F17.o13) [(0, true)] (by kernel_rfl) (by kernel_rfl) ?_
      refine yS (by kernel_rfl : opAt F17.o13 0 = some (some 10, .assign (.const (.slice none 0 0)), none)) rfl rfl (fun w' hS => val_assign rfl) ?_
      refine Sch.nil ?_
      refine run_seq (x := F17.c45) (y := F17.c63) (by kernel_rfl) ?_
      refine run_seq (x := F17.c46) (y := F17.c47) (by kernel_rfl) ?_
      refine run_plain (id := 14) (ops := F17.o14) [(0, true)] (by kernel_rfl) (by kernel_rfl) ?_
      refine yS (by kernel_rfl : opAt F17.o14 0 = some (some 11, .assign (.const (.int .i64 0)), none)) rfl rfl (fun w' hS => val_assign rfl) ?_
      refine Sch.nil ?_
      refine run_block (x := F17.c48) (id := 4) (by kernel_rfl) ?_
      obtain rfl : j = most := by omega
      have hall := rv_blocksAll (n := 3) hb hcap hsz (by decide) hc1 hc2 hin (fun k => Nat.le_trans (blkSt_len d k j) (by omega))
      replace hF := hF.frz 3
      replace hT := hT.frz (col2_lt3 C i)
      replace hd := hd.frz (n := 3) (by decide)
      refine run_loop (ι := Nat × (Nat → Nat) × Value) (I := fun x w => x.1 ≤ 4 ∧ Lim w x.2.1 ∧ Stp [2, 3, 4, 5, 6, 7, 8, 9] w₀ (col2 C i) w x.2.1 ∧ DeckAt 55 w x.2.1 2 b (blkSt d j).1 ∧ RV w (Mc x.2.1) (blocksAll (blkSt d j).2) (.slice (some ⟨g, 0, none⟩) 4 cap) ∧ OwnL w x.2.1 3 44 x.2.2 (((blocksAll (blkSt d j).2).take x.1).filter full)) (e := fun x => [(6, .slice (some ⟨g, 0, none⟩) 4 cap), (10, x.2.2), (11, .int .i64 x.1)]) (m := fun x => 4 - x.1) (x₀ := (0, frz 3 Cj, .slice none 0 0)) (body := F17.c49) (by kernel_rfl) (sub_cons 6 rfl rfl (sub_cons 10 rfl rfl (sub_cons 11 rfl rfl (sub_nil _)))) ?_ ?_
      · exact ⟨Nat.zero_le _, hF, hT, hd, hall, OwnL.nil⟩
      intro ⟨m, Cm, vs⟩ w10 hI next
      obtain ⟨hm, hF, hT, hd, hall, ho⟩ := hI
      simp only at hm hF hT hd hall ho
      show Run _ _ _ _ [(6, .slice (some ⟨g, 0, none⟩) 4 cap), (10, vs), (11, .int .i64 (m : Int))] _ _
      have h4 := blocksAll_len (blkSt d j).2
      have hl4 := take_full_len (blkSt d j).2 m
      refine run_seq (x := F17.c50) (y := F17.c55) (by kernel_rfl) ?_
      refine run_seq (x := F17.c51) (y := F17.c52) (by kernel_rfl) ?_
      refine run_plain (id := 15) (ops := F17.o15) [(0, true), (1, true), (2, true), (3, true)] (by kernel_rfl) (by kernel_rfl) ?_
      refine yS (by kernel_rfl : opAt F17.o15 0 = some (some 48, .move (.tmp 11), none)) rfl rfl (fun w' hS => val_move rfl) ?_
      refine yS (by kernel_rfl : opAt F17.o15 1 = some (some 49, .move (.tmp 6), none)) rfl rfl (fun w' hS => val_move rfl) ?_
      refine yS (by kernel_rfl : opAt F17.o15 2 = some (some 50, .call { callee := .builtin .len, args := #[(.tmp 49)], argTypes := #[39] }, none)) rfl rfl (fun w' hS => hall.lenV rfl Try.underlying39 w' ) ?_
      refine yS (by kernel_rfl : opAt F17.o15 3 = some (some 51, .binOp .lss 3 (.tmp 48) (.tmp 50) 3, none)) rfl rfl (fun w' hS => val_lss rfl rfl) ?_
      refine Sch.nil ?_
      refine run_if (x := F17.c53) (y := F17.c54) (o := .tmp 51) (by kernel_rfl) rfl (fun h51 => ?_) (fun h51 => ?_)
      · skip
        have hm4 : m < 4 := by omega
        refine run_skip (by kernel_rfl) ?_
        refine run_seq (x := F17.c56) (y := F17.c62) (by kernel_rfl) ?_
        refine run_block (x := F17.c57) (id := 5) (by kernel_rfl) ?_
        refine run_seq (x := F17.c58) (y := F17.c59) (by kernel_rfl) ?_
        refine run_plain (id := 17) (ops := F17.o17) [(0, true), (1, true), (2, true), (3, true), (4, false), (5, true), (6, true)] (by kernel_rfl) (by kernel_rfl) ?_
        refine yS (by kernel_rfl : opAt F17.o17 0 = some (some 54, .move (.tmp 6), none)) rfl rfl (fun w' hS => val_move rfl) ?_
        refine yS (by kernel_rfl : opAt F17.o17 1 = some (some 55, .move (.tmp 11), none)) rfl rfl (fun w' hS => val_move rfl) ?_
        refine iS (e := 44) (by kernel_rfl : opAt F17.o17 2 = some (some 56, .indexAddr 39 (.tmp 54) (.tmp 55), none)) rfl rfl hall rfl (by kernel_rfl) rfl (by omega) (by omega) ?_
        intro b56 o56 h56
        try simp only [Int.toNat_natCast] at h56
        have h57 := RA.ids h56
        refine yS (by kernel_rfl : opAt F17.o17 3 = some (some 57, .fieldAddr 44 (.tmp 56) 1, none)) rfl rfl (fun w' hS => val_fieldAddr (off := 1) (by kernel_rfl) rfl) ?_
        refine lN (by kernel_rfl : opAt F17.o17 4 = some (some 58, .load 22 (.tmp 57), none)) rfl rfl trivial h57 (by kernel_rfl) rfl rfl ?_
        intro v58 g58
        refine yS (by kernel_rfl : opAt F17.o17 5 = some (some 59, .call { callee := .builtin .len, args := #[(.tmp 58)], argTypes := #[22] }, none)) rfl rfl (fun w' hS => g58.lenV rfl Try.underlying22 w' ) ?_
        refine yS (by kernel_rfl : opAt F17.o17 6 = some (some 60, .binOp .gtr 3 (.tmp 59) (.const (.int .i64 0)) 3, none)) rfl rfl (fun w' hS => val_gtr rfl rfl) ?_
        refine Sch.nil ?_
        refine run_if (x := F17.c60) (y := F17.c61) (o := .tmp 60) (by kernel_rfl) rfl (fun h60 => ?_) (fun h60 => ?_)
        · skip
          have hfl : full ((blocksAll (blkSt d j).2)[m]'(by omega)) = true := decide_eq_true h60
          refine run_plain (id := 18) (ops := F17.o18) [(0, true), (1, true), (2, true), (3, true), (4, false), (5, false), (6, false), (7, true)] (by kernel_rfl) (by kernel_rfl) ?_
          refine yS (by kernel_rfl : opAt F17.o18 0 = some (some 61, .move (.tmp 10), none)) rfl rfl (fun w' hS => val_move rfl) ?_
          refine yS (by kernel_rfl : opAt F17.o18 1 = some (some 62, .move (.tmp 6), none)) rfl rfl (fun w' hS => val_move rfl) ?_
          refine yS (by kernel_rfl : opAt F17.o18 2 = some (some 63, .move (.tmp 11), none)) rfl rfl (fun w' hS => val_move rfl) ?_
          refine iS (e := 44) (by kernel_rfl : opAt F17.o18 3 = some (some 64, .indexAddr 39 (.tmp 62) (.tmp 63), none)) rfl rfl hall rfl (by kernel_rfl) rfl (by omega) (by omega) ?_
          intro b64 o64 h64
          try simp only [Int.toNat_natCast] at h64
          refine lNA (by kernel_rfl : opAt F17.o18 4 = some (some 65, .load 44 (.tmp 64), none)) rfl rfl trivial h64 (by kernel_rfl) (by kernel_rfl) rfl rfl ?_
          intro v65 g65
          refine aS (by kernel_rfl : opAt F17.o18 5 = some (some 66, .buildSlice 39 1 #[(0, (.tmp 65))], none)) rfl rfl (a_buildSlice (ys := ([(blocksAll (blkSt d j).2)[m]'(by omega)] : List Block)) (e := 44) (bytes := 32) hF (by kernel_rfl) rfl (by decide) (by decide) ⟨rfl, ⟨_, rfl, g65⟩, trivial⟩) ?_
          rintro v66 w11 ⟨hs, g66, hF⟩
          refine ⟨trivial, ?_⟩
          replace hT := hT.trans hs (by simp)
          replace hd := hd.st hs (by first | decide | (simp <;> omega)) (by first | decide | (simp <;> omega))
          replace hall := hall.st hs (by first | decide | (simp <;> omega))
          replace ho := ho.st hs (by first | decide | (simp <;> omega)) (by first | decide | (simp <;> omega))
          replace h56 := h56.st hs (by first | decide | (simp <;> omega))
          replace h57 := h57.st hs (by first | decide | (simp <;> omega))
          replace g58 := g58.st hs (by first | decide | (simp <;> omega))
          replace h64 := h64.st hs (by first | decide | (simp <;> omega))
          replace g65 := g65.st hs (by first | decide | (simp <;> omega))
          refine aS (by kernel_rfl : opAt F17.o18 6 = some (some 67, .call { callee := .builtin .append, args := #[(.tmp 61), (.tmp 66)], argTypes := #[39, 39] }, none)) rfl rfl (a_append (e := 44) (bytes := 32) hF (by decide) rfl rfl (by kernel_rfl) (by decide) ho g66 (by simp; omega) (by simp; omega)) ?_
          rintro v67 w12 ⟨Cw12, hs, ho, hF⟩
          refine ⟨trivial, ?_⟩
          replace hT := hT.trans hs (by simp)
          replace hd := hd.st hs (by first | decide | (simp <;> omega)) (by first | decide | (simp <;> omega))
          replace hall := hall.st hs (by first | decide | (simp <;> omega))
          replace h56 := h56.st hs (by first | decide | (simp <;> omega))
          replace h57 := h57.st hs (by first | decide | (simp <;> omega))
          replace g58 := g58.st hs (by first | decide | (simp <;> omega))
          replace h64 := h64.st hs (by first | decide | (simp <;> omega))
          replace g65 := g65.st hs (by first | decide | (simp <;> omega))
          replace g66 := g66.st hs (by first | decide | (simp <;> omega))
          refine yS (by kernel_rfl : opAt F17.o18 7 = some (some 10, .assign (.tmp 67), none)) rfl rfl (fun w' hS => val_assign rfl) ?_
          refine Sch.nil ?_
          refine run_inBlock ?_
          refine run_plain (id := 16) (ops := F17.o16) [(0, true), (1, true), (2, true)] (by kernel_rfl) (by kernel_rfl) ?_
          refine yS (by kernel_rfl : opAt F17.o16 0 = some (some 52, .move (.tmp 11), none)) rfl rfl (fun w' hS => val_move rfl) ?_
          refine yS (by kernel_rfl : opAt F17.o16 1 = some (some 53, .binOp .add 3 (.tmp 52) (.const (.int .i64 1)) 3, none)) rfl rfl (fun w' hS => val_addi rfl rfl (by omega) (by omega)) ?_
          refine yS (by kernel_rfl : opAt F17.o16 2 = some (some 11, .assign (.tmp 53), none)) rfl rfl (fun w' hS => val_assign rfl) ?_
          refine Sch.nil ?_
          refine kp ?_ (next (m + 1, Cw12, v67) _ ⟨by simp only; omega, hF, hT, hd, hall, by rw [take_full (by omega), if_pos hfl]; exact ho⟩ (by simp only; omega))
          exact sub_cons 6 rfl rfl (sub_cons 10 rfl rfl (sub_cons 11 rfl (eq_int (by simp)) (sub_nil _)))
        · skip
          have hfl : full ((blocksAll (blkSt d j).2)[m]'(by omega)) = false := decide_eq_false h60
          refine run_skip (by kernel_rfl) ?_
          refine run_inBlock ?_
          refine run_plain (id := 16) (ops := F17.o16) [(0, true), (1, true), (2, true)] (by kernel_rfl) (by kernel_rfl) ?_
          refine yS (by kernel_rfl : opAt F17.o16 0 = some (some 52, .move (.tmp 11), none)) rfl rfl (fun w' hS => val_move rfl) ?_
          refine yS (by kernel_rfl : opAt F17.o16 1 = some (some 53, .binOp .add 3 (.tmp 52) (.const (.int .i64 1)) 3, none)) rfl rfl (fun w' hS => val_addi rfl rfl (by omega) (by omega)) ?_
          refine yS (by kernel_rfl : opAt F17.o16 2 = some (some 11, .assign (.tmp 53), none)) rfl rfl (fun w' hS => val_assign rfl) ?_
          refine Sch.nil ?_
          refine kp ?_ (next (m + 1, Cm, vs) _ ⟨by simp only; omega, hF, hT, hd, hall, by rw [take_full (by omega), hfl, if_neg Bool.false_ne_true, List.append_nil]; exact ho⟩ (by simp only; omega))
          exact sub_cons 6 rfl rfl (sub_cons 10 rfl rfl (sub_cons 11 rfl (eq_int (by simp)) (sub_nil _)))
      · skip
        have hm4 : m = 4 := by omega
        refine run_exit (id := 4) (by kernel_rfl) rfl ?_
        refine run_seq (x := F17.c64) (y := F17.c65) (by kernel_rfl) ?_
        refine run_plain (id := 19) (ops := F17.o19) [(0, true), (1, true)] (by kernel_rfl) (by kernel_rfl) ?_
        refine yS (by kernel_rfl : opAt F17.o19 0 = some (some 68, .move (.tmp 10), none)) rfl rfl (fun w' hS => val_move rfl) ?_
        refine yS (by kernel_rfl : opAt F17.o19 1 = some (some 4, .assign (.tmp 68), none)) rfl rfl (fun w' hS => val_assign rfl) ?_
        refine Sch.nil ?_
        refine run_ret1 (by kernel_rfl) Try.func17 Try.results17 rfl ?_
        subst hm4
        rw [List.take_of_length_le (Nat.le_of_eq h4)] at ho
        have hdl := DeckAt.out hd hT hF0 hbc
        refine ⟨hT.out2 (by decide), ?_, hdl⟩
        exact ho.out hT hF0 (Mc_col2 C i) (fun b _ => col2_lt C i (by decide) b) (Nat.le_trans (List.length_filter_le _ _) (by omega))
namespace F12
noncomputable def c0 : Code := bodyOf Try.f12
noncomputable def c1 : Code := cl c0
noncomputable def o0 : Array Oper := rops c1
noncomputable def c2 : Code := cr c0
noncomputable def c3 : Code := cl c2
noncomputable def o1 : Array Oper := rops c3
noncomputable def c4 : Code := cr c2
noncomputable def c5 : Code := cl c4
noncomputable def c6 : Code := cl c5
noncomputable def o2 : Array Oper := rops c6
noncomputable def c7 : Code := cr c5
noncomputable def c8 : Code := cl c7
noncomputable def c9 : Code := cl c8
noncomputable def c10 : Code := cl c9
noncomputable def c11 : Code := cl c10
noncomputable def o3 : Array Oper := rops c11
noncomputable def c12 : Code := cr c10
noncomputable def c13 : Code := cl c12
noncomputable def c14 : Code := cr c12
noncomputable def c15 : Code := cr c9
noncomputable def c16 : Code := cl c15
noncomputable def c17 : Code := cl c16
noncomputable def o5 : Array Oper := rops c17
noncomputable def c18 : Code := cr c15
noncomputable def o4 : Array Oper := rops c18
noncomputable def c19 : Code := cr c4
noncomputable def c20 : Code := cl c19
noncomputable def o6 : Array Oper := rops c20
noncomputable def c21 : Code := cr c19
end F12
/-- Lists of blocks are dealt. -/
theorem blockLists_ok {w₀ : World} {C : Nat → Nat} {i b : Nat} {d : Dk} {keys most : Nat} (hF : Lim w₀ C) (hi : i ≠ 0) (hd : DeckAt 55 w₀ C i b d) (hlen : d.list.length ≤ 9223372036854775807) (hkeys : keys ≤ 1000) (hmost : most ≤ 1000) : Calls Try.prog 12 #[.pointer (some ⟨b, 0, none⟩), .int .i64 keys, .int .i64 most] w₀ (Ret fun v w' => Stp [i] w₀ C w' C ∧ RV w' (Mc C) (listsSt d most keys).2 v ∧ DeckAt 55 w' C i b (listsSt d most keys).1) := by
  have hbc : C b = i := by obtain ⟨_, _, _, h⟩ := hd; exact h.col
  have hF0 := hF
  replace hF := hF.col2 i
  replace hd := hd.col2 hi
  have hT := Stp.refl [2, 3, 4, 5, 6, 7, 8, 9] w₀ (col2 C i)
  refine calls_start (c := F12.c0) (N := 21) [.pointer (some ⟨b, 0, none⟩), .int .i64 keys, .int .i64 most] Try.func12 (by kernel_rfl) (by kernel_rfl) (by kernel_rfl) ?_
  show Run _ _ _ _ [(0, .pointer (some ⟨b, 0, none⟩)), (1, .int .i64 keys), (2, .int .i64 most)] _ _
  refine run_seq (x := F12.c1) (y := F12.c2) (by kernel_rfl) ?_
  refine run_plain (id := 0) (ops := F12.o0) [(0, true)] (by kernel_rfl) (by kernel_rfl) ?_
  refine yS (by kernel_rfl : opAt F12.o0 0 = some (some 6, .assign (.const (.slice none 0 0)), none)) rfl rfl (fun w' hS => val_assign rfl) ?_
  refine Sch.nil ?_
  refine run_seq (x := F12.c3) (y := F12.c4) (by kernel_rfl) ?_
  refine run_plain (id := 1) (ops := F12.o1) [(0, true)] (by kernel_rfl) (by kernel_rfl) ?_
  refine yS (by kernel_rfl : opAt F12.o1 0 = some (some 7, .assign (.const (.slice none 0 0)), none)) rfl rfl (fun w' hS => val_assign rfl) ?_
  refine Sch.nil ?_
  refine run_seq (x := F12.c5) (y := F12.c19) (by kernel_rfl) ?_
  refine run_seq (x := F12.c6) (y := F12.c7) (by kernel_rfl) ?_
  refine run_plain (id := 2) (ops := F12.o2) [(0, true)] (by kernel_rfl) (by kernel_rfl) ?_
  refine yS (by kernel_rfl : opAt F12.o2 0 = some (some 8, .assign (.const (.int .i64 0)), none)) rfl rfl (fun w' hS => val_assign rfl) ?_
  refine Sch.nil ?_
  refine run_block (x := F12.c8) (id := 0) (by kernel_rfl) ?_
  refine run_loop (ι := Nat × (Nat → Nat) × Value) (I := fun x w => x.1 ≤ keys ∧ Lim w x.2.1 ∧ Stp [2, 3, 4, 5, 6, 7, 8, 9] w₀ (col2 C i) w x.2.1 ∧ DeckAt 55 w x.2.1 2 b (listsSt d most x.1).1 ∧ OwnL w x.2.1 3 39 x.2.2 (listsSt d most x.1).2) (e := fun x => [(0, .pointer (some ⟨b, 0, none⟩)), (1, .int .i64 keys), (2, .int .i64 most), (7, x.2.2), (8, .int .i64 x.1)]) (m := fun x => keys - x.1) (x₀ := (0, col2 C i, .slice none 0 0)) (body := F12.c9) (by kernel_rfl) (sub_cons 0 rfl rfl (sub_cons 1 rfl rfl (sub_cons 2 rfl rfl (sub_cons 7 rfl rfl (sub_cons 8 rfl rfl (sub_nil _)))))) ?_ ?_
  · exact ⟨Nat.zero_le _, hF, hT, hd, OwnL.nil⟩
  intro ⟨j, Cj, vo⟩ w1 hI next
  obtain ⟨hj, hF, hT, hd, ho⟩ := hI
  simp only at hj hF hT hd ho
  show Run _ _ _ _ [(0, .pointer (some ⟨b, 0, none⟩)), (1, .int .i64 keys), (2, .int .i64 most), (7, vo), (8, .int .i64 (j : Int))] _ _
  have hll := listsSt_list d most j
  have hlo := listsSt_len d most j
  refine run_seq (x := F12.c10) (y := F12.c15) (by kernel_rfl) ?_
  refine run_seq (x := F12.c11) (y := F12.c12) (by kernel_rfl) ?_
  refine run_plain (id := 3) (ops := F12.o3) [(0, true), (1, true), (2, true)] (by kernel_rfl) (by kernel_rfl) ?_
  refine yS (by kernel_rfl : opAt F12.o3 0 = some (some 9, .move (.tmp 8), none)) rfl rfl (fun w' hS => val_move rfl) ?_
  refine yS (by kernel_rfl : opAt F12.o3 1 = some (some 10, .move (.tmp 1), none)) rfl rfl (fun w' hS => val_move rfl) ?_
  refine yS (by kernel_rfl : opAt F12.o3 2 = some (some 11, .binOp .lss 3 (.tmp 9) (.tmp 10) 3, none)) rfl rfl (fun w' hS => val_lss rfl rfl) ?_
  refine Sch.nil ?_
  refine run_if (x := F12.c13) (y := F12.c14) (o := .tmp 11) (by kernel_rfl) rfl (fun h11 => ?_) (fun h11 => ?_)
  · skip
    have hjk : j < keys := by omega
    refine run_skip (by kernel_rfl) ?_
    refine run_seq (x := F12.c16) (y := F12.c18) (by kernel_rfl) ?_
    refine run_block (x := F12.c17) (id := 1) (by kernel_rfl) ?_
    refine run_plain (id := 5) (ops := F12.o5) [(0, true), (1, true), (2, true), (3, false), (4, false), (5, false), (6, true)] (by kernel_rfl) (by kernel_rfl) ?_
    refine yS (by kernel_rfl : opAt F12.o5 0 = some (some 14, .move (.tmp 7), none)) rfl rfl (fun w' hS => val_move rfl) ?_
    refine yS (by kernel_rfl : opAt F12.o5 1 = some (some 15, .move (.tmp 0), none)) rfl rfl (fun w' hS => val_move rfl) ?_
    refine yS (by kernel_rfl : opAt F12.o5 2 = some (some 16, .move (.tmp 2), none)) rfl rfl (fun w' hS => val_move rfl) ?_
    refine cS (by kernel_rfl : opAt F12.o5 3 = some (some 17, .call { callee := .value (.func 17), args := #[(.tmp 15), (.tmp 16)], argTypes := #[25, 3] }, none)) rfl rfl (ent Try.call17 rfl) (blocks_ok hF (by decide) hd (by rw [hll]; exact hlen) hmost) ?_
    rintro vw2 w2 ⟨hs, g17, hd⟩
    refine ⟨trivial, ?_⟩
    replace hF := hF.st hs
    replace hT := hT.trans hs (by simp)
    replace ho := ho.st hs (by first | decide | (simp <;> omega)) (by first | decide | (simp <;> omega))
    refine aS (by kernel_rfl : opAt F12.o5 4 = some (some 18, .buildSlice 28 1 #[(0, (.tmp 17))], none)) rfl rfl (a_buildSlice (ys := ([blocksOf (listsSt d most j).1 most] : List (List Block))) (e := 39) (bytes := 24) hF (by kernel_rfl) rfl (by decide) (by decide) ⟨rfl, ⟨_, rfl, g17⟩, trivial⟩) ?_
    rintro v18 w3 ⟨hs, g18, hF⟩
    refine ⟨trivial, ?_⟩
    replace hT := hT.trans hs (by simp)
    replace hd := hd.st hs (by first | decide | (simp <;> omega)) (by first | decide | (simp <;> omega))
    replace ho := ho.st hs (by first | decide | (simp <;> omega)) (by first | decide | (simp <;> omega))
    replace g17 := g17.st hs (by first | decide | (simp <;> omega))
    refine aS (by kernel_rfl : opAt F12.o5 5 = some (some 19, .call { callee := .builtin .append, args := #[(.tmp 14), (.tmp 18)], argTypes := #[28, 28] }, none)) rfl rfl (a_append (e := 39) (bytes := 24) hF (by decide) rfl rfl (by kernel_rfl) (by decide) ho g18 (by simp; omega) (by simp; omega)) ?_
    rintro v19 w4 ⟨Cw4, hs, ho, hF⟩
    refine ⟨trivial, ?_⟩
    replace hT := hT.trans hs (by simp)
    replace hd := hd.st hs (by first | decide | (simp <;> omega)) (by first | decide | (simp <;> omega))
    replace g17 := g17.st hs (by first | decide | (simp <;> omega))
    replace g18 := g18.st hs (by first | decide | (simp <;> omega))
    refine yS (by kernel_rfl : opAt F12.o5 6 = some (some 7, .assign (.tmp 19), none)) rfl rfl (fun w' hS => val_assign rfl) ?_
    refine Sch.nil ?_
    refine run_inBlock ?_
    refine run_plain (id := 4) (ops := F12.o4) [(0, true), (1, true), (2, true)] (by kernel_rfl) (by kernel_rfl) ?_
    refine yS (by kernel_rfl : opAt F12.o4 0 = some (some 12, .move (.tmp 8), none)) rfl rfl (fun w' hS => val_move rfl) ?_
    refine yS (by kernel_rfl : opAt F12.o4 1 = some (some 13, .binOp .add 3 (.tmp 12) (.const (.int .i64 1)) 3, none)) rfl rfl (fun w' hS => val_addi rfl rfl (by omega) (by omega)) ?_
    refine yS (by kernel_rfl : opAt F12.o4 2 = some (some 8, .assign (.tmp 13), none)) rfl rfl (fun w' hS => val_assign rfl) ?_
    refine Sch.nil ?_
    refine kp ?_ (next (j + 1, Cw4, v19) _ ⟨by simp only; omega, hF, hT, hd, ho⟩ (by simp only; omega))
    exact sub_cons 0 rfl rfl (sub_cons 1 rfl rfl (sub_cons 2 rfl rfl (sub_cons 7 rfl rfl (sub_cons 8 rfl (eq_int (by simp)) (sub_nil _)))))
  · skip
    have hjk : j = keys := by omega
    refine run_exit (id := 0) (by kernel_rfl) rfl ?_
    refine run_seq (x := F12.c20) (y := F12.c21) (by kernel_rfl) ?_
    refine run_plain (id := 6) (ops := F12.o6) [(0, true), (1, true)] (by kernel_rfl) (by kernel_rfl) ?_
    refine yS (by kernel_rfl : opAt F12.o6 0 = some (some 20, .move (.tmp 7), none)) rfl rfl (fun w' hS => val_move rfl) ?_
    refine yS (by kernel_rfl : opAt F12.o6 1 = some (some 6, .assign (.tmp 20), none)) rfl rfl (fun w' hS => val_assign rfl) ?_
    refine Sch.nil ?_
    refine run_ret1 (by kernel_rfl) Try.func12 Try.results12 rfl ?_
    subst hjk
    exact ⟨hT.out2 (by decide), ho.out hT hF0 (Mc_col2 C i) (fun b _ => col2_lt C i (by decide) b) (by omega), DeckAt.out hd hT hF0 hbc⟩
end Go.Proofs.Ytejbklahkkjmhaa
