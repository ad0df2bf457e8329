/- Steps through functions of the program. -/
import Derived.Test.YtpmokjccfaakfaaKQ8
set_option linter.unusedVariables false
set_option linter.unusedSimpArgs false
set_option maxRecDepth 100000
set_option maxHeartbeats 400000
namespace Go.Proofs.Ytpmokjccfaakfaa
open Go.K Go.K.Rep

namespace F40
noncomputable def c0 : Code := bodyOf Try.f40
noncomputable def c1 : Code := cl c0
noncomputable def o0 : Array Oper := rops c1
noncomputable def c2 : Code := cr c0
noncomputable def c3 : Code := cl c2
noncomputable def o1 : Array Oper := rops c3
noncomputable def c4 : Code := cr c2
noncomputable def c5 : Code := cl c4
noncomputable def c6 : Code := cl c5
noncomputable def o2 : Array Oper := rops c6
noncomputable def c7 : Code := cr c5
noncomputable def c8 : Code := cl c7
noncomputable def c9 : Code := cl c8
noncomputable def c10 : Code := cl c9
noncomputable def c11 : Code := cl c10
noncomputable def o3 : Array Oper := rops c11
noncomputable def c12 : Code := cr c10
noncomputable def c13 : Code := cl c12
noncomputable def c14 : Code := cr c12
noncomputable def c15 : Code := cr c9
noncomputable def c16 : Code := cl c15
noncomputable def c17 : Code := cl c16
noncomputable def c18 : Code := cl c17
noncomputable def o5 : Array Oper := rops c18
noncomputable def c19 : Code := cr c17
noncomputable def c20 : Code := cl c19
noncomputable def o6 : Array Oper := rops c20
noncomputable def c21 : Code := cr c19
noncomputable def c22 : Code := cr c15
noncomputable def o4 : Array Oper := rops c22
noncomputable def c23 : Code := cr c4
noncomputable def c24 : Code := cl c23
noncomputable def o7 : Array Oper := rops c24
noncomputable def c25 : Code := cr c23
end F40
/-- 'plan'. -/
theorem plan_ok {w₀ : World} {C : Nat → Nat} {mask : Nat} {q m : Int} (hF : Lim w₀ C) (hm : mask < 2 ^ 8) : Calls Try.prog 40 #[.int .i64 (mask : Int), .int .i64 q, .int .i64 m] w₀ (Ret fun v w' => ∃ u, v = .agg #[u, .int .i64 q, .int .i64 m] ∧ Stp [] w₀ C w' C ∧ RV w' (Mc C) (bitsL mask 8) u) := by
  have hF0 := hF
  have hT := Stp.refl [2, 3, 4, 5, 6, 7, 8, 9] w₀ (col1 C)
  replace hF := hF.col1
  refine calls_start (c := F40.c0) (N := 30) [.int .i64 (mask : Int), .int .i64 q, .int .i64 m] Try.func40 (by kernel_rfl) (by kernel_rfl) (by kernel_rfl) ?_
  show Run _ _ _ _ [(0, .int .i64 (mask : Int)), (1, .int .i64 q), (2, .int .i64 m)] _ _
  refine run_seq (x := F40.c1) (y := F40.c2) (by kernel_rfl) ?_
  refine run_plain (id := 0) (ops := F40.o0) [(0, false)] (by kernel_rfl) (by kernel_rfl) ?_
  refine aS (by kernel_rfl : opAt F40.o0 0 = some (some 6, .alloc 44, none)) rfl rfl (a_alloc (cs := [.slice none 0 0, .int .i64 0, .int .i64 0]) hF 3 (by kernel_rfl)) ?_
  rintro _ w1 ⟨Cw1, bw1, rfl, hs, hres, hF⟩
  refine ⟨trivial, ?_⟩
  replace hT := hT.trans hs (by simp)
  refine Sch.nil ?_
  refine run_seq (x := F40.c3) (y := F40.c4) (by kernel_rfl) ?_
  refine run_plain (id := 1) (ops := F40.o1) [(0, true), (1, true), (2, true), (3, false), (4, false)] (by kernel_rfl) (by kernel_rfl) ?_
  refine yS (by kernel_rfl : opAt F40.o1 0 = some (some 9, .move (.tmp 1), none)) rfl rfl (fun w' hS => val_move rfl) ?_
  refine yS (by kernel_rfl : opAt F40.o1 1 = some (some 10, .move (.tmp 2), none)) rfl rfl (fun w' hS => val_move rfl) ?_
  refine yS (by kernel_rfl : opAt F40.o1 2 = some (some 11, .build 44 #[(1, (.tmp 9)), (2, (.tmp 10))], none)) rfl rfl (fun w' hS => val_build (zs := [.slice none 0 0, .int .i64 0, .int .i64 0]) (ps := [(0, 1), (1, 1), (2, 1)]) (qs := [(1, [.int .i64 q]), (2, [.int .i64 m])]) (cs := [.slice none 0 0, .int .i64 q, .int .i64 m]) (by kernel_rfl) (by kernel_rfl) ⟨rfl, ⟨_, rfl, rfl⟩, rfl, ⟨_, rfl, rfl⟩, trivial⟩ rfl) ?_
  refine aS (by kernel_rfl : opAt F40.o1 3 = some (some 7, .alloc 44, none)) rfl rfl (a_alloc (cs := [.slice none 0 0, .int .i64 0, .int .i64 0]) hF 4 (by kernel_rfl)) ?_
  rintro _ w2 ⟨Cw2, bw2, rfl, hs, hp, hF⟩
  refine ⟨trivial, ?_⟩
  replace hT := hT.trans hs (by simp)
  replace hres := hres.st hs (by first | decide | (simp <;> omega))
  refine aN (by kernel_rfl : opAt F40.o1 4 = some (none, .store 44 (.tmp 7) (.tmp 11), none)) rfl (a_storeAll (vs := [.slice none 0 0, .int .i64 q, .int .i64 m]) (n := 3) rfl rfl (by kernel_rfl) rfl rfl (by intro u hu; simp only [List.mem_cons, List.not_mem_nil, or_false] at hu; rcases hu with rfl | rfl | rfl <;> first | rfl | exact rfl) hp rfl) ?_
  rintro _ w3 ⟨rfl, hs, hp⟩
  refine ⟨trivial, ?_⟩
  replace hF := hF.st hs
  replace hT := hT.trans hs (by simp)
  replace hres := hres.st hs (by first | decide | (simp <;> omega))
  refine Sch.nil ?_
  refine run_seq (x := F40.c5) (y := F40.c23) (by kernel_rfl) ?_
  refine run_seq (x := F40.c6) (y := F40.c7) (by kernel_rfl) ?_
  refine run_plain (id := 2) (ops := F40.o2) [(0, true)] (by kernel_rfl) (by kernel_rfl) ?_
  refine yS (by kernel_rfl : opAt F40.o2 0 = some (some 8, .assign (.const (.int .i64 0)), none)) rfl rfl (fun w' hS => val_assign rfl) ?_
  refine Sch.nil ?_
  refine run_block (x := F40.c8) (id := 0) (by kernel_rfl) ?_
  
  refine run_loop (ι := Nat × Value × (Nat → Nat)) (I := fun x w => x.1 ≤ 8 ∧ Lim w x.2.2 ∧ Stp [2, 3, 4, 5, 6, 7, 8, 9] w₀ (col1 C) w x.2.2 ∧ OwnB w x.2.2 3 bw1 (.cells [.slice none 0 0, .int .i64 0, .int .i64 0].toArray 44) ∧ OwnB w x.2.2 4 bw2 (.cells [x.2.1, .int .i64 q, .int .i64 m].toArray 44) ∧ OwnL w x.2.2 5 3 x.2.1 (bitsL mask x.1)) (e := fun x => [(0, .int .i64 (mask : Int)), (6, .pointer (some ⟨bw1, 0, none⟩)), (7, .pointer (some ⟨bw2, 0, none⟩)), (8, .int .i64 x.1)]) (m := fun x => 8 - x.1) (x₀ := (0, .slice none 0 0, Cw2)) (body := F40.c9) (by kernel_rfl) (sub_cons 0 rfl rfl (sub_cons 6 rfl rfl (sub_cons 7 rfl rfl (sub_cons 8 rfl rfl (sub_nil _))))) ?_ ?_
  · exact ⟨Nat.zero_le _, hF, hT, hres, hp, OwnL.nil⟩
  intro ⟨i, vo, C1⟩ w4 hI next
  obtain ⟨hi, hF, hT, hres, hp, ho⟩ := hI
  try simp only at hi hF hT hres hp ho
  have next1 := next
  clear next
  show Run _ _ _ _ [(0, .int .i64 (mask : Int)), (6, .pointer (some ⟨bw1, 0, none⟩)), (7, .pointer (some ⟨bw2, 0, none⟩)), (8, .int .i64 i)] _ _
  have hbl := bitsL_len mask i
  refine run_seq (x := F40.c10) (y := F40.c15) (by kernel_rfl) ?_
  refine run_seq (x := F40.c11) (y := F40.c12) (by kernel_rfl) ?_
  refine run_plain (id := 3) (ops := F40.o3) [(0, true), (1, true), (2, true), (3, true)] (by kernel_rfl) (by kernel_rfl) ?_
  refine yS (by kernel_rfl : opAt F40.o3 0 = some (some 12, .move (.tmp 0), none)) rfl rfl (fun w' hS => val_move rfl) ?_
  refine yS (by kernel_rfl : opAt F40.o3 1 = some (some 13, .move (.tmp 8), none)) rfl rfl (fun w' hS => val_move rfl) ?_
  refine yS (by kernel_rfl : opAt F40.o3 2 = some (some 14, .binOp .shr 3 (.tmp 12) (.tmp 13) 3, none)) rfl rfl (fun w' hS => val_shrE (r := ((mask / 2 ^ i : Nat) : Int)) rfl rfl (by omega) (shrN (by omega))) ?_
  refine yS (by kernel_rfl : opAt F40.o3 3 = some (some 15, .binOp .gtr 3 (.tmp 14) (.const (.int .i64 0)) 3, none)) rfl rfl (fun w' hS => val_gtr rfl rfl) ?_
  refine Sch.nil ?_
  refine run_if (x := F40.c13) (y := F40.c14) (o := .tmp 15) (by kernel_rfl) rfl (fun h15 => ?_) (fun h15 => ?_)
  · skip
    have hi8 : i < 8 := by
      rcases Nat.lt_or_ge i 8 with h | h
      · exact h
      · have : mask / 2 ^ i = 0 := Nat.div_eq_of_lt (Nat.lt_of_lt_of_le hm (Nat.pow_le_pow_right (n := 2) (by decide) h))
        omega
    refine run_skip (by kernel_rfl) ?_
    refine run_seq (x := F40.c16) (y := F40.c22) (by kernel_rfl) ?_
    refine run_block (x := F40.c17) (id := 1) (by kernel_rfl) ?_
    refine run_seq (x := F40.c18) (y := F40.c19) (by kernel_rfl) ?_
    refine run_plain (id := 5) (ops := F40.o5) [(0, true), (1, true), (2, true), (3, true), (4, true)] (by kernel_rfl) (by kernel_rfl) ?_
    refine yS (by kernel_rfl : opAt F40.o5 0 = some (some 18, .move (.tmp 0), none)) rfl rfl (fun w' hS => val_move rfl) ?_
    refine yS (by kernel_rfl : opAt F40.o5 1 = some (some 19, .move (.tmp 8), none)) rfl rfl (fun w' hS => val_move rfl) ?_
    refine yS (by kernel_rfl : opAt F40.o5 2 = some (some 20, .binOp .shr 3 (.tmp 18) (.tmp 19) 3, none)) rfl rfl (fun w' hS => val_shrE (r := ((mask / 2 ^ i : Nat) : Int)) rfl rfl (by omega) (shrN (by omega))) ?_
    refine yS (by kernel_rfl : opAt F40.o5 3 = some (some 21, .binOp .and 3 (.tmp 20) (.const (.int .i64 1)) 3, none)) rfl rfl (fun w' hS => val_andE (r := ((mask / 2 ^ i &&& 1 : Nat) : Int)) rfl rfl (bits_and (n := 1) (Nat.lt_of_le_of_lt (Nat.div_le_self _ _) (by omega)) (by decide))) ?_
    refine yS (by kernel_rfl : opAt F40.o5 4 = some (some 22, .binOp .eql 3 (.tmp 21) (.const (.int .i64 1)) 3, none)) rfl rfl (fun w' hS => val_eql rfl rfl) ?_
    refine Sch.nil ?_
    refine run_if (x := F40.c20) (y := F40.c21) (o := .tmp 22) (by kernel_rfl) rfl (fun h22 => ?_) (fun h22 => ?_)
    · skip
      have hb := bitsL_succ mask i
      rw [if_pos ((bit_is _ _).1 h22)] at hb
      refine run_plain (id := 6) (ops := F40.o6) [(0, true), (1, false), (2, true), (3, false), (4, false), (5, true), (6, false)] (by kernel_rfl) (by kernel_rfl) ?_
      refine yS (by kernel_rfl : opAt F40.o6 0 = some (some 23, .fieldAddr 44 (.tmp 7) 0, none)) rfl rfl (fun w' hS => val_fieldAddr (off := 0) (by kernel_rfl) rfl) ?_
      refine nS (by kernel_rfl : opAt F40.o6 1 = some (some 24, .load 22 (.tmp 23), none)) rfl rfl trivial (val_loadOwn hp.at_ (by kernel_rfl) rfl rfl) ?_
      refine yS (by kernel_rfl : opAt F40.o6 2 = some (some 25, .move (.tmp 8), none)) rfl rfl (fun w' hS => val_move rfl) ?_
      refine aS (by kernel_rfl : opAt F40.o6 3 = some (some 26, .buildSlice 22 1 #[(0, (.tmp 25))], none)) rfl rfl (a_buildSlice (ys := ([(i : Int)] : List Int)) (e := 3) (bytes := 8) hF (by kernel_rfl) rfl (by decide) (by decide) ⟨rfl, ⟨_, rfl, rv_int.2 rfl⟩, trivial⟩) ?_
      rintro v26 w5 ⟨hs, g26, hF⟩
      refine ⟨trivial, ?_⟩
      replace hT := hT.trans hs (by simp)
      replace hres := hres.st hs (by first | decide | (simp <;> omega))
      replace hp := hp.st hs (by first | decide | (simp <;> omega))
      replace ho := ho.st hs (by first | decide | (simp <;> omega)) (by first | decide | (simp <;> omega))
      refine aS (by kernel_rfl : opAt F40.o6 4 = some (some 27, .call { callee := .builtin .append, args := #[(.tmp 24), (.tmp 26)], argTypes := #[22, 22] }, none)) rfl rfl (a_append (e := 3) (bytes := 8) hF (by decide) rfl rfl (by kernel_rfl) (by decide) ho g26 (by simp; omega) (by simp; omega)) ?_
      rintro v27 w6 ⟨Cw6, hs, ho, hF⟩
      refine ⟨trivial, ?_⟩
      replace hT := hT.trans hs (by simp)
      replace hres := hres.st hs (by first | decide | (simp <;> omega))
      replace hp := hp.st hs (by first | decide | (simp <;> omega))
      replace g26 := g26.st hs (by first | decide | (simp <;> omega))
      refine yS (by kernel_rfl : opAt F40.o6 5 = some (some 28, .fieldAddr 44 (.tmp 7) 0, none)) rfl rfl (fun w' hS => val_fieldAddr (off := 0) (by kernel_rfl) rfl) ?_
      refine aN (by kernel_rfl : opAt F40.o6 6 = some (none, .store 22 (.tmp 28) (.tmp 27), none)) rfl (a_store1 rfl rfl (by kernel_rfl) ho.one.1 ho.one.2 hp (by simp)) ?_
      rintro _ w7 ⟨rfl, hs, hp⟩
      refine ⟨trivial, ?_⟩
      replace hF := hF.st hs
      replace hT := hT.trans hs (by simp)
      replace hres := hres.st hs (by first | decide | (simp <;> omega))
      replace ho := ho.st hs (by first | decide | (simp <;> omega)) (by first | decide | (simp <;> omega))
      replace g26 := g26.st hs (by first | decide | (simp <;> omega))
      refine Sch.nil ?_
      refine run_inBlock ?_
      refine run_plain (id := 4) (ops := F40.o4) [(0, true), (1, true), (2, true)] (by kernel_rfl) (by kernel_rfl) ?_
      refine yS (by kernel_rfl : opAt F40.o4 0 = some (some 16, .move (.tmp 8), none)) rfl rfl (fun w' hS => val_move rfl) ?_
      refine yS (by kernel_rfl : opAt F40.o4 1 = some (some 17, .binOp .add 3 (.tmp 16) (.const (.int .i64 1)) 3, none)) rfl rfl (fun w' hS => val_addi rfl rfl (by omega) (by omega)) ?_
      refine yS (by kernel_rfl : opAt F40.o4 2 = some (some 8, .assign (.tmp 17), none)) rfl rfl (fun w' hS => val_assign rfl) ?_
      refine Sch.nil ?_
      refine kp (sub_cons 0 rfl rfl (sub_cons 6 rfl rfl (sub_cons 7 rfl rfl (sub_cons 8 rfl (eq_int (by simp)) (sub_nil _))))) (next1 (i + 1, v27, Cw6) _ ⟨(by first | omega | (simp only; omega)), hF, hT, hres, hp, (by simp only; rw [hb]; exact ho)⟩ (by first | omega | (simp only; omega)))
    · skip
      have hb := bitsL_succ mask i
      rw [if_neg (fun e => h22 ((bit_is _ _).2 e))] at hb
      refine run_skip (by kernel_rfl) ?_
      refine run_inBlock ?_
      refine run_plain (id := 4) (ops := F40.o4) [(0, true), (1, true), (2, true)] (by kernel_rfl) (by kernel_rfl) ?_
      refine yS (by kernel_rfl : opAt F40.o4 0 = some (some 16, .move (.tmp 8), none)) rfl rfl (fun w' hS => val_move rfl) ?_
      refine yS (by kernel_rfl : opAt F40.o4 1 = some (some 17, .binOp .add 3 (.tmp 16) (.const (.int .i64 1)) 3, none)) rfl rfl (fun w' hS => val_addi rfl rfl (by omega) (by omega)) ?_
      refine yS (by kernel_rfl : opAt F40.o4 2 = some (some 8, .assign (.tmp 17), none)) rfl rfl (fun w' hS => val_assign rfl) ?_
      refine Sch.nil ?_
      refine kp (sub_cons 0 rfl rfl (sub_cons 6 rfl rfl (sub_cons 7 rfl rfl (sub_cons 8 rfl (eq_int (by simp)) (sub_nil _))))) (next1 (i + 1, vo, C1) _ ⟨(by first | omega | (simp only; omega)), hF, hT, hres, hp, (by simp only; rw [hb]; exact ho)⟩ (by first | omega | (simp only; omega)))
  · skip
    have hlt : mask < 2 ^ i := by
      rcases Nat.lt_or_ge mask (2 ^ i) with h | h
      · exact h
      · have := Nat.div_pos h (Nat.pow_pos (by decide)); omega
    refine run_exit (id := 0) (by kernel_rfl) rfl ?_
    refine run_seq (x := F40.c24) (y := F40.c25) (by kernel_rfl) ?_
    refine run_plain (id := 7) (ops := F40.o7) [(0, false), (1, false)] (by kernel_rfl) (by kernel_rfl) ?_
    refine nS (by kernel_rfl : opAt F40.o7 0 = some (some 29, .load 44 (.tmp 7), none)) rfl rfl trivial (val_loadOwnAgg (n := 3) hp.at_ (by kernel_rfl) (by kernel_rfl) rfl rfl rfl) ?_
    refine aN (by kernel_rfl : opAt F40.o7 1 = some (none, .store 44 (.tmp 6) (.tmp 29), none)) rfl (a_storeAll (vs := [vo, .int .i64 q, .int .i64 m]) (n := 3) rfl rfl (by kernel_rfl) rfl rfl (by intro u hu; simp only [List.mem_cons, List.not_mem_nil, or_false] at hu; rcases hu with rfl | rfl | rfl <;> first | rfl | exact ho.one.2) hres rfl) ?_
    rintro _ w8 ⟨rfl, hs, hres⟩
    refine ⟨trivial, ?_⟩
    replace hF := hF.st hs
    replace hT := hT.trans hs (by simp)
    replace hp := hp.st hs (by first | decide | (simp <;> omega))
    replace ho := ho.st hs (by first | decide | (simp <;> omega)) (by first | decide | (simp <;> omega))
    refine Sch.nil ?_
    refine run_retC1 (by kernel_rfl) Try.func40 Try.results40 rfl hres.at_ (by kernel_rfl) (by kernel_rfl) rfl ?_
    rw [← bitsL_any (m := 8) hlt hm]
    exact ⟨_, rfl, hT.out1 (by decide), ho.out hT hF0 (Mc_col1 C) (fun b _ => col1_lt C (by decide) b) (by omega)⟩
end Go.Proofs.Ytpmokjccfaakfaa

