/- Steps through functions of the program. -/
import Derived.Test.YtpmokjccfaakfaaKQK
import Derived.Test.YtpmokjccfaakfaaKPlan3
set_option linter.unusedVariables false
set_option linter.unusedSimpArgs false
set_option maxRecDepth 100000
set_option maxHeartbeats 400000
namespace Go.Proofs.Ytpmokjccfaakfaa
open Go.K Go.K.Rep

namespace F6
noncomputable def c0 : Code := bodyOf Try.f6
noncomputable def c1 : Code := cl c0
noncomputable def o0 : Array Oper := rops c1
noncomputable def c2 : Code := cr c0
noncomputable def c3 : Code := cl c2
noncomputable def c4 : Code := cl c3
noncomputable def o1 : Array Oper := rops c4
noncomputable def c5 : Code := cr c3
noncomputable def c6 : Code := cl c5
noncomputable def c7 : Code := cl c6
noncomputable def o2 : Array Oper := rops c7
noncomputable def c8 : Code := cr c6
noncomputable def c9 : Code := cr c5
noncomputable def c10 : Code := cr c2
noncomputable def c11 : Code := cl c10
noncomputable def o3 : Array Oper := rops c11
noncomputable def c12 : Code := cr c10
noncomputable def c13 : Code := cl c12
noncomputable def o4 : Array Oper := rops c13
noncomputable def c14 : Code := cr c12
noncomputable def c15 : Code := cl c14
noncomputable def o5 : Array Oper := rops c15
noncomputable def c16 : Code := cr c14
noncomputable def c17 : Code := cl c16
noncomputable def o6 : Array Oper := rops c17
noncomputable def c18 : Code := cr c16
noncomputable def c19 : Code := cl c18
noncomputable def o7 : Array Oper := rops c19
noncomputable def c20 : Code := cr c18
noncomputable def c21 : Code := cl c20
noncomputable def o8 : Array Oper := rops c21
noncomputable def c22 : Code := cr c20
noncomputable def c23 : Code := cl c22
noncomputable def c24 : Code := cl c23
noncomputable def o9 : Array Oper := rops c24
noncomputable def c25 : Code := cr c23
noncomputable def c26 : Code := cl c25
noncomputable def c27 : Code := cl c26
noncomputable def c28 : Code := cl c27
noncomputable def o10 : Array Oper := rops c28
noncomputable def c29 : Code := cr c27
noncomputable def c30 : Code := cl c29
noncomputable def c31 : Code := cl c30
noncomputable def c32 : Code := cr c30
noncomputable def c33 : Code := cr c29
noncomputable def c34 : Code := cl c33
noncomputable def c35 : Code := cl c34
noncomputable def c36 : Code := cl c35
noncomputable def o11 : Array Oper := rops c36
noncomputable def c37 : Code := cr c35
noncomputable def c38 : Code := cl c37
noncomputable def o12 : Array Oper := rops c38
noncomputable def c39 : Code := cr c37
noncomputable def c40 : Code := cl c39
noncomputable def o13 : Array Oper := rops c40
noncomputable def c41 : Code := cr c39
noncomputable def c42 : Code := cr c33
noncomputable def o14 : Array Oper := rops c42
noncomputable def c43 : Code := cr c22
noncomputable def c44 : Code := cl c43
noncomputable def o15 : Array Oper := rops c44
noncomputable def c45 : Code := cr c43
noncomputable def c46 : Code := cl c45
noncomputable def c47 : Code := cl c46
noncomputable def o16 : Array Oper := rops c47
noncomputable def c48 : Code := cr c46
noncomputable def c49 : Code := cl c48
noncomputable def c50 : Code := cl c49
noncomputable def c51 : Code := cl c50
noncomputable def o17 : Array Oper := rops c51
noncomputable def c52 : Code := cr c50
noncomputable def c53 : Code := cl c52
noncomputable def c54 : Code := cl c53
noncomputable def c55 : Code := cr c53
noncomputable def c56 : Code := cr c52
noncomputable def c57 : Code := cl c56
noncomputable def c58 : Code := cl c57
noncomputable def c59 : Code := cl c58
noncomputable def o18 : Array Oper := rops c59
noncomputable def c60 : Code := cr c58
noncomputable def c61 : Code := cl c60
noncomputable def o19 : Array Oper := rops c61
noncomputable def c62 : Code := cr c60
noncomputable def c63 : Code := cl c62
noncomputable def o20 : Array Oper := rops c63
noncomputable def c64 : Code := cr c62
noncomputable def c65 : Code := cr c56
noncomputable def o21 : Array Oper := rops c65
noncomputable def c66 : Code := cr c45
noncomputable def c67 : Code := cl c66
noncomputable def o22 : Array Oper := rops c67
noncomputable def c68 : Code := cr c66
noncomputable def c69 : Code := cl c68
noncomputable def o23 : Array Oper := rops c69
noncomputable def c70 : Code := cr c68
noncomputable def c71 : Code := cl c70
noncomputable def o24 : Array Oper := rops c71
noncomputable def c72 : Code := cr c70
end F6
/-- The statement's function answers true. -/
theorem plannerNever_ok {w₀ : World} {C : Nat → Nat} {l : List Int} {vl : Value} (hF : Lim w₀ C) (hl : RV w₀ (Mc C) l vl) : Calls Try.prog 6 #[vl] w₀ (Ret fun v w' => v = .bool true ∧ Stp [] w₀ C w' C) := by
  have hF0 := hF
  have hT := Stp.refl [2, 3, 4, 5, 6, 7, 8, 9] w₀ (col1 C)
  replace hF := hF.col1
  replace hl : RV w₀ (Mc (col1 C)) l vl := by rw [Mc_col1]; exact hl
  refine calls_start (c := F6.c0) (N := 120) [vl] Try.func6 (by kernel_rfl) (by kernel_rfl) (by kernel_rfl) ?_
  show Run _ _ _ _ [(0, vl)] _ _
  refine run_seq (x := F6.c1) (y := F6.c2) (by kernel_rfl) ?_
  refine run_plain (id := 0) (ops := F6.o0) [(0, true)] (by kernel_rfl) (by kernel_rfl) ?_
  refine yS (by kernel_rfl : opAt F6.o0 0 = some (some 2, .assign (.const (.bool false)), none)) rfl rfl (fun w' hS => val_assign rfl) ?_
  refine Sch.nil ?_
  refine run_seq (x := F6.c3) (y := F6.c10) (by kernel_rfl) ?_
  refine run_seq (x := F6.c4) (y := F6.c5) (by kernel_rfl) ?_
  refine run_plain (id := 1) (ops := F6.o1) [(0, false), (1, true), (2, true), (3, true), (4, false), (5, true), (6, true)] (by kernel_rfl) (by kernel_rfl) ?_
  refine cS (by kernel_rfl : opAt F6.o1 0 = some (some 17, .call { callee := .value (.func 9), args := #[], argTypes := #[] }, none)) rfl rfl (ent Try.call9 rfl) (awake_ok hF) ?_
  rintro vw1 w1 ⟨rfl, hs⟩
  refine ⟨trivial, ?_⟩
  replace hF := hF.st hs
  replace hT := hT.trans hs (by simp)
  replace hl := hl.st hs (by first | decide | (simp <;> omega))
  refine yS (by kernel_rfl : opAt F6.o1 1 = some (some 18, .unOp .not 4 (.tmp 17), none)) rfl rfl (fun w' hS => val_not rfl) ?_
  refine yS (by kernel_rfl : opAt F6.o1 2 = some (some 19, .move (.tmp 18), none)) rfl rfl (fun w' hS => val_move rfl) ?_
  refine yS (by kernel_rfl : opAt F6.o1 3 = some (some 20, .move (.tmp 0), (some (2, false)))) rfl rfl (fun w' hS => val_move rfl) ?_
  refine cS (by kernel_rfl : opAt F6.o1 4 = some (some 21, .call { callee := .value (.func 10), args := #[(.tmp 20)], argTypes := #[22] }, (some (2, false)))) rfl rfl (ent Try.call10 rfl) (few_any hl) ?_
  rintro vw2 w2 ⟨rfl, rfl⟩
  refine ⟨trivial, ?_⟩
  refine yS (by kernel_rfl : opAt F6.o1 5 = some (some 22, .unOp .not 4 (.tmp 21), (some (2, false)))) rfl rfl (fun w' hS => val_notd rfl) ?_
  refine yS (by kernel_rfl : opAt F6.o1 6 = some (some 23, .pick (.tmp 19) (.const (.bool true)) (.tmp 22), none)) rfl rfl (fun w' hS => val_pick_f rfl rfl) ?_
  refine Sch.nil ?_
  refine run_if (x := F6.c6) (y := F6.c9) (o := .tmp 23) (by kernel_rfl) rfl (fun h23 => ?_) (fun h23 => ?_)
  · skip
    refine run_seq (x := F6.c7) (y := F6.c8) (by kernel_rfl) ?_
    refine run_plain (id := 2) (ops := F6.o2) [(0, false), (1, true)] (by kernel_rfl) (by kernel_rfl) ?_
    refine cS (by kernel_rfl : opAt F6.o2 0 = some (some 24, .call { callee := .value (.func 9), args := #[], argTypes := #[] }, none)) rfl rfl (ent Try.call9 rfl) (awake_ok hF) ?_
    rintro vw3 w3 ⟨rfl, hs⟩
    refine ⟨trivial, ?_⟩
    replace hF := hF.st hs
    replace hT := hT.trans hs (by simp)
    replace hl := hl.st hs (by first | decide | (simp <;> omega))
    refine yS (by kernel_rfl : opAt F6.o2 1 = some (some 2, .assign (.tmp 24), none)) rfl rfl (fun w' hS => val_assign rfl) ?_
    refine Sch.nil ?_
    refine run_ret1 (by kernel_rfl) Try.func6 Try.results6 rfl ?_
    exact ⟨rfl, hT.out1 (by decide)⟩
  · skip
    refine run_skip (by kernel_rfl) ?_
    refine run_seq (x := F6.c11) (y := F6.c12) (by kernel_rfl) ?_
    refine run_plain (id := 3) (ops := F6.o3) [(0, true), (1, false), (2, true)] (by kernel_rfl) (by kernel_rfl) ?_
    refine yS (by kernel_rfl : opAt F6.o3 0 = some (some 25, .move (.tmp 0), none)) rfl rfl (fun w' hS => val_move rfl) ?_
    refine cS (by kernel_rfl : opAt F6.o3 1 = some (some 26, .call { callee := .value (.func 11), args := #[(.tmp 25)], argTypes := #[22] }, none)) rfl rfl (ent Try.call11 rfl) (new_any hF hl) ?_
    rintro vw4 w4 ⟨Cd, bd, rfl, hs, hF, hd⟩
    refine ⟨trivial, ?_⟩
    replace hT := hT.trans hs (by simp)
    replace hl := hl.st hs (by first | decide | (simp <;> omega))
    refine yS (by kernel_rfl : opAt F6.o3 2 = some (some 3, .assign (.tmp 26), none)) rfl rfl (fun w' hS => val_assign rfl) ?_
    refine Sch.nil ?_
    refine run_seq (x := F6.c13) (y := F6.c14) (by kernel_rfl) ?_
    refine run_plain (id := 4) (ops := F6.o4) [(0, true), (1, false), (2, true), (3, false), (4, true), (5, false), (6, false), (7, true)] (by kernel_rfl) (by kernel_rfl) ?_
    refine yS (by kernel_rfl : opAt F6.o4 0 = some (some 27, .move (.tmp 3), none)) rfl rfl (fun w' hS => val_move rfl) ?_
    refine cS (by kernel_rfl : opAt F6.o4 1 = some (some 28, .call { callee := .value (.func 12), args := #[(.tmp 27), (.const (.int .i64 3))], argTypes := #[29, 3] }, none)) rfl rfl (ent Try.call12 rfl) (keys_own (most := 3) hF (by decide) hd (by decide) 5 (by decide)) ?_
    rintro vk0 w5 ⟨Ck, ks0, hs, hF, hko, hd, hkl, hkk⟩
    refine ⟨trivial, ?_⟩
    replace hT := hT.trans hs (by simp)
    replace hl := hl.st hs (by first | decide | (simp <;> omega))
    refine yS (by kernel_rfl : opAt F6.o4 2 = some (some 29, .build 50 #[(0, (.const (.int .i64 9))), (1, (.const (.int .i64 1)))], none)) rfl rfl (fun w' hS => val_build (zs := [.int .i64 0, .int .i64 0]) (ps := [(0, 1), (1, 1)]) (qs := [(0, [.int .i64 9]), (1, [.int .i64 1])]) (cs := [.int .i64 9, .int .i64 1]) (by kernel_rfl) (by kernel_rfl) ⟨rfl, ⟨_, rfl, rfl⟩, rfl, ⟨_, rfl, rfl⟩, trivial⟩ rfl) ?_
    refine aS (by kernel_rfl : opAt F6.o4 3 = some (some 30, .buildSlice 26 1 #[(0, (.tmp 29))], none)) rfl rfl (a_buildSlice (ys := ([⟨9, 1⟩] : List Couple)) (e := 50) (bytes := 16) hF (by kernel_rfl) rfl (by decide) (by decide) ⟨rfl, ⟨_, rfl, rv_couple.2 rfl⟩, trivial⟩) ?_
    rintro v30 w6 ⟨hs, g30, hF⟩
    refine ⟨trivial, ?_⟩
    replace hT := hT.trans hs (by simp)
    replace hl := hl.st hs (by first | decide | (simp <;> omega))
    replace hd := hd.st hs (by first | decide | (simp <;> omega)) (by first | decide | (simp <;> omega))
    replace hko := hko.st hs (by first | decide | (simp <;> omega)) (by first | decide | (simp <;> omega))
    refine yS (by kernel_rfl : opAt F6.o4 4 = some (some 31, .build 28 #[(0, (.tmp 30))], none)) rfl rfl (fun w' hS => val_build (zs := [.slice none 0 0]) (ps := [(0, 1)]) (qs := [(0, [v30])]) (cs := [v30]) (by kernel_rfl) (by kernel_rfl) ⟨rfl, ⟨_, rfl, (g30.one rfl).1⟩, trivial⟩ rfl) ?_
    refine aS (by kernel_rfl : opAt F6.o4 5 = some (some 32, .buildSlice 23 1 #[(0, (.tmp 31))], none)) rfl rfl (a_buildSlice (ys := ([nvK] : List Key)) (e := 28) (bytes := 24) hF (by kernel_rfl) rfl (by decide) (by decide) ⟨rfl, ⟨_, rfl, rv_key g30⟩, trivial⟩) ?_
    rintro v32 w7 ⟨hs, g32, hF⟩
    refine ⟨trivial, ?_⟩
    replace hT := hT.trans hs (by simp)
    replace hl := hl.st hs (by first | decide | (simp <;> omega))
    replace hd := hd.st hs (by first | decide | (simp <;> omega)) (by first | decide | (simp <;> omega))
    replace hko := hko.st hs (by first | decide | (simp <;> omega)) (by first | decide | (simp <;> omega))
    replace g30 := g30.st hs (by first | decide | (simp <;> omega))
    refine aS (by kernel_rfl : opAt F6.o4 6 = some (some 33, .call { callee := .builtin .append, args := #[(.tmp 28), (.tmp 32)], argTypes := #[23, 23] }, none)) rfl rfl (a_append (e := 28) (bytes := 24) hF (by decide) rfl rfl (by kernel_rfl) (by decide) hko g32 (by simp; omega) (by simp; omega)) ?_
    rintro v33 w8 ⟨Cw8, hs, hko, hF⟩
    refine ⟨trivial, ?_⟩
    replace hT := hT.trans hs (by simp)
    replace hl := hl.st hs (by first | decide | (simp <;> omega))
    replace hd := hd.st hs (by first | decide | (simp <;> omega)) (by first | decide | (simp <;> omega))
    replace g30 := g30.st hs (by first | decide | (simp <;> omega))
    replace g32 := g32.st hs (by first | decide | (simp <;> omega))
    refine yS (by kernel_rfl : opAt F6.o4 7 = some (some 4, .assign (.tmp 33), none)) rfl rfl (fun w' hS => val_assign rfl) ?_
    refine Sch.nil ?_
    have hk := hko.frz (n := 5) (by decide) (by simp; omega)
    replace hd := hd.frz (n := 5) (by decide)
    replace hF := hF.frz 5
    replace hT := hT.frz (n := 5) (fun b => Nat.lt_of_lt_of_le (col1_lt2 C b) (by decide))
    clear hko g30 g32
    obtain ⟨ks, hks⟩ : ∃ l, l = ks0 ++ [nvK] := ⟨_, rfl⟩
    rw [← hks] at hk
    have hksl : ks.length = ks0.length + 1 := by rw [hks]; simp
    have hok : KeysOK ks := fun k hkm => by
      rw [hks] at hkm
      rcases List.mem_append.1 hkm with h | h
      · exact ⟨(hkk k h).1, fun c hc => by have := (hkk k h).2 c hc; omega⟩
      · rw [List.mem_singleton.1 h]; exact ⟨by decide, fun c hc => by simp only [nvK, List.mem_singleton] at hc; subst hc; decide⟩
    have hsm : KeysSm ks := hok.sm (by omega)
    have hatl : (atomsS ks).length ≤ 9 := by rw [hks]; exact nv_len hkk
    obtain ⟨lz, hlz, hlz8⟩ : ∃ z : Nat, z = 2 ^ ks0.length ∧ z ≤ 8 := ⟨_, rfl, Nat.pow_le_pow_right (n := 2) (by decide) hkl⟩
    have hlz1 : 1 ≤ lz := by rw [hlz]; exact Nat.pow_pos (by decide)
    refine run_seq (x := F6.c15) (y := F6.c16) (by kernel_rfl) ?_
    refine run_plain (id := 5) (ops := F6.o5) [(0, true), (1, false), (2, true)] (by kernel_rfl) (by kernel_rfl) ?_
    refine yS (by kernel_rfl : opAt F6.o5 0 = some (some 34, .move (.tmp 4), none)) rfl rfl (fun w' hS => val_move rfl) ?_
    refine cS (by kernel_rfl : opAt F6.o5 1 = some (some 35, .call { callee := .value (.func 15), args := #[(.tmp 34)], argTypes := #[23] }, none)) rfl rfl (ent Try.call15 rfl) (refAtoms_ok hF hk hsm) ?_
    rintro vat w9 ⟨hs, ha⟩
    refine ⟨trivial, ?_⟩
    replace hF := hF.st hs
    replace hT := hT.trans hs (by simp)
    replace hd := hd.st hs (by first | decide | (simp <;> omega)) (by first | decide | (simp <;> omega))
    replace hk := hk.st hs (by first | decide | (simp <;> omega))
    obtain ⟨at_, hat⟩ : ∃ l, l = atomsS ks := ⟨_, rfl⟩
    rw [← hat] at ha
    refine yS (by kernel_rfl : opAt F6.o5 2 = some (some 5, .assign (.tmp 35), none)) rfl rfl (fun w' hS => val_assign rfl) ?_
    refine Sch.nil ?_
    refine run_seq (x := F6.c17) (y := F6.c18) (by kernel_rfl) ?_
    refine run_plain (id := 6) (ops := F6.o6) [(0, true), (1, true), (2, false), (3, true)] (by kernel_rfl) (by kernel_rfl) ?_
    refine yS (by kernel_rfl : opAt F6.o6 0 = some (some 36, .move (.tmp 3), none)) rfl rfl (fun w' hS => val_move rfl) ?_
    refine yS (by kernel_rfl : opAt F6.o6 1 = some (some 37, .move (.tmp 4), none)) rfl rfl (fun w' hS => val_move rfl) ?_
    refine cS (by kernel_rfl : opAt F6.o6 2 = some (some 38, .call { callee := .value (.func 16), args := #[(.tmp 36), (.tmp 37)], argTypes := #[29, 23] }, none)) rfl rfl (ent Try.call16 rfl) (rates_own hF (by decide) hd hk hsm 6 (by decide)) ?_
    rintro vr w10 ⟨Cr, rs, hs, hF, hr, hd, hrl, hro⟩
    refine ⟨trivial, ?_⟩
    replace hT := hT.trans hs (by simp)
    replace hk := hk.st hs (by first | decide | (simp <;> omega))
    replace ha := ha.st hs (by first | decide | (simp <;> omega))
    rw [← hat] at hrl hatl
    refine yS (by kernel_rfl : opAt F6.o6 3 = some (some 6, .assign (.tmp 38), none)) rfl rfl (fun w' hS => val_assign rfl) ?_
    refine Sch.nil ?_
    refine run_seq (x := F6.c19) (y := F6.c20) (by kernel_rfl) ?_
    refine run_plain (id := 7) (ops := F6.o7) [(0, true), (1, true), (2, true), (3, true), (4, true)] (by kernel_rfl) (by kernel_rfl) ?_
    refine yS (by kernel_rfl : opAt F6.o7 0 = some (some 39, .move (.tmp 4), none)) rfl rfl (fun w' hS => val_move rfl) ?_
    refine yS (by kernel_rfl : opAt F6.o7 1 = some (some 40, .call { callee := .builtin .len, args := #[(.tmp 39)], argTypes := #[23] }, none)) rfl rfl (fun w' hS => hk.lenV rfl Try.underlying23 w' ) ?_
    refine yS (by kernel_rfl : opAt F6.o7 2 = some (some 41, .binOp .sub 3 (.tmp 40) (.const (.int .i64 1)) 3, none)) rfl rfl (fun w' hS => val_is (val_subi rfl rfl (by omega) (by omega)) (congrArg (Value.int .i64) (show (ks.length : Int) - 1 = (ks0.length : Int) from by omega))) ?_
    refine yS (by kernel_rfl : opAt F6.o7 3 = some (some 42, .binOp .shl 3 (.const (.int .i64 1)) (.tmp 41) 3, none)) rfl rfl (fun w' hS => val_shlE (r := (lz : Int)) rfl rfl (by omega) (by rw [hlz]; exact shl1N (by omega))) ?_
    refine yS (by kernel_rfl : opAt F6.o7 4 = some (some 7, .assign (.tmp 42), none)) rfl rfl (fun w' hS => val_assign rfl) ?_
    refine Sch.nil ?_
    refine run_seq (x := F6.c21) (y := F6.c22) (by kernel_rfl) ?_
    refine run_plain (id := 8) (ops := F6.o8) [(0, true), (1, true), (2, false), (3, true)] (by kernel_rfl) (by kernel_rfl) ?_
    refine yS (by kernel_rfl : opAt F6.o8 0 = some (some 43, .move (.tmp 3), none)) rfl rfl (fun w' hS => val_move rfl) ?_
    refine yS (by kernel_rfl : opAt F6.o8 1 = some (some 44, .move (.tmp 7), none)) rfl rfl (fun w' hS => val_move rfl) ?_
    refine cS (by kernel_rfl : opAt F6.o8 2 = some (some 45, .call { callee := .value (.func 19), args := #[(.tmp 43), (.tmp 44)], argTypes := #[29, 3] }, none)) rfl rfl (ent Try.call19 rfl) (next_any (n := (lz : Int)) hF (by decide) hd (by omega) (by omega)) ?_
    rintro vw11 w11 ⟨mk, rfl, hmk, hs, hd⟩
    refine ⟨trivial, ?_⟩
    replace hF := hF.st hs
    replace hT := hT.trans hs (by simp)
    replace hk := hk.st hs (by first | decide | (simp <;> omega))
    replace ha := ha.st hs (by first | decide | (simp <;> omega))
    replace hr := hr.st hs (by first | decide | (simp <;> omega)) (by first | decide | (simp <;> omega))
    refine yS (by kernel_rfl : opAt F6.o8 3 = some (some 8, .assign (.tmp 45), none)) rfl rfl (fun w' hS => val_assign rfl) ?_
    refine Sch.nil ?_
    refine run_seq (x := F6.c23) (y := F6.c43) (by kernel_rfl) ?_
    refine run_seq (x := F6.c24) (y := F6.c25) (by kernel_rfl) ?_
    refine run_plain (id := 9) (ops := F6.o9) [(0, true), (1, true), (2, true)] (by kernel_rfl) (by kernel_rfl) ?_
    refine yS (by kernel_rfl : opAt F6.o9 0 = some (some 46, .move (.tmp 5), none)) rfl rfl (fun w' hS => val_move rfl) ?_
    refine yS (by kernel_rfl : opAt F6.o9 1 = some (some 47, .call { callee := .builtin .len, args := #[(.tmp 46)], argTypes := #[26] }, none)) rfl rfl (fun w' hS => ha.lenV rfl Try.underlying26 w' ) ?_
    refine yS (by kernel_rfl : opAt F6.o9 2 = some (some 48, .move (.const (.int .i64 0)), none)) rfl rfl (fun w' hS => val_move rfl) ?_
    refine Sch.nil ?_
    refine run_block (x := F6.c26) (id := 0) (by kernel_rfl) ?_
    
    refine run_loop (ι := Nat × (List Int) × (Nat → Nat)) (I := fun x w => x.1 ≤ at_.length ∧ x.2.1.length = rs.length ∧ (∀ p (h1 : p < x.2.1.length) (h2 : p < rs.length) (h3 : p < at_.length), x.2.1[p] = if p < x.1 ∧ at_[p].a = 9 then 0 else rs[p]) ∧ Lim w x.2.2 ∧ Stp [2, 3, 4, 5, 6, 7, 8, 9] w₀ (col1 C) w x.2.2 ∧ RV w (Mc x.2.2) ks v33 ∧ RV w (Mc x.2.2) at_ vat ∧ OwnL w x.2.2 6 3 vr x.2.1) (e := fun x => [(4, v33), (5, vat), (6, vr), (7, .int .i64 (lz : Int)), (8, .int .i64 (mk : Int)), (47, .int .i64 at_.length), (48, .int .i64 x.1)]) (m := fun x => at_.length - x.1) (x₀ := (0, rs, Cr)) (body := F6.c27) (by kernel_rfl) (sub_cons 4 rfl rfl (sub_cons 5 rfl rfl (sub_cons 6 rfl rfl (sub_cons 7 rfl rfl (sub_cons 8 rfl rfl (sub_cons 47 rfl rfl (sub_cons 48 rfl rfl (sub_nil _)))))))) ?_ ?_
    · exact ⟨Nat.zero_le _, rfl, fun p h1 h2 h3 => by simp, hF, hT, hk, ha, hr⟩
    intro ⟨i, ys, C1⟩ w12 hI next
    obtain ⟨hi, hyl, hya, hF, hT, hk, ha, hr⟩ := hI
    try simp only at hi hyl hya hF hT hk ha hr
    have next1 := next
    clear next
    show Run _ _ _ _ [(4, v33), (5, vat), (6, vr), (7, .int .i64 (lz : Int)), (8, .int .i64 (mk : Int)), (47, .int .i64 at_.length), (48, .int .i64 i)] _ _
    refine run_seq (x := F6.c28) (y := F6.c29) (by kernel_rfl) ?_
    refine run_plain (id := 10) (ops := F6.o10) [(0, true)] (by kernel_rfl) (by kernel_rfl) ?_
    refine yS (by kernel_rfl : opAt F6.o10 0 = some (some 49, .binOp .lss 3 (.tmp 48) (.tmp 47) 3, none)) rfl rfl (fun w' hS => val_lss rfl rfl) ?_
    refine Sch.nil ?_
    refine run_seq (x := F6.c30) (y := F6.c33) (by kernel_rfl) ?_
    refine run_if (x := F6.c31) (y := F6.c32) (o := .tmp 49) (by kernel_rfl) rfl (fun h49 => ?_) (fun h49 => ?_)
    · skip
      have hil : i < at_.length := by omega
      refine run_skip (by kernel_rfl) ?_
      refine run_seq (x := F6.c34) (y := F6.c42) (by kernel_rfl) ?_
      refine run_block (x := F6.c35) (id := 1) (by kernel_rfl) ?_
      refine run_seq (x := F6.c36) (y := F6.c37) (by kernel_rfl) ?_
      refine run_plain (id := 11) (ops := F6.o11) [(0, true), (1, true)] (by kernel_rfl) (by kernel_rfl) ?_
      refine yS (by kernel_rfl : opAt F6.o11 0 = some (some 50, .move (.tmp 48), none)) rfl rfl (fun w' hS => val_move rfl) ?_
      refine yS (by kernel_rfl : opAt F6.o11 1 = some (some 9, .assign (.tmp 50), none)) rfl rfl (fun w' hS => val_assign rfl) ?_
      refine Sch.nil ?_
      refine run_seq (x := F6.c38) (y := F6.c39) (by kernel_rfl) ?_
      refine run_plain (id := 12) (ops := F6.o12) [(0, true), (1, true), (2, true), (3, true), (4, false), (5, true)] (by kernel_rfl) (by kernel_rfl) ?_
      refine yS (by kernel_rfl : opAt F6.o12 0 = some (some 51, .move (.tmp 5), none)) rfl rfl (fun w' hS => val_move rfl) ?_
      refine yS (by kernel_rfl : opAt F6.o12 1 = some (some 52, .move (.tmp 9), none)) rfl rfl (fun w' hS => val_move rfl) ?_
      refine iS (e := 50) (by kernel_rfl : opAt F6.o12 2 = some (some 53, .indexAddr 26 (.tmp 51) (.tmp 52), none)) rfl rfl ha rfl (by kernel_rfl) rfl (by omega) (by omega) ?_
      intro b53 o53 h53
      try simp only [Int.toNat_natCast] at h53
      have h54 := RA.ca h53
      refine yS (by kernel_rfl : opAt F6.o12 3 = some (some 54, .fieldAddr 50 (.tmp 53) 0, none)) rfl rfl (fun w' hS => val_fieldAddr (off := 0) (by kernel_rfl) rfl) ?_
      refine lN (by kernel_rfl : opAt F6.o12 4 = some (some 55, .load 3 (.tmp 54), none)) rfl rfl trivial h54 (by kernel_rfl) rfl rfl ?_
      intro v55 g55
      obtain rfl := rv_int.1 g55
      refine yS (by kernel_rfl : opAt F6.o12 5 = some (some 56, .binOp .eql 3 (.tmp 55) (.const (.int .i64 9)) 3, none)) rfl rfl (fun w' hS => val_eql rfl rfl) ?_
      refine Sch.nil ?_
      refine run_if (x := F6.c40) (y := F6.c41) (o := .tmp 56) (by kernel_rfl) rfl (fun h56 => ?_) (fun h56 => ?_)
      · skip
        refine run_plain (id := 13) (ops := F6.o13) [(0, true), (1, true), (2, true), (3, false)] (by kernel_rfl) (by kernel_rfl) ?_
        refine yS (by kernel_rfl : opAt F6.o13 0 = some (some 57, .move (.tmp 6), none)) rfl rfl (fun w' hS => val_move rfl) ?_
        refine yS (by kernel_rfl : opAt F6.o13 1 = some (some 58, .move (.tmp 9), none)) rfl rfl (fun w' hS => val_move rfl) ?_
        refine oI (e' := 3) (by kernel_rfl : opAt F6.o13 2 = some (some 59, .indexAddr 22 (.tmp 57) (.tmp 58), none)) rfl rfl hr rfl (by kernel_rfl) rfl (by omega) (by omega) ?_
        intro g59 hg59
        try simp only [Int.toNat_natCast]
        refine aN (by kernel_rfl : opAt F6.o13 3 = some (none, .store 3 (.tmp 59) (.const (.int .i64 0)), none)) rfl (a_storeO hr hg59 (by omega) rfl rfl (by kernel_rfl) (rv_int.2 rfl)) ?_
        rintro _ w13 ⟨rfl, hs, hr⟩
        refine ⟨trivial, ?_⟩
        replace hF := hF.st hs
        replace hT := hT.trans hs (by simp)
        replace hk := hk.st hs (by first | decide | (simp <;> omega))
        replace ha := ha.st hs (by first | decide | (simp <;> omega))
        replace h53 := h53.st hs (by first | decide | (simp <;> omega))
        replace h54 := h54.st hs (by first | decide | (simp <;> omega))
        refine Sch.nil ?_
        refine run_inBlock ?_
        refine run_plain (id := 14) (ops := F6.o14) [(0, true), (1, true)] (by kernel_rfl) (by kernel_rfl) ?_
        refine yS (by kernel_rfl : opAt F6.o14 0 = some (some 60, .binOp .add 3 (.tmp 48) (.const (.int .i64 1)) 3, none)) rfl rfl (fun w' hS => val_addi rfl rfl (by omega) (by omega)) ?_
        refine yS (by kernel_rfl : opAt F6.o14 1 = some (some 48, .move (.tmp 60), none)) rfl rfl (fun w' hS => val_move rfl) ?_
        refine Sch.nil ?_
        refine kp (sub_cons 4 rfl rfl (sub_cons 5 rfl rfl (sub_cons 6 rfl rfl (sub_cons 7 rfl rfl (sub_cons 8 rfl rfl (sub_cons 47 rfl rfl (sub_cons 48 rfl (eq_int (by simp)) (sub_nil _)))))))) (next1 (i + 1, ys.set i 0, C1) _ ⟨(by first | omega | (simp only; omega)), (by simp only [List.length_set]; omega), (fun p h1 h2 h3 => by
            simp only [List.length_set] at h1
            simp only [List.getElem_set]
            by_cases e : i = p
            · subst e; rw [if_pos rfl]; exact upd_new h56 _ _
            · rw [if_neg e]; exact (hya p h1 h2 h3).trans (upd_keep e _ _)), hF, hT, hk, ha, hr⟩ (by first | omega | (simp only; omega)))
      · skip
        refine run_skip (by kernel_rfl) ?_
        refine run_inBlock ?_
        refine run_plain (id := 14) (ops := F6.o14) [(0, true), (1, true)] (by kernel_rfl) (by kernel_rfl) ?_
        refine yS (by kernel_rfl : opAt F6.o14 0 = some (some 60, .binOp .add 3 (.tmp 48) (.const (.int .i64 1)) 3, none)) rfl rfl (fun w' hS => val_addi rfl rfl (by omega) (by omega)) ?_
        refine yS (by kernel_rfl : opAt F6.o14 1 = some (some 48, .move (.tmp 60), none)) rfl rfl (fun w' hS => val_move rfl) ?_
        refine Sch.nil ?_
        refine kp (sub_cons 4 rfl rfl (sub_cons 5 rfl rfl (sub_cons 6 rfl rfl (sub_cons 7 rfl rfl (sub_cons 8 rfl rfl (sub_cons 47 rfl rfl (sub_cons 48 rfl (eq_int (by simp)) (sub_nil _)))))))) (next1 (i + 1, ys, C1) _ ⟨(by first | omega | (simp only; omega)), (by first | omega | (simp only; omega)), (fun p h1 h2 h3 => by
            by_cases e : i = p
            · subst e; exact (hya i h1 h2 h3).trans (upd_self h56 _ _)
            · exact (hya p h1 h2 h3).trans (upd_keep e _ _)), hF, hT, hk, ha, hr⟩ (by first | omega | (simp only; omega)))
    · skip
      obtain rfl : i = at_.length := by omega
      have hy0 : ∀ p (h1 : p < ys.length) (h2 : p < at_.length), at_[p].a = 9 → ys[p] = 0 := fun p h1 h2 h => by rw [hya p h1 (by omega) h2, if_pos ⟨h2, h⟩]
      have hyo : RatesOK ys := fun r hr0 => by
        obtain ⟨p, hp, rfl⟩ := List.mem_iff_getElem.1 hr0
        rw [hya p hp (by omega) (by omega)]
        split
        · omega
        · exact hro _ (List.getElem_mem _)
      have hz1 : checkP ks ys = 0 := checkP_ok (by omega) (by rw [← hat]; omega) (by rw [← hat]; omega) hyo
      have hx0 : missS (setsS ks) ys (mk ||| lz) = 0 := by subst hks; rw [hlz]; subst hat; exact nv_zero (by omega) hy0
      have hmo : mk ||| lz < 2 ^ ks.length := by rw [hksl]; exact Nat.or_lt_two_pow (Nat.lt_of_lt_of_le (by rw [← hlz]; omega) (Nat.pow_le_pow_right (by decide) (Nat.le_succ _))) (by rw [hlz]; exact Nat.pow_lt_pow_right (by decide) (Nat.lt_succ_self _))
      refine run_exit (id := 0) (by kernel_rfl) rfl ?_
      refine run_seq (x := F6.c44) (y := F6.c45) (by kernel_rfl) ?_
      refine run_plain (id := 15) (ops := F6.o15) [(0, true), (1, true), (2, true), (3, true), (4, true), (5, false), (6, true), (7, true), (8, true), (9, true), (10, true)] (by kernel_rfl) (by kernel_rfl) ?_
      refine yS (by kernel_rfl : opAt F6.o15 0 = some (some 62, .move (.tmp 4), none)) rfl rfl (fun w' hS => val_move rfl) ?_
      refine yS (by kernel_rfl : opAt F6.o15 1 = some (some 63, .move (.tmp 6), none)) rfl rfl (fun w' hS => val_move rfl) ?_
      refine yS (by kernel_rfl : opAt F6.o15 2 = some (some 64, .move (.tmp 8), none)) rfl rfl (fun w' hS => val_move rfl) ?_
      refine yS (by kernel_rfl : opAt F6.o15 3 = some (some 65, .move (.tmp 7), none)) rfl rfl (fun w' hS => val_move rfl) ?_
      refine yS (by kernel_rfl : opAt F6.o15 4 = some (some 66, .binOp .or 3 (.tmp 64) (.tmp 65) 3, none)) rfl rfl (fun w' hS => val_orE (r := ((mk ||| lz : Nat) : Int)) rfl rfl (bits_or (by omega) (by omega))) ?_
      refine cS (by kernel_rfl : opAt F6.o15 5 = some (some 67, .call { callee := .value (.func 20), args := #[(.tmp 62), (.tmp 63), (.tmp 66)], argTypes := #[23, 22, 3] }, none)) rfl rfl (ent Try.call20 rfl) (missed_ok (mask := ((mk ||| lz : Nat) : Int)) (hF.frz 6) (hk.frz 6) (hr.frz (n := 6) (by decide) (by omega)) hsm) ?_
      rintro vw14 w14 ⟨rfl, hs0⟩
      have hs := hs0.unfrz (C1)
      refine ⟨trivial, ?_⟩
      replace hF := hF.st hs
      replace hT := hT.trans hs (by simp)
      replace hk := hk.st hs (by first | decide | (simp <;> omega))
      replace ha := ha.st hs (by first | decide | (simp <;> omega))
      replace hr := hr.st hs (by first | decide | (simp <;> omega)) (by first | decide | (simp <;> omega))
      rw [missE_ok hz1 hmo, hx0]
      refine yS (by kernel_rfl : opAt F6.o15 6 = some (some 61, .move (.tmp 67), none)) rfl rfl (fun w' hS => val_move rfl) ?_
      refine yS (by kernel_rfl : opAt F6.o15 7 = some (some 68, .extract (.tmp 61) 0, none)) rfl rfl (fun w' hS => val_extract rfl rfl) ?_
      refine yS (by kernel_rfl : opAt F6.o15 8 = some (some 69, .extract (.tmp 61) 1, none)) rfl rfl (fun w' hS => val_extract rfl rfl) ?_
      refine yS (by kernel_rfl : opAt F6.o15 9 = some (some 10, .assign (.tmp 68), none)) rfl rfl (fun w' hS => val_assign rfl) ?_
      refine yS (by kernel_rfl : opAt F6.o15 10 = some (some 11, .assign (.tmp 69), none)) rfl rfl (fun w' hS => val_assign rfl) ?_
      refine Sch.nil ?_
      refine run_seq (x := F6.c46) (y := F6.c66) (by kernel_rfl) ?_
      refine run_seq (x := F6.c47) (y := F6.c48) (by kernel_rfl) ?_
      refine run_plain (id := 16) (ops := F6.o16) [(0, true), (1, true), (2, true)] (by kernel_rfl) (by kernel_rfl) ?_
      refine yS (by kernel_rfl : opAt F6.o16 0 = some (some 70, .move (.tmp 5), none)) rfl rfl (fun w' hS => val_move rfl) ?_
      refine yS (by kernel_rfl : opAt F6.o16 1 = some (some 71, .call { callee := .builtin .len, args := #[(.tmp 70)], argTypes := #[26] }, none)) rfl rfl (fun w' hS => ha.lenV rfl Try.underlying26 w' ) ?_
      refine yS (by kernel_rfl : opAt F6.o16 2 = some (some 72, .move (.const (.int .i64 0)), none)) rfl rfl (fun w' hS => val_move rfl) ?_
      refine Sch.nil ?_
      refine run_block (x := F6.c49) (id := 2) (by kernel_rfl) ?_
      
      refine run_loop (ι := Nat × (List Int) × (Nat → Nat)) (I := fun x w => x.1 ≤ at_.length ∧ x.2.1.length = ys.length ∧ (∀ p (h1 : p < x.2.1.length) (h2 : p < ys.length) (h3 : p < at_.length), x.2.1[p] = if p < x.1 ∧ at_[p].a = 9 then 64 else ys[p]) ∧ Lim w x.2.2 ∧ Stp [2, 3, 4, 5, 6, 7, 8, 9] w₀ (col1 C) w x.2.2 ∧ RV w (Mc x.2.2) ks v33 ∧ RV w (Mc x.2.2) at_ vat ∧ OwnL w x.2.2 6 3 vr x.2.1) (e := fun x => [(4, v33), (5, vat), (6, vr), (7, .int .i64 (lz : Int)), (8, .int .i64 (mk : Int)), (10, .int .i64 0), (11, .int .i64 0), (71, .int .i64 at_.length), (72, .int .i64 x.1)]) (m := fun x => at_.length - x.1) (x₀ := (0, ys, C1)) (body := F6.c50) (by kernel_rfl) (sub_cons 4 rfl rfl (sub_cons 5 rfl rfl (sub_cons 6 rfl rfl (sub_cons 7 rfl rfl (sub_cons 8 rfl rfl (sub_cons 10 rfl rfl (sub_cons 11 rfl rfl (sub_cons 71 rfl rfl (sub_cons 72 rfl rfl (sub_nil _)))))))))) ?_ ?_
      · exact ⟨Nat.zero_le _, rfl, fun p h1 h2 h3 => by simp, hF, hT, hk, ha, hr⟩
      intro ⟨i, zs, C1⟩ w15 hI next
      obtain ⟨hi, hzl, hza, hF, hT, hk, ha, hr⟩ := hI
      try simp only at hi hzl hza hF hT hk ha hr
      have next2 := next
      clear next
      show Run _ _ _ _ [(4, v33), (5, vat), (6, vr), (7, .int .i64 (lz : Int)), (8, .int .i64 (mk : Int)), (10, .int .i64 0), (11, .int .i64 0), (71, .int .i64 at_.length), (72, .int .i64 i)] _ _
      refine run_seq (x := F6.c51) (y := F6.c52) (by kernel_rfl) ?_
      refine run_plain (id := 17) (ops := F6.o17) [(0, true)] (by kernel_rfl) (by kernel_rfl) ?_
      refine yS (by kernel_rfl : opAt F6.o17 0 = some (some 73, .binOp .lss 3 (.tmp 72) (.tmp 71) 3, none)) rfl rfl (fun w' hS => val_lss rfl rfl) ?_
      refine Sch.nil ?_
      refine run_seq (x := F6.c53) (y := F6.c56) (by kernel_rfl) ?_
      refine run_if (x := F6.c54) (y := F6.c55) (o := .tmp 73) (by kernel_rfl) rfl (fun h73 => ?_) (fun h73 => ?_)
      · skip
        have hil : i < at_.length := by omega
        refine run_skip (by kernel_rfl) ?_
        refine run_seq (x := F6.c57) (y := F6.c65) (by kernel_rfl) ?_
        refine run_block (x := F6.c58) (id := 3) (by kernel_rfl) ?_
        refine run_seq (x := F6.c59) (y := F6.c60) (by kernel_rfl) ?_
        refine run_plain (id := 18) (ops := F6.o18) [(0, true), (1, true)] (by kernel_rfl) (by kernel_rfl) ?_
        refine yS (by kernel_rfl : opAt F6.o18 0 = some (some 74, .move (.tmp 72), none)) rfl rfl (fun w' hS => val_move rfl) ?_
        refine yS (by kernel_rfl : opAt F6.o18 1 = some (some 12, .assign (.tmp 74), none)) rfl rfl (fun w' hS => val_assign rfl) ?_
        refine Sch.nil ?_
        refine run_seq (x := F6.c61) (y := F6.c62) (by kernel_rfl) ?_
        refine run_plain (id := 19) (ops := F6.o19) [(0, true), (1, true), (2, true), (3, true), (4, false), (5, true)] (by kernel_rfl) (by kernel_rfl) ?_
        refine yS (by kernel_rfl : opAt F6.o19 0 = some (some 75, .move (.tmp 5), none)) rfl rfl (fun w' hS => val_move rfl) ?_
        refine yS (by kernel_rfl : opAt F6.o19 1 = some (some 76, .move (.tmp 12), none)) rfl rfl (fun w' hS => val_move rfl) ?_
        refine iS (e := 50) (by kernel_rfl : opAt F6.o19 2 = some (some 77, .indexAddr 26 (.tmp 75) (.tmp 76), none)) rfl rfl ha rfl (by kernel_rfl) rfl (by omega) (by omega) ?_
        intro b77 o77 h77
        try simp only [Int.toNat_natCast] at h77
        have h78 := RA.ca h77
        refine yS (by kernel_rfl : opAt F6.o19 3 = some (some 78, .fieldAddr 50 (.tmp 77) 0, none)) rfl rfl (fun w' hS => val_fieldAddr (off := 0) (by kernel_rfl) rfl) ?_
        refine lN (by kernel_rfl : opAt F6.o19 4 = some (some 79, .load 3 (.tmp 78), none)) rfl rfl trivial h78 (by kernel_rfl) rfl rfl ?_
        intro v79 g79
        obtain rfl := rv_int.1 g79
        refine yS (by kernel_rfl : opAt F6.o19 5 = some (some 80, .binOp .eql 3 (.tmp 79) (.const (.int .i64 9)) 3, none)) rfl rfl (fun w' hS => val_eql rfl rfl) ?_
        refine Sch.nil ?_
        refine run_if (x := F6.c63) (y := F6.c64) (o := .tmp 80) (by kernel_rfl) rfl (fun h80 => ?_) (fun h80 => ?_)
        · skip
          refine run_plain (id := 20) (ops := F6.o20) [(0, true), (1, true), (2, true), (3, false)] (by kernel_rfl) (by kernel_rfl) ?_
          refine yS (by kernel_rfl : opAt F6.o20 0 = some (some 81, .move (.tmp 6), none)) rfl rfl (fun w' hS => val_move rfl) ?_
          refine yS (by kernel_rfl : opAt F6.o20 1 = some (some 82, .move (.tmp 12), none)) rfl rfl (fun w' hS => val_move rfl) ?_
          refine oI (e' := 3) (by kernel_rfl : opAt F6.o20 2 = some (some 83, .indexAddr 22 (.tmp 81) (.tmp 82), none)) rfl rfl hr rfl (by kernel_rfl) rfl (by omega) (by omega) ?_
          intro g83 hg83
          try simp only [Int.toNat_natCast]
          refine aN (by kernel_rfl : opAt F6.o20 3 = some (none, .store 3 (.tmp 83) (.const (.int .i64 64)), none)) rfl (a_storeO hr hg83 (by omega) rfl rfl (by kernel_rfl) (rv_int.2 rfl)) ?_
          rintro _ w16 ⟨rfl, hs, hr⟩
          refine ⟨trivial, ?_⟩
          replace hF := hF.st hs
          replace hT := hT.trans hs (by simp)
          replace hk := hk.st hs (by first | decide | (simp <;> omega))
          replace ha := ha.st hs (by first | decide | (simp <;> omega))
          replace h77 := h77.st hs (by first | decide | (simp <;> omega))
          replace h78 := h78.st hs (by first | decide | (simp <;> omega))
          refine Sch.nil ?_
          refine run_inBlock ?_
          refine run_plain (id := 21) (ops := F6.o21) [(0, true), (1, true)] (by kernel_rfl) (by kernel_rfl) ?_
          refine yS (by kernel_rfl : opAt F6.o21 0 = some (some 84, .binOp .add 3 (.tmp 72) (.const (.int .i64 1)) 3, none)) rfl rfl (fun w' hS => val_addi rfl rfl (by omega) (by omega)) ?_
          refine yS (by kernel_rfl : opAt F6.o21 1 = some (some 72, .move (.tmp 84), none)) rfl rfl (fun w' hS => val_move rfl) ?_
          refine Sch.nil ?_
          refine kp (sub_cons 4 rfl rfl (sub_cons 5 rfl rfl (sub_cons 6 rfl rfl (sub_cons 7 rfl rfl (sub_cons 8 rfl rfl (sub_cons 10 rfl rfl (sub_cons 11 rfl rfl (sub_cons 71 rfl rfl (sub_cons 72 rfl (eq_int (by simp)) (sub_nil _)))))))))) (next2 (i + 1, zs.set i 64, C1) _ ⟨(by first | omega | (simp only; omega)), (by simp only [List.length_set]; omega), (fun p h1 h2 h3 => by
              simp only [List.length_set] at h1
              simp only [List.getElem_set]
              by_cases e : i = p
              · subst e; rw [if_pos rfl]; exact upd_new h80 _ _
              · rw [if_neg e]; exact (hza p h1 h2 h3).trans (upd_keep e _ _)), hF, hT, hk, ha, hr⟩ (by first | omega | (simp only; omega)))
        · skip
          refine run_skip (by kernel_rfl) ?_
          refine run_inBlock ?_
          refine run_plain (id := 21) (ops := F6.o21) [(0, true), (1, true)] (by kernel_rfl) (by kernel_rfl) ?_
          refine yS (by kernel_rfl : opAt F6.o21 0 = some (some 84, .binOp .add 3 (.tmp 72) (.const (.int .i64 1)) 3, none)) rfl rfl (fun w' hS => val_addi rfl rfl (by omega) (by omega)) ?_
          refine yS (by kernel_rfl : opAt F6.o21 1 = some (some 72, .move (.tmp 84), none)) rfl rfl (fun w' hS => val_move rfl) ?_
          refine Sch.nil ?_
          refine kp (sub_cons 4 rfl rfl (sub_cons 5 rfl rfl (sub_cons 6 rfl rfl (sub_cons 7 rfl rfl (sub_cons 8 rfl rfl (sub_cons 10 rfl rfl (sub_cons 11 rfl rfl (sub_cons 71 rfl rfl (sub_cons 72 rfl (eq_int (by simp)) (sub_nil _)))))))))) (next2 (i + 1, zs, C1) _ ⟨(by first | omega | (simp only; omega)), (by first | omega | (simp only; omega)), (fun p h1 h2 h3 => by
              by_cases e : i = p
              · subst e; exact (hza i h1 h2 h3).trans (upd_self h80 _ _)
              · exact (hza p h1 h2 h3).trans (upd_keep e _ _)), hF, hT, hk, ha, hr⟩ (by first | omega | (simp only; omega)))
      · skip
        obtain rfl : i = at_.length := by omega
        have hz0 : ∀ p (h1 : p < zs.length) (h2 : p < at_.length), at_[p].a = 9 → zs[p] = 64 := fun p h1 h2 h => by rw [hza p h1 (by omega) h2, if_pos ⟨h2, h⟩]
        have hzo : RatesOK zs := fun r hr0 => by
          obtain ⟨p, hp, rfl⟩ := List.mem_iff_getElem.1 hr0
          rw [hza p hp (by omega) (by omega)]
          split
          · omega
          · exact hyo _ (List.getElem_mem _)
        have hz2 : checkP ks zs = 0 := checkP_ok (by omega) (by rw [← hat]; omega) (by rw [← hat]; omega) hzo
        have hsame : missS (setsS ks) zs (mk ||| lz) = missS (setsS ks) zs mk := by subst hks; rw [hlz]; subst hat; exact nv_same (by omega) hz0
        have hmk : mk < 2 ^ ks.length := Nat.lt_of_le_of_lt Nat.left_le_or hmo
        refine run_exit (id := 2) (by kernel_rfl) rfl ?_
        refine run_seq (x := F6.c67) (y := F6.c68) (by kernel_rfl) ?_
        refine run_plain (id := 22) (ops := F6.o22) [(0, true), (1, true), (2, true), (3, true), (4, true), (5, false), (6, true), (7, true), (8, true), (9, true), (10, true)] (by kernel_rfl) (by kernel_rfl) ?_
        refine yS (by kernel_rfl : opAt F6.o22 0 = some (some 86, .move (.tmp 4), none)) rfl rfl (fun w' hS => val_move rfl) ?_
        refine yS (by kernel_rfl : opAt F6.o22 1 = some (some 87, .move (.tmp 6), none)) rfl rfl (fun w' hS => val_move rfl) ?_
        refine yS (by kernel_rfl : opAt F6.o22 2 = some (some 88, .move (.tmp 8), none)) rfl rfl (fun w' hS => val_move rfl) ?_
        refine yS (by kernel_rfl : opAt F6.o22 3 = some (some 89, .move (.tmp 7), none)) rfl rfl (fun w' hS => val_move rfl) ?_
        refine yS (by kernel_rfl : opAt F6.o22 4 = some (some 90, .binOp .or 3 (.tmp 88) (.tmp 89) 3, none)) rfl rfl (fun w' hS => val_orE (r := ((mk ||| lz : Nat) : Int)) rfl rfl (bits_or (by omega) (by omega))) ?_
        refine cS (by kernel_rfl : opAt F6.o22 5 = some (some 91, .call { callee := .value (.func 20), args := #[(.tmp 86), (.tmp 87), (.tmp 90)], argTypes := #[23, 22, 3] }, none)) rfl rfl (ent Try.call20 rfl) (missed_ok (mask := ((mk ||| lz : Nat) : Int)) (hF.frz 6) (hk.frz 6) (hr.frz (n := 6) (by decide) (by omega)) hsm) ?_
        rintro vw17 w17 ⟨rfl, hs0⟩
        have hs := hs0.unfrz (C1)
        refine ⟨trivial, ?_⟩
        replace hF := hF.st hs
        replace hT := hT.trans hs (by simp)
        replace hk := hk.st hs (by first | decide | (simp <;> omega))
        replace ha := ha.st hs (by first | decide | (simp <;> omega))
        replace hr := hr.st hs (by first | decide | (simp <;> omega)) (by first | decide | (simp <;> omega))
        rw [missE_ok hz2 hmo, hsame]
        refine yS (by kernel_rfl : opAt F6.o22 6 = some (some 85, .move (.tmp 91), none)) rfl rfl (fun w' hS => val_move rfl) ?_
        refine yS (by kernel_rfl : opAt F6.o22 7 = some (some 92, .extract (.tmp 85) 0, none)) rfl rfl (fun w' hS => val_extract rfl rfl) ?_
        refine yS (by kernel_rfl : opAt F6.o22 8 = some (some 93, .extract (.tmp 85) 1, none)) rfl rfl (fun w' hS => val_extract rfl rfl) ?_
        refine yS (by kernel_rfl : opAt F6.o22 9 = some (some 13, .assign (.tmp 92), none)) rfl rfl (fun w' hS => val_assign rfl) ?_
        refine yS (by kernel_rfl : opAt F6.o22 10 = some (some 14, .assign (.tmp 93), none)) rfl rfl (fun w' hS => val_assign rfl) ?_
        refine Sch.nil ?_
        refine run_seq (x := F6.c69) (y := F6.c70) (by kernel_rfl) ?_
        refine run_plain (id := 23) (ops := F6.o23) [(0, true), (1, true), (2, true), (3, false), (4, true), (5, true), (6, true), (7, true), (8, true)] (by kernel_rfl) (by kernel_rfl) ?_
        refine yS (by kernel_rfl : opAt F6.o23 0 = some (some 95, .move (.tmp 4), none)) rfl rfl (fun w' hS => val_move rfl) ?_
        refine yS (by kernel_rfl : opAt F6.o23 1 = some (some 96, .move (.tmp 6), none)) rfl rfl (fun w' hS => val_move rfl) ?_
        refine yS (by kernel_rfl : opAt F6.o23 2 = some (some 97, .move (.tmp 8), none)) rfl rfl (fun w' hS => val_move rfl) ?_
        refine cS (by kernel_rfl : opAt F6.o23 3 = some (some 98, .call { callee := .value (.func 20), args := #[(.tmp 95), (.tmp 96), (.tmp 97)], argTypes := #[23, 22, 3] }, none)) rfl rfl (ent Try.call20 rfl) (missed_ok (mask := ((mk : Nat) : Int)) (hF.frz 6) (hk.frz 6) (hr.frz (n := 6) (by decide) (by omega)) hsm) ?_
        rintro vw18 w18 ⟨rfl, hs0⟩
        have hs := hs0.unfrz (C1)
        refine ⟨trivial, ?_⟩
        replace hF := hF.st hs
        replace hT := hT.trans hs (by simp)
        replace hk := hk.st hs (by first | decide | (simp <;> omega))
        replace ha := ha.st hs (by first | decide | (simp <;> omega))
        replace hr := hr.st hs (by first | decide | (simp <;> omega)) (by first | decide | (simp <;> omega))
        rw [missE_ok hz2 hmk]
        refine yS (by kernel_rfl : opAt F6.o23 4 = some (some 94, .move (.tmp 98), none)) rfl rfl (fun w' hS => val_move rfl) ?_
        refine yS (by kernel_rfl : opAt F6.o23 5 = some (some 99, .extract (.tmp 94) 0, none)) rfl rfl (fun w' hS => val_extract rfl rfl) ?_
        refine yS (by kernel_rfl : opAt F6.o23 6 = some (some 100, .extract (.tmp 94) 1, none)) rfl rfl (fun w' hS => val_extract rfl rfl) ?_
        refine yS (by kernel_rfl : opAt F6.o23 7 = some (some 15, .assign (.tmp 99), none)) rfl rfl (fun w' hS => val_assign rfl) ?_
        refine yS (by kernel_rfl : opAt F6.o23 8 = some (some 16, .assign (.tmp 100), none)) rfl rfl (fun w' hS => val_assign rfl) ?_
        refine Sch.nil ?_
        refine run_seq (x := F6.c71) (y := F6.c72) (by kernel_rfl) ?_
        refine run_plain (id := 24) (ops := F6.o24) [(0, true), (1, true), (2, true), (3, true), (4, true), (5, true), (6, true), (7, true), (8, true), (9, true), (10, true), (11, true), (12, true), (13, true), (14, true), (15, true), (16, true), (17, true), (18, true), (19, true)] (by kernel_rfl) (by kernel_rfl) ?_
        refine yS (by kernel_rfl : opAt F6.o24 0 = some (some 101, .move (.tmp 11), none)) rfl rfl (fun w' hS => val_move rfl) ?_
        refine yS (by kernel_rfl : opAt F6.o24 1 = some (some 102, .binOp .eql 37 (.tmp 101) (.const (.int .i64 0)) 37, none)) rfl rfl (fun w' hS => val_T (val_eql rfl rfl) rfl) ?_
        refine yS (by kernel_rfl : opAt F6.o24 2 = some (some 103, .move (.tmp 102), none)) rfl rfl (fun w' hS => val_move rfl) ?_
        refine yS (by kernel_rfl : opAt F6.o24 3 = some (some 104, .move (.tmp 14), (some (2, true)))) rfl rfl (fun w' hS => val_move rfl) ?_
        refine yS (by kernel_rfl : opAt F6.o24 4 = some (some 105, .binOp .eql 37 (.tmp 104) (.const (.int .i64 0)) 37, (some (2, true)))) rfl rfl (fun w' hS => val_T (val_eql rfl rfl) rfl) ?_
        refine yS (by kernel_rfl : opAt F6.o24 5 = some (some 106, .pick (.tmp 103) (.tmp 105) (.const (.bool false)), none)) rfl rfl (fun w' hS => val_pick_t rfl rfl) ?_
        refine yS (by kernel_rfl : opAt F6.o24 6 = some (some 107, .move (.tmp 106), none)) rfl rfl (fun w' hS => val_move rfl) ?_
        refine yS (by kernel_rfl : opAt F6.o24 7 = some (some 108, .move (.tmp 16), (some (6, true)))) rfl rfl (fun w' hS => val_move rfl) ?_
        refine yS (by kernel_rfl : opAt F6.o24 8 = some (some 109, .binOp .eql 37 (.tmp 108) (.const (.int .i64 0)) 37, (some (6, true)))) rfl rfl (fun w' hS => val_T (val_eql rfl rfl) rfl) ?_
        refine yS (by kernel_rfl : opAt F6.o24 9 = some (some 110, .pick (.tmp 107) (.tmp 109) (.const (.bool false)), none)) rfl rfl (fun w' hS => val_pick_t rfl rfl) ?_
        refine yS (by kernel_rfl : opAt F6.o24 10 = some (some 111, .move (.tmp 110), none)) rfl rfl (fun w' hS => val_move rfl) ?_
        refine yS (by kernel_rfl : opAt F6.o24 11 = some (some 112, .move (.tmp 10), (some (10, true)))) rfl rfl (fun w' hS => val_move rfl) ?_
        refine yS (by kernel_rfl : opAt F6.o24 12 = some (some 113, .binOp .eql 3 (.tmp 112) (.const (.int .i64 0)) 3, (some (10, true)))) rfl rfl (fun w' hS => val_T (val_eql rfl rfl) rfl) ?_
        refine yS (by kernel_rfl : opAt F6.o24 13 = some (some 114, .pick (.tmp 111) (.tmp 113) (.const (.bool false)), none)) rfl rfl (fun w' hS => val_pick_t rfl rfl) ?_
        refine yS (by kernel_rfl : opAt F6.o24 14 = some (some 115, .move (.tmp 114), none)) rfl rfl (fun w' hS => val_move rfl) ?_
        refine yS (by kernel_rfl : opAt F6.o24 15 = some (some 116, .move (.tmp 13), (some (14, true)))) rfl rfl (fun w' hS => val_move rfl) ?_
        refine yS (by kernel_rfl : opAt F6.o24 16 = some (some 117, .move (.tmp 15), (some (14, true)))) rfl rfl (fun w' hS => val_move rfl) ?_
        refine yS (by kernel_rfl : opAt F6.o24 17 = some (some 118, .binOp .eql 3 (.tmp 116) (.tmp 117) 3, (some (14, true)))) rfl rfl (fun w' hS => val_T (val_eql rfl rfl) rfl) ?_
        refine yS (by kernel_rfl : opAt F6.o24 18 = some (some 119, .pick (.tmp 115) (.tmp 118) (.const (.bool false)), none)) rfl rfl (fun w' hS => val_pick_t rfl rfl) ?_
        refine yS (by kernel_rfl : opAt F6.o24 19 = some (some 2, .assign (.tmp 119), none)) rfl rfl (fun w' hS => val_assign rfl) ?_
        refine Sch.nil ?_
        refine run_ret1 (by kernel_rfl) Try.func6 Try.results6 rfl ?_
        exact ⟨rfl, hT.out1 (by decide)⟩
namespace F6B
noncomputable def c0 : Code := bodyOf Try.f6
noncomputable def c1 : Code := cl c0
noncomputable def o0 : Array Oper := rops c1
noncomputable def c2 : Code := cr c0
noncomputable def c3 : Code := cl c2
noncomputable def c4 : Code := cl c3
noncomputable def o1 : Array Oper := rops c4
noncomputable def c5 : Code := cr c3
noncomputable def c6 : Code := cl c5
noncomputable def c7 : Code := cl c6
noncomputable def o2 : Array Oper := rops c7
noncomputable def c8 : Code := cr c6
noncomputable def c9 : Code := cr c5
noncomputable def c10 : Code := cr c2
noncomputable def c11 : Code := cl c10
noncomputable def o3 : Array Oper := rops c11
noncomputable def c12 : Code := cr c10
noncomputable def c13 : Code := cl c12
noncomputable def o4 : Array Oper := rops c13
noncomputable def c14 : Code := cr c12
noncomputable def c15 : Code := cl c14
noncomputable def o5 : Array Oper := rops c15
noncomputable def c16 : Code := cr c14
noncomputable def c17 : Code := cl c16
noncomputable def o6 : Array Oper := rops c17
noncomputable def c18 : Code := cr c16
noncomputable def c19 : Code := cl c18
noncomputable def o7 : Array Oper := rops c19
noncomputable def c20 : Code := cr c18
noncomputable def c21 : Code := cl c20
noncomputable def o8 : Array Oper := rops c21
noncomputable def c22 : Code := cr c20
noncomputable def c23 : Code := cl c22
noncomputable def c24 : Code := cl c23
noncomputable def o9 : Array Oper := rops c24
noncomputable def c25 : Code := cr c23
noncomputable def c26 : Code := cl c25
noncomputable def c27 : Code := cl c26
noncomputable def c28 : Code := cl c27
noncomputable def o10 : Array Oper := rops c28
noncomputable def c29 : Code := cr c27
noncomputable def c30 : Code := cl c29
noncomputable def c31 : Code := cl c30
noncomputable def c32 : Code := cr c30
noncomputable def c33 : Code := cr c29
noncomputable def c34 : Code := cl c33
noncomputable def c35 : Code := cl c34
noncomputable def c36 : Code := cl c35
noncomputable def o11 : Array Oper := rops c36
noncomputable def c37 : Code := cr c35
noncomputable def c38 : Code := cl c37
noncomputable def o12 : Array Oper := rops c38
noncomputable def c39 : Code := cr c37
noncomputable def c40 : Code := cl c39
noncomputable def o13 : Array Oper := rops c40
noncomputable def c41 : Code := cr c39
noncomputable def c42 : Code := cr c33
noncomputable def o14 : Array Oper := rops c42
noncomputable def c43 : Code := cr c22
noncomputable def c44 : Code := cl c43
noncomputable def o15 : Array Oper := rops c44
noncomputable def c45 : Code := cr c43
noncomputable def c46 : Code := cl c45
noncomputable def c47 : Code := cl c46
noncomputable def o16 : Array Oper := rops c47
noncomputable def c48 : Code := cr c46
noncomputable def c49 : Code := cl c48
noncomputable def c50 : Code := cl c49
noncomputable def c51 : Code := cl c50
noncomputable def o17 : Array Oper := rops c51
noncomputable def c52 : Code := cr c50
noncomputable def c53 : Code := cl c52
noncomputable def c54 : Code := cl c53
noncomputable def c55 : Code := cr c53
noncomputable def c56 : Code := cr c52
noncomputable def c57 : Code := cl c56
noncomputable def c58 : Code := cl c57
noncomputable def c59 : Code := cl c58
noncomputable def o18 : Array Oper := rops c59
noncomputable def c60 : Code := cr c58
noncomputable def c61 : Code := cl c60
noncomputable def o19 : Array Oper := rops c61
noncomputable def c62 : Code := cr c60
noncomputable def c63 : Code := cl c62
noncomputable def o20 : Array Oper := rops c63
noncomputable def c64 : Code := cr c62
noncomputable def c65 : Code := cr c56
noncomputable def o21 : Array Oper := rops c65
noncomputable def c66 : Code := cr c45
noncomputable def c67 : Code := cl c66
noncomputable def o22 : Array Oper := rops c67
noncomputable def c68 : Code := cr c66
noncomputable def c69 : Code := cl c68
noncomputable def o23 : Array Oper := rops c69
noncomputable def c70 : Code := cr c68
noncomputable def c71 : Code := cl c70
noncomputable def o24 : Array Oper := rops c71
noncomputable def c72 : Code := cr c70
end F6B
/-- .. where more is handed than it looks at. -/
theorem plannerNever_big {w₀ : World} {C : Nat → Nat} {p : Option Addr} {n c : Nat} (hF : Lim w₀ C) (hn : 400 < n) : Calls Try.prog 6 #[.slice p n c] w₀ (Ret fun v w' => v = .bool true ∧ Stp [] w₀ C w' C) := by
  have hF0 := hF
  have hT := Stp.refl [2, 3, 4, 5, 6, 7, 8, 9] w₀ (col1 C)
  replace hF := hF.col1
  refine calls_start (c := F6B.c0) (N := 120) [.slice p n c] Try.func6 (by kernel_rfl) (by kernel_rfl) (by kernel_rfl) ?_
  show Run _ _ _ _ [(0, .slice p n c)] _ _
  refine run_seq (x := F6B.c1) (y := F6B.c2) (by kernel_rfl) ?_
  refine run_plain (id := 0) (ops := F6B.o0) [(0, true)] (by kernel_rfl) (by kernel_rfl) ?_
  refine yS (by kernel_rfl : opAt F6B.o0 0 = some (some 2, .assign (.const (.bool false)), none)) rfl rfl (fun w' hS => val_assign rfl) ?_
  refine Sch.nil ?_
  refine run_seq (x := F6B.c3) (y := F6B.c10) (by kernel_rfl) ?_
  refine run_seq (x := F6B.c4) (y := F6B.c5) (by kernel_rfl) ?_
  refine run_plain (id := 1) (ops := F6B.o1) [(0, false), (1, true), (2, true), (3, true), (4, false), (5, true), (6, true)] (by kernel_rfl) (by kernel_rfl) ?_
  refine cS (by kernel_rfl : opAt F6B.o1 0 = some (some 17, .call { callee := .value (.func 9), args := #[], argTypes := #[] }, none)) rfl rfl (ent Try.call9 rfl) (awake_ok hF) ?_
  rintro vw1 w1 ⟨rfl, hs⟩
  refine ⟨trivial, ?_⟩
  replace hF := hF.st hs
  replace hT := hT.trans hs (by simp)
  refine yS (by kernel_rfl : opAt F6B.o1 1 = some (some 18, .unOp .not 4 (.tmp 17), none)) rfl rfl (fun w' hS => val_not rfl) ?_
  refine yS (by kernel_rfl : opAt F6B.o1 2 = some (some 19, .move (.tmp 18), none)) rfl rfl (fun w' hS => val_move rfl) ?_
  refine yS (by kernel_rfl : opAt F6B.o1 3 = some (some 20, .move (.tmp 0), (some (2, false)))) rfl rfl (fun w' hS => val_move rfl) ?_
  refine cS (by kernel_rfl : opAt F6B.o1 4 = some (some 21, .call { callee := .value (.func 10), args := #[(.tmp 20)], argTypes := #[22] }, (some (2, false)))) rfl rfl (ent Try.call10 rfl) (few_ok _ _ _ _) ?_
  rintro vw2 w2 ⟨rfl, rfl⟩
  refine ⟨trivial, ?_⟩
  rw [decide_eq_false (show ¬ (n : Int) ≤ 400 by omega)]
  refine yS (by kernel_rfl : opAt F6B.o1 5 = some (some 22, .unOp .not 4 (.tmp 21), (some (2, false)))) rfl rfl (fun w' hS => val_not rfl) ?_
  refine yS (by kernel_rfl : opAt F6B.o1 6 = some (some 23, .pick (.tmp 19) (.const (.bool true)) (.tmp 22), none)) rfl rfl (fun w' hS => val_pick_f rfl rfl) ?_
  refine Sch.nil ?_
  refine run_cond (x := F6B.c6) (y := F6B.c9) (o := .tmp 23) (b := true) (by kernel_rfl) rfl (fun _ => ?_) (fun h => by cases h)
  refine run_seq (x := F6B.c7) (y := F6B.c8) (by kernel_rfl) ?_
  refine run_plain (id := 2) (ops := F6B.o2) [(0, false), (1, true)] (by kernel_rfl) (by kernel_rfl) ?_
  refine cS (by kernel_rfl : opAt F6B.o2 0 = some (some 24, .call { callee := .value (.func 9), args := #[], argTypes := #[] }, none)) rfl rfl (ent Try.call9 rfl) (awake_ok hF) ?_
  rintro vw3 w3 ⟨rfl, hs⟩
  refine ⟨trivial, ?_⟩
  replace hF := hF.st hs
  replace hT := hT.trans hs (by simp)
  refine yS (by kernel_rfl : opAt F6B.o2 1 = some (some 2, .assign (.tmp 24), none)) rfl rfl (fun w' hS => val_assign rfl) ?_
  refine Sch.nil ?_
  refine run_ret1 (by kernel_rfl) Try.func6 Try.results6 rfl ?_
  exact ⟨rfl, hT.out1 (by decide)⟩
end Go.Proofs.Ytpmokjccfaakfaa

