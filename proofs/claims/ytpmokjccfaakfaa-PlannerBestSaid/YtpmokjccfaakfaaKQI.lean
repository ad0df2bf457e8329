/- Steps through functions of the program. -/
import Derived.Test.YtpmokjccfaakfaaKQE
set_option linter.unusedVariables false
set_option linter.unusedSimpArgs false
set_option maxRecDepth 100000
set_option maxHeartbeats 400000
namespace Go.Proofs.Ytpmokjccfaakfaa
open Go.K Go.K.Rep

namespace F5
noncomputable def c0 : Code := bodyOf Try.f5
noncomputable def c1 : Code := cl c0
noncomputable def o0 : Array Oper := rops c1
noncomputable def c2 : Code := cr c0
noncomputable def c3 : Code := cl c2
noncomputable def c4 : Code := cl c3
noncomputable def o1 : Array Oper := rops c4
noncomputable def c5 : Code := cr c3
noncomputable def c6 : Code := cl c5
noncomputable def c7 : Code := cl c6
noncomputable def o2 : Array Oper := rops c7
noncomputable def c8 : Code := cr c6
noncomputable def c9 : Code := cr c5
noncomputable def c10 : Code := cr c2
noncomputable def c11 : Code := cl c10
noncomputable def o3 : Array Oper := rops c11
noncomputable def c12 : Code := cr c10
noncomputable def c13 : Code := cl c12
noncomputable def o4 : Array Oper := rops c13
noncomputable def c14 : Code := cr c12
noncomputable def c15 : Code := cl c14
noncomputable def o5 : Array Oper := rops c15
noncomputable def c16 : Code := cr c14
noncomputable def c17 : Code := cl c16
noncomputable def o6 : Array Oper := rops c17
noncomputable def c18 : Code := cr c16
noncomputable def c19 : Code := cl c18
noncomputable def c20 : Code := cl c19
noncomputable def o7 : Array Oper := rops c20
noncomputable def c21 : Code := cr c19
noncomputable def c22 : Code := cl c21
noncomputable def c23 : Code := cl c22
noncomputable def o8 : Array Oper := rops c23
noncomputable def c24 : Code := cr c22
noncomputable def c25 : Code := cr c21
noncomputable def c26 : Code := cr c18
noncomputable def c27 : Code := cl c26
noncomputable def o9 : Array Oper := rops c27
noncomputable def c28 : Code := cr c26
noncomputable def c29 : Code := cl c28
noncomputable def c30 : Code := cl c29
noncomputable def o10 : Array Oper := rops c30
noncomputable def c31 : Code := cr c29
noncomputable def c32 : Code := cl c31
noncomputable def c33 : Code := cl c32
noncomputable def c34 : Code := cl c33
noncomputable def o11 : Array Oper := rops c34
noncomputable def c35 : Code := cr c33
noncomputable def c36 : Code := cl c35
noncomputable def c37 : Code := cl c36
noncomputable def c38 : Code := cr c36
noncomputable def c39 : Code := cr c35
noncomputable def c40 : Code := cl c39
noncomputable def c41 : Code := cl c40
noncomputable def c42 : Code := cl c41
noncomputable def o12 : Array Oper := rops c42
noncomputable def c43 : Code := cr c41
noncomputable def c44 : Code := cl c43
noncomputable def c45 : Code := cl c44
noncomputable def o13 : Array Oper := rops c45
noncomputable def c46 : Code := cr c44
noncomputable def c47 : Code := cl c46
noncomputable def c48 : Code := cl c47
noncomputable def o14 : Array Oper := rops c48
noncomputable def c49 : Code := cr c47
noncomputable def c50 : Code := cr c46
noncomputable def c51 : Code := cr c43
noncomputable def o15 : Array Oper := rops c51
noncomputable def c52 : Code := cr c39
noncomputable def o16 : Array Oper := rops c52
noncomputable def c53 : Code := cr c28
noncomputable def c54 : Code := cl c53
noncomputable def c55 : Code := cl c54
noncomputable def o17 : Array Oper := rops c55
noncomputable def c56 : Code := cr c54
noncomputable def c57 : Code := cl c56
noncomputable def c58 : Code := cl c57
noncomputable def c59 : Code := cl c58
noncomputable def o18 : Array Oper := rops c59
noncomputable def c60 : Code := cr c58
noncomputable def c61 : Code := cl c60
noncomputable def c62 : Code := cl c61
noncomputable def c63 : Code := cr c61
noncomputable def c64 : Code := cr c60
noncomputable def c65 : Code := cl c64
noncomputable def c66 : Code := cl c65
noncomputable def c67 : Code := cl c66
noncomputable def o19 : Array Oper := rops c67
noncomputable def c68 : Code := cr c66
noncomputable def c69 : Code := cl c68
noncomputable def o20 : Array Oper := rops c69
noncomputable def c70 : Code := cr c68
noncomputable def c71 : Code := cl c70
noncomputable def c72 : Code := cl c71
noncomputable def o21 : Array Oper := rops c72
noncomputable def c73 : Code := cr c71
noncomputable def c74 : Code := cl c73
noncomputable def c75 : Code := cl c74
noncomputable def o22 : Array Oper := rops c75
noncomputable def c76 : Code := cr c74
noncomputable def c77 : Code := cr c73
noncomputable def c78 : Code := cr c70
noncomputable def c79 : Code := cl c78
noncomputable def o23 : Array Oper := rops c79
noncomputable def c80 : Code := cr c78
noncomputable def c81 : Code := cl c80
noncomputable def c82 : Code := cl c81
noncomputable def o24 : Array Oper := rops c82
noncomputable def c83 : Code := cr c81
noncomputable def c84 : Code := cr c80
noncomputable def c85 : Code := cr c64
noncomputable def o25 : Array Oper := rops c85
noncomputable def c86 : Code := cr c53
noncomputable def c87 : Code := cl c86
noncomputable def o26 : Array Oper := rops c87
noncomputable def c88 : Code := cr c86
end F5
/-- The statement's function answers true. -/
theorem plannerBest_ok {w₀ : World} {C : Nat → Nat} {l : List Int} {vl : Value} (hF : Lim w₀ C) (hl : RV w₀ (Mc C) l vl) : Calls Try.prog 5 #[vl] w₀ (Ret fun v w' => v = .bool true ∧ Stp [] w₀ C w' C) := by
  have hF0 := hF
  have hT := Stp.refl [2, 3, 4, 5, 6, 7, 8, 9] w₀ (col1 C)
  replace hF := hF.col1
  replace hl : RV w₀ (Mc (col1 C)) l vl := by rw [Mc_col1]; exact hl
  refine calls_start (c := F5.c0) (N := 155) [vl] Try.func5 (by kernel_rfl) (by kernel_rfl) (by kernel_rfl) ?_
  show Run _ _ _ _ [(0, vl)] _ _
  refine run_seq (x := F5.c1) (y := F5.c2) (by kernel_rfl) ?_
  refine run_plain (id := 0) (ops := F5.o0) [(0, true)] (by kernel_rfl) (by kernel_rfl) ?_
  refine yS (by kernel_rfl : opAt F5.o0 0 = some (some 2, .assign (.const (.bool false)), none)) rfl rfl (fun w' hS => val_assign rfl) ?_
  refine Sch.nil ?_
  refine run_seq (x := F5.c3) (y := F5.c10) (by kernel_rfl) ?_
  refine run_seq (x := F5.c4) (y := F5.c5) (by kernel_rfl) ?_
  refine run_plain (id := 1) (ops := F5.o1) [(0, false), (1, true), (2, true), (3, true), (4, false), (5, true), (6, true)] (by kernel_rfl) (by kernel_rfl) ?_
  refine cS (by kernel_rfl : opAt F5.o1 0 = some (some 16, .call { callee := .value (.func 9), args := #[], argTypes := #[] }, none)) rfl rfl (ent Try.call9 rfl) (awake_ok hF) ?_
  rintro vw1 w1 ⟨rfl, hs⟩
  refine ⟨trivial, ?_⟩
  replace hF := hF.st hs
  replace hT := hT.trans hs (by simp)
  replace hl := hl.st hs (by first | decide | (simp <;> omega))
  refine yS (by kernel_rfl : opAt F5.o1 1 = some (some 17, .unOp .not 4 (.tmp 16), none)) rfl rfl (fun w' hS => val_not rfl) ?_
  refine yS (by kernel_rfl : opAt F5.o1 2 = some (some 18, .move (.tmp 17), none)) rfl rfl (fun w' hS => val_move rfl) ?_
  refine yS (by kernel_rfl : opAt F5.o1 3 = some (some 19, .move (.tmp 0), (some (2, false)))) rfl rfl (fun w' hS => val_move rfl) ?_
  refine cS (by kernel_rfl : opAt F5.o1 4 = some (some 20, .call { callee := .value (.func 10), args := #[(.tmp 19)], argTypes := #[22] }, (some (2, false)))) rfl rfl (ent Try.call10 rfl) (few_any hl) ?_
  rintro vw2 w2 ⟨rfl, rfl⟩
  refine ⟨trivial, ?_⟩
  refine yS (by kernel_rfl : opAt F5.o1 5 = some (some 21, .unOp .not 4 (.tmp 20), (some (2, false)))) rfl rfl (fun w' hS => val_notd rfl) ?_
  refine yS (by kernel_rfl : opAt F5.o1 6 = some (some 22, .pick (.tmp 18) (.const (.bool true)) (.tmp 21), none)) rfl rfl (fun w' hS => val_pick_f rfl rfl) ?_
  refine Sch.nil ?_
  refine run_if (x := F5.c6) (y := F5.c9) (o := .tmp 22) (by kernel_rfl) rfl (fun h22 => ?_) (fun h22 => ?_)
  · skip
    refine run_seq (x := F5.c7) (y := F5.c8) (by kernel_rfl) ?_
    refine run_plain (id := 2) (ops := F5.o2) [(0, false), (1, true)] (by kernel_rfl) (by kernel_rfl) ?_
    refine cS (by kernel_rfl : opAt F5.o2 0 = some (some 23, .call { callee := .value (.func 9), args := #[], argTypes := #[] }, none)) rfl rfl (ent Try.call9 rfl) (awake_ok hF) ?_
    rintro vw3 w3 ⟨rfl, hs⟩
    refine ⟨trivial, ?_⟩
    replace hF := hF.st hs
    replace hT := hT.trans hs (by simp)
    replace hl := hl.st hs (by first | decide | (simp <;> omega))
    refine yS (by kernel_rfl : opAt F5.o2 1 = some (some 2, .assign (.tmp 23), none)) rfl rfl (fun w' hS => val_assign rfl) ?_
    refine Sch.nil ?_
    refine run_ret1 (by kernel_rfl) Try.func5 Try.results5 rfl ?_
    exact ⟨rfl, hT.out1 (by decide)⟩
  · skip
    refine run_skip (by kernel_rfl) ?_
    refine run_seq (x := F5.c11) (y := F5.c12) (by kernel_rfl) ?_
    refine run_plain (id := 3) (ops := F5.o3) [(0, true), (1, false), (2, true)] (by kernel_rfl) (by kernel_rfl) ?_
    refine yS (by kernel_rfl : opAt F5.o3 0 = some (some 24, .move (.tmp 0), none)) rfl rfl (fun w' hS => val_move rfl) ?_
    refine cS (by kernel_rfl : opAt F5.o3 1 = some (some 25, .call { callee := .value (.func 11), args := #[(.tmp 24)], argTypes := #[22] }, none)) rfl rfl (ent Try.call11 rfl) (new_any hF hl) ?_
    rintro vw4 w4 ⟨Cd, bd, rfl, hs, hF, hd⟩
    refine ⟨trivial, ?_⟩
    replace hT := hT.trans hs (by simp)
    replace hl := hl.st hs (by first | decide | (simp <;> omega))
    refine yS (by kernel_rfl : opAt F5.o3 2 = some (some 3, .assign (.tmp 25), none)) rfl rfl (fun w' hS => val_assign rfl) ?_
    refine Sch.nil ?_
    refine run_seq (x := F5.c13) (y := F5.c14) (by kernel_rfl) ?_
    refine run_plain (id := 4) (ops := F5.o4) [(0, true), (1, false), (2, true)] (by kernel_rfl) (by kernel_rfl) ?_
    refine yS (by kernel_rfl : opAt F5.o4 0 = some (some 26, .move (.tmp 3), none)) rfl rfl (fun w' hS => val_move rfl) ?_
    refine cS (by kernel_rfl : opAt F5.o4 1 = some (some 27, .call { callee := .value (.func 12), args := #[(.tmp 26), (.const (.int .i64 4))], argTypes := #[29, 3] }, none)) rfl rfl (ent Try.call12 rfl) (keys_ok (most := 4) hF (by decide) hd (by decide)) ?_
    rintro vk w5 ⟨ks, hs, hk, hd, hkl, hkk⟩
    refine ⟨trivial, ?_⟩
    replace hF := hF.st hs
    replace hT := hT.trans hs (by simp)
    replace hl := hl.st hs (by first | decide | (simp <;> omega))
    have hok : KeysOK ks := fun k hk => ⟨(hkk k hk).1, fun c hc => by have := (hkk k hk).2 c hc; omega⟩
    have hsm : KeysSm ks := hok.sm (by omega)
    have hatl : (atomsS ks).length ≤ 8 := atomsS_bound hok (n := 4) (fun k hk c hc => ((hkk k hk).2 c hc).2.1)
    refine yS (by kernel_rfl : opAt F5.o4 2 = some (some 4, .assign (.tmp 27), none)) rfl rfl (fun w' hS => val_assign rfl) ?_
    refine Sch.nil ?_
    refine run_seq (x := F5.c15) (y := F5.c16) (by kernel_rfl) ?_
    refine run_plain (id := 5) (ops := F5.o5) [(0, true), (1, true), (2, false), (3, true), (4, true), (5, true), (6, false), (7, true), (8, false), (9, true), (10, true), (11, true)] (by kernel_rfl) (by kernel_rfl) ?_
    refine yS (by kernel_rfl : opAt F5.o5 0 = some (some 28, .move (.tmp 3), none)) rfl rfl (fun w' hS => val_move rfl) ?_
    refine yS (by kernel_rfl : opAt F5.o5 1 = some (some 29, .move (.tmp 4), none)) rfl rfl (fun w' hS => val_move rfl) ?_
    refine cS (by kernel_rfl : opAt F5.o5 2 = some (some 30, .call { callee := .value (.func 16), args := #[(.tmp 28), (.tmp 29)], argTypes := #[29, 23] }, none)) rfl rfl (ent Try.call16 rfl) (rates_ok hF (by decide) hd hk hsm) ?_
    rintro vr w6 ⟨rs, hs, hr, hd, hrl, hro⟩
    refine ⟨trivial, ?_⟩
    replace hF := hF.st hs
    replace hT := hT.trans hs (by simp)
    replace hl := hl.st hs (by first | decide | (simp <;> omega))
    replace hk := hk.st hs (by first | decide | (simp <;> omega))
    have hz : checkP ks rs = 0 := checkP_ok (by omega) (by omega) hrl hro
    refine yS (by kernel_rfl : opAt F5.o5 3 = some (some 31, .move (.tmp 3), none)) rfl rfl (fun w' hS => val_move rfl) ?_
    refine yS (by kernel_rfl : opAt F5.o5 4 = some (some 32, .move (.tmp 4), none)) rfl rfl (fun w' hS => val_move rfl) ?_
    refine yS (by kernel_rfl : opAt F5.o5 5 = some (some 33, .call { callee := .builtin .len, args := #[(.tmp 32)], argTypes := #[23] }, none)) rfl rfl (fun w' hS => hk.lenV rfl Try.underlying23 w' ) ?_
    refine cS (by kernel_rfl : opAt F5.o5 6 = some (some 34, .call { callee := .value (.func 22), args := #[(.tmp 31), (.tmp 33)], argTypes := #[29, 3] }, none)) rfl rfl (ent Try.call22 rfl) (numbers_ok (n := ks.length) hF (by decide) hd (by omega)) ?_
    rintro vq w7 ⟨qs, hs, hq, hd, hql, hqb⟩
    refine ⟨trivial, ?_⟩
    replace hF := hF.st hs
    replace hT := hT.trans hs (by simp)
    replace hl := hl.st hs (by first | decide | (simp <;> omega))
    replace hk := hk.st hs (by first | decide | (simp <;> omega))
    replace hr := hr.st hs (by first | decide | (simp <;> omega))
    refine yS (by kernel_rfl : opAt F5.o5 7 = some (some 35, .move (.tmp 3), none)) rfl rfl (fun w' hS => val_move rfl) ?_
    refine cS (by kernel_rfl : opAt F5.o5 8 = some (some 36, .call { callee := .value (.func 19), args := #[(.tmp 35), (.const (.int .i64 80))], argTypes := #[29, 3] }, none)) rfl rfl (ent Try.call19 rfl) (next_any (n := 80) hF (by decide) hd (by omega) (by omega)) ?_
    rintro vw8 w8 ⟨bg, rfl, hbg, hs, hd⟩
    refine ⟨trivial, ?_⟩
    replace hF := hF.st hs
    replace hT := hT.trans hs (by simp)
    replace hl := hl.st hs (by first | decide | (simp <;> omega))
    replace hk := hk.st hs (by first | decide | (simp <;> omega))
    replace hr := hr.st hs (by first | decide | (simp <;> omega))
    replace hq := hq.st hs (by first | decide | (simp <;> omega))
    refine yS (by kernel_rfl : opAt F5.o5 9 = some (some 5, .assign (.tmp 30), none)) rfl rfl (fun w' hS => val_assign rfl) ?_
    refine yS (by kernel_rfl : opAt F5.o5 10 = some (some 6, .assign (.tmp 34), none)) rfl rfl (fun w' hS => val_assign rfl) ?_
    refine yS (by kernel_rfl : opAt F5.o5 11 = some (some 7, .assign (.tmp 36), none)) rfl rfl (fun w' hS => val_assign rfl) ?_
    refine Sch.nil ?_
    refine run_seq (x := F5.c17) (y := F5.c18) (by kernel_rfl) ?_
    refine run_plain (id := 6) (ops := F5.o6) [(0, true), (1, true), (2, true), (3, true), (4, false), (5, true), (6, true), (7, true), (8, false), (9, false), (10, true)] (by kernel_rfl) (by kernel_rfl) ?_
    refine yS (by kernel_rfl : opAt F5.o6 0 = some (some 38, .move (.tmp 4), none)) rfl rfl (fun w' hS => val_move rfl) ?_
    refine yS (by kernel_rfl : opAt F5.o6 1 = some (some 39, .move (.tmp 5), none)) rfl rfl (fun w' hS => val_move rfl) ?_
    refine yS (by kernel_rfl : opAt F5.o6 2 = some (some 40, .move (.tmp 6), none)) rfl rfl (fun w' hS => val_move rfl) ?_
    refine yS (by kernel_rfl : opAt F5.o6 3 = some (some 41, .move (.tmp 7), none)) rfl rfl (fun w' hS => val_move rfl) ?_
    obtain ⟨z, hz2, hz256⟩ : ∃ z : Nat, z = 2 ^ ks.length ∧ z ≤ 32 := ⟨_, rfl, Nat.pow_le_pow_right (n := 2) (by decide) (show ks.length ≤ 5 by omega)⟩
    obtain ⟨m0, hm0, hml, hq0, hqb0, hbest⟩ := choose_dealt (bg := (bg : Int)) hz hql (by omega) (by omega) hqb
    rw [← hz2] at hml hbest hql
    refine cS (by kernel_rfl : opAt F5.o6 4 = some (some 42, .call { callee := .value (.func 23), args := #[(.tmp 38), (.tmp 39), (.tmp 40), (.tmp 41)], argTypes := #[23, 22, 22, 3] }, none)) rfl rfl (ent Try.call23 rfl) (choose_ok hF hk hr hq hsm) ?_
    rintro vw9 w9 ⟨up, rfl, hs, hup⟩
    refine ⟨trivial, ?_⟩
    replace hF := hF.st hs
    replace hT := hT.trans hs (by simp)
    replace hl := hl.st hs (by first | decide | (simp <;> omega))
    replace hd := hd.st hs (by first | decide | (simp <;> omega)) (by first | decide | (simp <;> omega))
    replace hk := hk.st hs (by first | decide | (simp <;> omega))
    replace hr := hr.st hs (by first | decide | (simp <;> omega))
    replace hq := hq.st hs (by first | decide | (simp <;> omega))
    rw [hm0] at hup
    rw [hm0]
    obtain ⟨L, hL⟩ : ∃ L, L = bitsL m0 8 := ⟨_, rfl⟩
    rw [← hL] at hup ⊢
    have hLl : L.length ≤ 8 := by rw [hL]; exact bitsL_len _ _
    have hchL : chB L = m0 := by rw [hL, chB_bits]; exact Nat.mod_eq_of_lt (by omega)
    refine yS (by kernel_rfl : opAt F5.o6 5 = some (some 37, .move (.tmp 42), none)) rfl rfl (fun w' hS => val_move rfl) ?_
    refine yS (by kernel_rfl : opAt F5.o6 6 = some (some 43, .extract (.tmp 37) 0, none)) rfl rfl (fun w' hS => val_extract rfl rfl) ?_
    refine yS (by kernel_rfl : opAt F5.o6 7 = some (some 44, .extract (.tmp 37) 1, none)) rfl rfl (fun w' hS => val_extract rfl rfl) ?_
    refine aS (by kernel_rfl : opAt F5.o6 8 = some (some 8, .alloc 44, none)) rfl rfl (a_alloc (cs := [.slice none 0 0, .int .i64 0, .int .i64 0]) hF 4 (by kernel_rfl)) ?_
    rintro _ w10 ⟨Cw10, bw10, rfl, hs, hp, hF⟩
    refine ⟨trivial, ?_⟩
    replace hT := hT.trans hs (by simp)
    replace hl := hl.st hs (by first | decide | (simp <;> omega))
    replace hd := hd.st hs (by first | decide | (simp <;> omega)) (by first | decide | (simp <;> omega))
    replace hk := hk.st hs (by first | decide | (simp <;> omega))
    replace hr := hr.st hs (by first | decide | (simp <;> omega))
    replace hq := hq.st hs (by first | decide | (simp <;> omega))
    replace hup := hup.st hs (by first | decide | (simp <;> omega))
    refine aN (by kernel_rfl : opAt F5.o6 9 = some (none, .store 44 (.tmp 8) (.tmp 43), none)) rfl (a_storeAll (vs := [up, .int .i64 (qS qs m0), .int .i64 (fS ks rs m0)]) (n := 3) rfl rfl (by kernel_rfl) rfl rfl (by intro u hu; simp only [List.mem_cons, List.not_mem_nil, or_false] at hu; rcases hu with rfl | rfl | rfl <;> first | rfl | exact (hup.one rfl).2) hp rfl) ?_
    rintro _ w11 ⟨rfl, hs, hp⟩
    refine ⟨trivial, ?_⟩
    replace hF := hF.st hs
    replace hT := hT.trans hs (by simp)
    replace hl := hl.st hs (by first | decide | (simp <;> omega))
    replace hd := hd.st hs (by first | decide | (simp <;> omega)) (by first | decide | (simp <;> omega))
    replace hk := hk.st hs (by first | decide | (simp <;> omega))
    replace hr := hr.st hs (by first | decide | (simp <;> omega))
    replace hq := hq.st hs (by first | decide | (simp <;> omega))
    replace hup := hup.st hs (by first | decide | (simp <;> omega))
    refine yS (by kernel_rfl : opAt F5.o6 10 = some (some 9, .assign (.tmp 44), none)) rfl rfl (fun w' hS => val_assign rfl) ?_
    refine Sch.nil ?_
    refine run_seq (x := F5.c19) (y := F5.c26) (by kernel_rfl) ?_
    refine run_seq (x := F5.c20) (y := F5.c21) (by kernel_rfl) ?_
    refine run_plain (id := 7) (ops := F5.o7) [(0, true), (1, true)] (by kernel_rfl) (by kernel_rfl) ?_
    refine yS (by kernel_rfl : opAt F5.o7 0 = some (some 45, .move (.tmp 9), none)) rfl rfl (fun w' hS => val_move rfl) ?_
    refine yS (by kernel_rfl : opAt F5.o7 1 = some (some 46, .binOp .neq 37 (.tmp 45) (.const (.int .i64 0)) 37, none)) rfl rfl (fun w' hS => val_F (val_neq rfl rfl) (fun e => e rfl)) ?_
    refine Sch.nil ?_
    refine run_cond (x := F5.c22) (y := F5.c25) (o := .tmp 46) (b := false) (by kernel_rfl) rfl (fun h => by cases h) (fun _ => ?_)
    refine run_skip (by kernel_rfl) ?_
    refine run_seq (x := F5.c27) (y := F5.c28) (by kernel_rfl) ?_
    refine run_plain (id := 9) (ops := F5.o9) [(0, true)] (by kernel_rfl) (by kernel_rfl) ?_
    refine yS (by kernel_rfl : opAt F5.o9 0 = some (some 10, .assign (.const (.int .i64 0)), none)) rfl rfl (fun w' hS => val_assign rfl) ?_
    refine Sch.nil ?_
    refine run_seq (x := F5.c29) (y := F5.c53) (by kernel_rfl) ?_
    refine run_seq (x := F5.c30) (y := F5.c31) (by kernel_rfl) ?_
    refine run_plain (id := 10) (ops := F5.o10) [(0, true), (1, false), (2, true), (3, true)] (by kernel_rfl) (by kernel_rfl) ?_
    refine yS (by kernel_rfl : opAt F5.o10 0 = some (some 47, .fieldAddr 44 (.tmp 8) 0, none)) rfl rfl (fun w' hS => val_fieldAddr (off := 0) (by kernel_rfl) rfl) ?_
    refine nS (by kernel_rfl : opAt F5.o10 1 = some (some 48, .load 22 (.tmp 47), none)) rfl rfl trivial (val_loadOwn hp.at_ (by kernel_rfl) rfl rfl) ?_
    refine yS (by kernel_rfl : opAt F5.o10 2 = some (some 49, .call { callee := .builtin .len, args := #[(.tmp 48)], argTypes := #[22] }, none)) rfl rfl (fun w' hS => hup.lenV rfl Try.underlying22 w' ) ?_
    refine yS (by kernel_rfl : opAt F5.o10 3 = some (some 50, .move (.const (.int .i64 0)), none)) rfl rfl (fun w' hS => val_move rfl) ?_
    refine Sch.nil ?_
    refine run_block (x := F5.c32) (id := 0) (by kernel_rfl) ?_
    
    refine run_loop (ι := Nat × (Nat → Nat)) (I := fun x w => x.1 ≤ L.length ∧ Lim w x.2 ∧ Stp [2, 3, 4, 5, 6, 7, 8, 9] w₀ (col1 C) w x.2 ∧ RV w (Mc x.2) ks vk ∧ RV w (Mc x.2) rs vr ∧ RV w (Mc x.2) qs vq ∧ OwnB w x.2 4 bw10 (.cells [up, .int .i64 (qS qs m0), .int .i64 (fS ks rs m0)].toArray 44) ∧ RV w (Mc x.2) L up) (e := fun x => [(4, vk), (5, vr), (6, vq), (7, .int .i64 (bg : Int)), (8, .pointer (some ⟨bw10, 0, none⟩)), (10, .int .i64 (chB (L.take x.1) : Nat)), (48, up), (49, .int .i64 L.length), (50, .int .i64 x.1)]) (m := fun x => L.length - x.1) (x₀ := (0, Cw10)) (body := F5.c33) (by kernel_rfl) (sub_cons 4 rfl rfl (sub_cons 5 rfl rfl (sub_cons 6 rfl rfl (sub_cons 7 rfl rfl (sub_cons 8 rfl rfl (sub_cons 10 rfl rfl (sub_cons 48 rfl rfl (sub_cons 49 rfl rfl (sub_cons 50 rfl rfl (sub_nil _)))))))))) ?_ ?_
    · exact ⟨Nat.zero_le _, hF, hT, hk, hr, hq, hp, hup⟩
    intro ⟨q, C1⟩ w12 hI next
    obtain ⟨hqq, hF, hT, hk, hr, hq, hp, hup⟩ := hI
    try simp only at hqq hF hT hk hr hq hp hup
    have next1 := next
    clear next
    show Run _ _ _ _ [(4, vk), (5, vr), (6, vq), (7, .int .i64 (bg : Int)), (8, .pointer (some ⟨bw10, 0, none⟩)), (10, .int .i64 (chB (L.take q) : Nat)), (48, up), (49, .int .i64 L.length), (50, .int .i64 q)] _ _
    refine run_seq (x := F5.c34) (y := F5.c35) (by kernel_rfl) ?_
    refine run_plain (id := 11) (ops := F5.o11) [(0, true)] (by kernel_rfl) (by kernel_rfl) ?_
    refine yS (by kernel_rfl : opAt F5.o11 0 = some (some 51, .binOp .lss 3 (.tmp 50) (.tmp 49) 3, none)) rfl rfl (fun w' hS => val_lss rfl rfl) ?_
    refine Sch.nil ?_
    refine run_seq (x := F5.c36) (y := F5.c39) (by kernel_rfl) ?_
    refine run_if (x := F5.c37) (y := F5.c38) (o := .tmp 51) (by kernel_rfl) rfl (fun h51 => ?_) (fun h51 => ?_)
    · skip
      have hqL : q < L.length := by omega
      obtain ⟨i, hi8, hib, hLq, hLt⟩ : ∃ i, i < 8 ∧ m0.testBit i = true ∧ L[q] = (i : Int) ∧ L.take q = bitsL m0 i := by
        subst hL; exact bitsL_at m0 8 q hqL
      have hik : i < ks.length := by
        rcases Nat.lt_or_ge i ks.length with h | h
        · exact h
        · rw [Nat.testBit_lt_two_pow (Nat.lt_of_lt_of_le hml (by rw [hz2]; exact Nat.pow_le_pow_right (by decide) h))] at hib; cases hib
      have hcl : chB (L.take q) < 2 ^ i := by rw [hLt, chB_bits]; exact Nat.mod_lt _ (Nat.pow_pos (by decide))
      have hpi : 2 ^ i ≤ 2 ^ 7 := Nat.pow_le_pow_right (by decide) (by omega)
      have hsn : chB (L.take (q + 1)) = chB (L.take q) ||| 2 ^ i := by rw [List.take_succ_eq_append_getElem hqL, hLq, chB_snoc]
      have hdv : chB (L.take q) / 2 ^ i = 0 := Nat.div_eq_of_lt hcl
      refine run_skip (by kernel_rfl) ?_
      refine run_seq (x := F5.c40) (y := F5.c52) (by kernel_rfl) ?_
      refine run_block (x := F5.c41) (id := 1) (by kernel_rfl) ?_
      refine run_seq (x := F5.c42) (y := F5.c43) (by kernel_rfl) ?_
      refine run_plain (id := 12) (ops := F5.o12) [(0, true), (1, false), (2, true)] (by kernel_rfl) (by kernel_rfl) ?_
      refine iS (e := 3) (by kernel_rfl : opAt F5.o12 0 = some (some 52, .indexAddr 22 (.tmp 48) (.tmp 50), none)) rfl rfl hup rfl (by kernel_rfl) rfl (by omega) (by omega) ?_
      intro b52 o52 h52
      try simp only [Int.toNat_natCast] at h52
      refine lN (by kernel_rfl : opAt F5.o12 1 = some (some 53, .load 3 (.tmp 52), none)) rfl rfl trivial h52 (by kernel_rfl) rfl rfl ?_
      intro v53 g53
      obtain rfl := rv_int.1 g53
      rw [hLq]
      refine yS (by kernel_rfl : opAt F5.o12 2 = some (some 12, .assign (.tmp 53), none)) rfl rfl (fun w' hS => val_assign rfl) ?_
      refine Sch.nil ?_
      refine run_seq (x := F5.c44) (y := F5.c51) (by kernel_rfl) ?_
      refine run_seq (x := F5.c45) (y := F5.c46) (by kernel_rfl) ?_
      refine run_plain (id := 13) (ops := F5.o13) [(0, true), (1, true), (2, true), (3, true), (4, true), (5, true), (6, true), (7, true), (8, true), (9, true), (10, true), (11, true), (12, true), (13, true)] (by kernel_rfl) (by kernel_rfl) ?_
      refine yS (by kernel_rfl : opAt F5.o13 0 = some (some 54, .move (.tmp 12), none)) rfl rfl (fun w' hS => val_move rfl) ?_
      refine yS (by kernel_rfl : opAt F5.o13 1 = some (some 55, .binOp .lss 3 (.tmp 54) (.const (.int .i64 0)) 3, none)) rfl rfl (fun w' hS => val_F (val_lss rfl rfl) (by omega)) ?_
      refine yS (by kernel_rfl : opAt F5.o13 2 = some (some 56, .move (.tmp 55), none)) rfl rfl (fun w' hS => val_move rfl) ?_
      refine yS (by kernel_rfl : opAt F5.o13 3 = some (some 57, .move (.tmp 12), (some (2, false)))) rfl rfl (fun w' hS => val_move rfl) ?_
      refine yS (by kernel_rfl : opAt F5.o13 4 = some (some 58, .move (.tmp 4), (some (2, false)))) rfl rfl (fun w' hS => val_move rfl) ?_
      refine yS (by kernel_rfl : opAt F5.o13 5 = some (some 59, .call { callee := .builtin .len, args := #[(.tmp 58)], argTypes := #[23] }, (some (2, false)))) rfl rfl (fun w' hS => hk.lenV rfl Try.underlying23 w' ) ?_
      refine yS (by kernel_rfl : opAt F5.o13 6 = some (some 60, .binOp .geq 3 (.tmp 57) (.tmp 59) 3, (some (2, false)))) rfl rfl (fun w' hS => val_F (val_geq rfl rfl) (by omega)) ?_
      refine yS (by kernel_rfl : opAt F5.o13 7 = some (some 61, .pick (.tmp 56) (.const (.bool true)) (.tmp 60), none)) rfl rfl (fun w' hS => val_pick_f rfl rfl) ?_
      refine yS (by kernel_rfl : opAt F5.o13 8 = some (some 62, .move (.tmp 61), none)) rfl rfl (fun w' hS => val_move rfl) ?_
      refine yS (by kernel_rfl : opAt F5.o13 9 = some (some 63, .move (.tmp 10), (some (8, false)))) rfl rfl (fun w' hS => val_move rfl) ?_
      refine yS (by kernel_rfl : opAt F5.o13 10 = some (some 64, .move (.tmp 12), (some (8, false)))) rfl rfl (fun w' hS => val_move rfl) ?_
      refine yS (by kernel_rfl : opAt F5.o13 11 = some (some 65, .binOp .shr 3 (.tmp 63) (.tmp 64) 3, (some (8, false)))) rfl rfl (fun w' hS => val_shrE (r := ((chB (L.take q) / 2 ^ i : Nat) : Int)) rfl rfl (by omega) (shrN (by omega))) ?_
      refine yS (by kernel_rfl : opAt F5.o13 12 = some (some 66, .binOp .neq 3 (.tmp 65) (.const (.int .i64 0)) 3, (some (8, false)))) rfl rfl (fun w' hS => val_F (val_neq rfl rfl) (by omega)) ?_
      refine yS (by kernel_rfl : opAt F5.o13 13 = some (some 67, .pick (.tmp 62) (.const (.bool true)) (.tmp 66), none)) rfl rfl (fun w' hS => val_pick_f rfl rfl) ?_
      refine Sch.nil ?_
      refine run_cond (x := F5.c47) (y := F5.c50) (o := .tmp 67) (b := false) (by kernel_rfl) rfl (fun h => by cases h) (fun _ => ?_)
      refine run_skip (by kernel_rfl) ?_
      refine run_plain (id := 15) (ops := F5.o15) [(0, true), (1, true), (2, true), (3, true), (4, true)] (by kernel_rfl) (by kernel_rfl) ?_
      refine yS (by kernel_rfl : opAt F5.o15 0 = some (some 68, .move (.tmp 10), none)) rfl rfl (fun w' hS => val_move rfl) ?_
      refine yS (by kernel_rfl : opAt F5.o15 1 = some (some 69, .move (.tmp 12), none)) rfl rfl (fun w' hS => val_move rfl) ?_
      refine yS (by kernel_rfl : opAt F5.o15 2 = some (some 70, .binOp .shl 3 (.const (.int .i64 1)) (.tmp 69) 3, none)) rfl rfl (fun w' hS => val_shlE (r := ((2 ^ i : Nat) : Int)) rfl rfl (by omega) (shl1N (by omega))) ?_
      refine yS (by kernel_rfl : opAt F5.o15 3 = some (some 71, .binOp .or 3 (.tmp 68) (.tmp 70) 3, none)) rfl rfl (fun w' hS => val_orE (r := ((chB (L.take q) ||| 2 ^ i : Nat) : Int)) rfl rfl (bits_or (by omega) (by omega))) ?_
      refine yS (by kernel_rfl : opAt F5.o15 4 = some (some 10, .assign (.tmp 71), none)) rfl rfl (fun w' hS => val_assign rfl) ?_
      refine Sch.nil ?_
      refine run_inBlock ?_
      refine run_plain (id := 16) (ops := F5.o16) [(0, true), (1, true)] (by kernel_rfl) (by kernel_rfl) ?_
      refine yS (by kernel_rfl : opAt F5.o16 0 = some (some 72, .binOp .add 3 (.tmp 50) (.const (.int .i64 1)) 3, none)) rfl rfl (fun w' hS => val_addi rfl rfl (by omega) (by omega)) ?_
      refine yS (by kernel_rfl : opAt F5.o16 1 = some (some 50, .move (.tmp 72), none)) rfl rfl (fun w' hS => val_move rfl) ?_
      refine Sch.nil ?_
      refine kp (sub_cons 4 rfl rfl (sub_cons 5 rfl rfl (sub_cons 6 rfl rfl (sub_cons 7 rfl rfl (sub_cons 8 rfl rfl (sub_cons 10 rfl (eq_int (by simp only; rw [hsn])) (sub_cons 48 rfl rfl (sub_cons 49 rfl rfl (sub_cons 50 rfl (eq_int (by simp)) (sub_nil _)))))))))) (next1 (q + 1, C1) _ ⟨(by first | omega | (simp only; omega)), hF, hT, hk, hr, hq, hp, hup⟩ (by first | omega | (simp only; omega)))
    · skip
      obtain rfl : q = L.length := by omega
      rw [List.take_length, hchL]
      refine run_exit (id := 0) (by kernel_rfl) rfl ?_
      refine run_seq (x := F5.c54) (y := F5.c86) (by kernel_rfl) ?_
      refine run_seq (x := F5.c55) (y := F5.c56) (by kernel_rfl) ?_
      refine run_plain (id := 17) (ops := F5.o17) [(0, true), (1, true), (2, true)] (by kernel_rfl) (by kernel_rfl) ?_
      refine yS (by kernel_rfl : opAt F5.o17 0 = some (some 73, .move (.tmp 6), none)) rfl rfl (fun w' hS => val_move rfl) ?_
      refine yS (by kernel_rfl : opAt F5.o17 1 = some (some 74, .call { callee := .builtin .len, args := #[(.tmp 73)], argTypes := #[22] }, none)) rfl rfl (fun w' hS => hq.lenV rfl Try.underlying22 w' ) ?_
      refine yS (by kernel_rfl : opAt F5.o17 2 = some (some 75, .move (.const (.int .i64 0)), none)) rfl rfl (fun w' hS => val_move rfl) ?_
      refine Sch.nil ?_
      refine run_block (x := F5.c57) (id := 2) (by kernel_rfl) ?_
      
      refine run_loop (ι := Nat × (Nat → Nat)) (I := fun x w => x.1 ≤ z ∧ Lim w x.2 ∧ Stp [2, 3, 4, 5, 6, 7, 8, 9] w₀ (col1 C) w x.2 ∧ RV w (Mc x.2) ks vk ∧ RV w (Mc x.2) rs vr ∧ RV w (Mc x.2) qs vq ∧ OwnB w x.2 4 bw10 (.cells [up, .int .i64 (qS qs m0), .int .i64 (fS ks rs m0)].toArray 44)) (e := fun x => [(4, vk), (5, vr), (6, vq), (7, .int .i64 (bg : Int)), (8, .pointer (some ⟨bw10, 0, none⟩)), (10, .int .i64 (m0 : Int)), (74, .int .i64 (z : Int)), (75, .int .i64 x.1)]) (m := fun x => z - x.1) (x₀ := (0, C1)) (body := F5.c58) (by kernel_rfl) (sub_cons 4 rfl rfl (sub_cons 5 rfl rfl (sub_cons 6 rfl rfl (sub_cons 7 rfl rfl (sub_cons 8 rfl rfl (sub_cons 10 rfl rfl (sub_cons 74 rfl (eq_int (by rw [hql])) (sub_cons 75 rfl rfl (sub_nil _))))))))) ?_ ?_
      · exact ⟨Nat.zero_le _, hF, hT, hk, hr, hq, hp⟩
      intro ⟨m, C1⟩ w13 hI next
      obtain ⟨hm, hF, hT, hk, hr, hq, hp⟩ := hI
      try simp only at hm hF hT hk hr hq hp
      have next2 := next
      clear next
      show Run _ _ _ _ [(4, vk), (5, vr), (6, vq), (7, .int .i64 (bg : Int)), (8, .pointer (some ⟨bw10, 0, none⟩)), (10, .int .i64 (m0 : Int)), (74, .int .i64 (z : Int)), (75, .int .i64 m)] _ _
      refine run_seq (x := F5.c59) (y := F5.c60) (by kernel_rfl) ?_
      refine run_plain (id := 18) (ops := F5.o18) [(0, true)] (by kernel_rfl) (by kernel_rfl) ?_
      refine yS (by kernel_rfl : opAt F5.o18 0 = some (some 76, .binOp .lss 3 (.tmp 75) (.tmp 74) 3, none)) rfl rfl (fun w' hS => val_lss rfl rfl) ?_
      refine Sch.nil ?_
      refine run_seq (x := F5.c61) (y := F5.c64) (by kernel_rfl) ?_
      refine run_if (x := F5.c62) (y := F5.c63) (o := .tmp 76) (by kernel_rfl) rfl (fun h76 => ?_) (fun h76 => ?_)
      · skip
        have hmz : m < z := by omega
        have hgq : qS qs m = qs[m] := by simp [qS, List.getD_eq_getElem?_getD, show m < qs.length by omega]
        have hgf : fS ks rs m = missS (setsS ks) rs m := rfl
        have hb := hbest m hmz
        rw [hgq, hgf] at hb
        have hEx : (m : Int) = m0 → missS (setsS ks) rs m = fS ks rs m0 := fun e => by rw [show m = m0 by omega]; rfl
        have hEq : (m : Int) = m0 → qs[m] = qS qs m0 := fun e => by rw [← hgq, show m = m0 by omega]
        refine run_skip (by kernel_rfl) ?_
        refine run_seq (x := F5.c65) (y := F5.c85) (by kernel_rfl) ?_
        refine run_block (x := F5.c66) (id := 3) (by kernel_rfl) ?_
        refine run_seq (x := F5.c67) (y := F5.c68) (by kernel_rfl) ?_
        refine run_plain (id := 19) (ops := F5.o19) [(0, true), (1, true)] (by kernel_rfl) (by kernel_rfl) ?_
        refine yS (by kernel_rfl : opAt F5.o19 0 = some (some 77, .move (.tmp 75), none)) rfl rfl (fun w' hS => val_move rfl) ?_
        refine yS (by kernel_rfl : opAt F5.o19 1 = some (some 13, .assign (.tmp 77), none)) rfl rfl (fun w' hS => val_assign rfl) ?_
        refine Sch.nil ?_
        refine run_seq (x := F5.c69) (y := F5.c70) (by kernel_rfl) ?_
        refine run_plain (id := 20) (ops := F5.o20) [(0, true), (1, true), (2, true), (3, false), (4, true), (5, true), (6, true), (7, true), (8, true)] (by kernel_rfl) (by kernel_rfl) ?_
        refine yS (by kernel_rfl : opAt F5.o20 0 = some (some 79, .move (.tmp 4), none)) rfl rfl (fun w' hS => val_move rfl) ?_
        refine yS (by kernel_rfl : opAt F5.o20 1 = some (some 80, .move (.tmp 5), none)) rfl rfl (fun w' hS => val_move rfl) ?_
        refine yS (by kernel_rfl : opAt F5.o20 2 = some (some 81, .move (.tmp 13), none)) rfl rfl (fun w' hS => val_move rfl) ?_
        refine cS (by kernel_rfl : opAt F5.o20 3 = some (some 82, .call { callee := .value (.func 20), args := #[(.tmp 79), (.tmp 80), (.tmp 81)], argTypes := #[23, 22, 3] }, none)) rfl rfl (ent Try.call20 rfl) (missed_ok (mask := ((m : Nat) : Int)) hF hk hr hsm) ?_
        rintro vw14 w14 ⟨rfl, hs⟩
        refine ⟨trivial, ?_⟩
        replace hF := hF.st hs
        replace hT := hT.trans hs (by simp)
        replace hk := hk.st hs (by first | decide | (simp <;> omega))
        replace hr := hr.st hs (by first | decide | (simp <;> omega))
        replace hq := hq.st hs (by first | decide | (simp <;> omega))
        replace hp := hp.st hs (by first | decide | (simp <;> omega))
        rw [missE_ok hz (by rw [← hz2]; omega)]
        refine yS (by kernel_rfl : opAt F5.o20 4 = some (some 78, .move (.tmp 82), none)) rfl rfl (fun w' hS => val_move rfl) ?_
        refine yS (by kernel_rfl : opAt F5.o20 5 = some (some 83, .extract (.tmp 78) 0, none)) rfl rfl (fun w' hS => val_extract rfl rfl) ?_
        refine yS (by kernel_rfl : opAt F5.o20 6 = some (some 84, .extract (.tmp 78) 1, none)) rfl rfl (fun w' hS => val_extract rfl rfl) ?_
        refine yS (by kernel_rfl : opAt F5.o20 7 = some (some 14, .assign (.tmp 83), none)) rfl rfl (fun w' hS => val_assign rfl) ?_
        refine yS (by kernel_rfl : opAt F5.o20 8 = some (some 15, .assign (.tmp 84), none)) rfl rfl (fun w' hS => val_assign rfl) ?_
        refine Sch.nil ?_
        refine run_seq (x := F5.c71) (y := F5.c78) (by kernel_rfl) ?_
        refine run_seq (x := F5.c72) (y := F5.c73) (by kernel_rfl) ?_
        refine run_cut 112 (false) (C1) ?_ ?_
        · intro hcut
          by_cases hA : (m : Int) = m0
          · skip
            refine run_draw (id := 21) (ops := F5.o21) [] (C1) [(0, true), (1, true), (2, true), (3, true), (4, true), (5, true), (6, true), (7, true), (8, true), (9, true), (10, true), (11, true), (12, true), (13, true), (14, true), (15, true), (16, true), (17, true), (18, true), (19, true), (20, true), (21, true), (22, true), (23, true), (24, true), (25, true), (26, true), (27, true)] Try_mixed (by kernel_rfl) (by kernel_rfl) (by kernel_rfl) ?_
            intro w15 hs
            replace hF := hF.st hs
            replace hT := hT.trans hs (by simp)
            replace hk := hk.st hs (by first | decide | (simp <;> omega))
            replace hr := hr.st hs (by first | decide | (simp <;> omega))
            replace hq := hq.st hs (by first | decide | (simp <;> omega))
            replace hp := hp.st hs (by first | decide | (simp <;> omega))
            have hcs := hs
            refine yS (by kernel_rfl : opAt F5.o21 0 = some (some 85, .move (.tmp 15), none)) rfl rfl (fun w' hS => val_move rfl) ?_
            refine yS (by kernel_rfl : opAt F5.o21 1 = some (some 86, .binOp .neq 37 (.tmp 85) (.const (.int .i64 0)) 37, none)) rfl rfl (fun w' hS => val_F (val_neq rfl rfl) (by decide)) ?_
            refine yS (by kernel_rfl : opAt F5.o21 2 = some (some 87, .move (.tmp 86), none)) rfl rfl (fun w' hS => val_move rfl) ?_
            refine yS (by kernel_rfl : opAt F5.o21 3 = some (some 88, .move (.tmp 13), (some (2, false)))) rfl rfl (fun w' hS => val_move rfl) ?_
            refine yS (by kernel_rfl : opAt F5.o21 4 = some (some 89, .move (.tmp 10), (some (2, false)))) rfl rfl (fun w' hS => val_move rfl) ?_
            refine yS (by kernel_rfl : opAt F5.o21 5 = some (some 90, .binOp .eql 3 (.tmp 88) (.tmp 89) 3, (some (2, false)))) rfl rfl (fun w' hS => val_T (val_eql rfl rfl) hA) ?_
            refine yS (by kernel_rfl : opAt F5.o21 6 = some (some 91, .move (.tmp 90), (some (2, false)))) rfl rfl (fun w' hS => val_move rfl) ?_
            refine yS (by kernel_rfl : opAt F5.o21 7 = some (some 92, .move (.tmp 14), (some (6, true)))) rfl rfl (fun w' hS => val_move rfl) ?_
            refine yS (by kernel_rfl : opAt F5.o21 8 = some (some 93, .fieldAddr 44 (.tmp 8) 2, (some (6, true)))) rfl rfl (fun w' hS => val_fieldAddr (off := 2) (by kernel_rfl) rfl) ?_
            refine yS (by kernel_rfl : opAt F5.o21 9 = some (some 94, .load 3 (.tmp 93), (some (6, true)))) rfl rfl (fun w' hS => val_loadOwn (hp.stay hS (by decide)) (by kernel_rfl) rfl rfl) ?_
            refine yS (by kernel_rfl : opAt F5.o21 10 = some (some 95, .binOp .neq 3 (.tmp 92) (.tmp 94) 3, (some (6, true)))) rfl rfl (fun w' hS => val_F (val_neq rfl rfl) (fun e => e (hEx hA))) ?_
            refine yS (by kernel_rfl : opAt F5.o21 11 = some (some 96, .move (.tmp 95), (some (6, true)))) rfl rfl (fun w' hS => val_move rfl) ?_
            refine yS (by kernel_rfl : opAt F5.o21 12 = some (some 97, .move (.tmp 6), (some (11, false)))) rfl rfl (fun w' hS => val_move rfl) ?_
            refine yS (by kernel_rfl : opAt F5.o21 13 = some (some 98, .move (.tmp 13), (some (11, false)))) rfl rfl (fun w' hS => val_move rfl) ?_
            refine iS (e := 3) (by kernel_rfl : opAt F5.o21 14 = some (some 99, .indexAddr 22 (.tmp 97) (.tmp 98), (some (11, false)))) rfl rfl hq rfl (by kernel_rfl) rfl (by omega) (by omega) ?_
            intro b99 o99 h99
            try simp only [Int.toNat_natCast] at h99
            refine lS (by kernel_rfl : opAt F5.o21 15 = some (some 100, .load 3 (.tmp 99), (some (11, false)))) rfl rfl (fun w' hS => h99.stay hS (by decide)) h99 (by kernel_rfl) rfl rfl ?_
            intro v100 g100
            obtain rfl := rv_int.1 g100
            refine yS (by kernel_rfl : opAt F5.o21 16 = some (some 101, .fieldAddr 44 (.tmp 8) 1, (some (11, false)))) rfl rfl (fun w' hS => val_fieldAddr (off := 1) (by kernel_rfl) rfl) ?_
            refine yS (by kernel_rfl : opAt F5.o21 17 = some (some 102, .load 3 (.tmp 101), (some (11, false)))) rfl rfl (fun w' hS => val_loadOwn (hp.stay hS (by decide)) (by kernel_rfl) rfl rfl) ?_
            refine yS (by kernel_rfl : opAt F5.o21 18 = some (some 103, .binOp .neq 3 (.tmp 100) (.tmp 102) 3, (some (11, false)))) rfl rfl (fun w' hS => val_F (val_neq rfl rfl) (fun e => e (hEq hA))) ?_
            refine yS (by kernel_rfl : opAt F5.o21 19 = some (some 104, .pick (.tmp 96) (.const (.bool true)) (.tmp 103), (some (6, true)))) rfl rfl (fun w' hS => val_pick_f rfl rfl) ?_
            refine yS (by kernel_rfl : opAt F5.o21 20 = some (some 105, .move (.tmp 104), (some (6, true)))) rfl rfl (fun w' hS => val_move rfl) ?_
            refine yS (by kernel_rfl : opAt F5.o21 21 = some (some 106, .fieldAddr 44 (.tmp 8) 1, (some (20, false)))) rfl rfl (fun w' hS => val_fieldAddr (off := 1) (by kernel_rfl) rfl) ?_
            refine yS (by kernel_rfl : opAt F5.o21 22 = some (some 107, .load 3 (.tmp 106), (some (20, false)))) rfl rfl (fun w' hS => val_loadOwn (hp.stay hS (by decide)) (by kernel_rfl) rfl rfl) ?_
            refine yS (by kernel_rfl : opAt F5.o21 23 = some (some 108, .move (.tmp 7), (some (20, false)))) rfl rfl (fun w' hS => val_move rfl) ?_
            refine yS (by kernel_rfl : opAt F5.o21 24 = some (some 109, .binOp .gtr 3 (.tmp 107) (.tmp 108) 3, (some (20, false)))) rfl rfl (fun w' hS => val_F (val_gtr rfl rfl) (by omega)) ?_
            refine yS (by kernel_rfl : opAt F5.o21 25 = some (some 110, .pick (.tmp 105) (.const (.bool true)) (.tmp 109), (some (6, true)))) rfl rfl (fun w' hS => val_pick_f rfl rfl) ?_
            refine yS (by kernel_rfl : opAt F5.o21 26 = some (some 111, .pick (.tmp 91) (.tmp 110) (.const (.bool false)), (some (2, false)))) rfl rfl (fun w' hS => val_pick_t rfl rfl) ?_
            refine yS (by kernel_rfl : opAt F5.o21 27 = some (some 112, .pick (.tmp 87) (.const (.bool true)) (.tmp 111), none)) rfl rfl (fun w' hS => val_pick_f rfl rfl) ?_
            exact Sch.nil (hcut _ _ _ hcs rfl (rfl) (sub_skip rfl (sub_skip rfl (sub_skip rfl (sub_skip rfl (sub_skip rfl (sub_skip rfl (sub_skip rfl (sub_skip rfl (sub_skip rfl (sub_skip rfl (sub_skip rfl (sub_skip rfl (sub_skip rfl (sub_skip rfl (sub_skip rfl (sub_skip rfl (sub_skip rfl (sub_skip rfl (sub_skip rfl (sub_skip rfl (sub_skip rfl (sub_skip rfl (sub_skip rfl (sub_skip rfl (sub_skip rfl (sub_skip rfl (sub_skip rfl (sub_skip rfl (Sub.refl _))))))))))))))))))))))))))))))
          · skip
            refine run_draw (id := 21) (ops := F5.o21) [] (C1) [(0, true), (1, true), (2, true), (3, true), (4, true), (5, true), (6, true), (7, true), (8, true), (9, true), (10, true), (11, true), (12, true), (13, true), (14, true), (15, true), (16, true), (17, true), (18, true), (19, true), (20, true), (21, true), (22, true), (23, true), (24, true), (25, true), (26, true), (27, true)] Try_mixed (by kernel_rfl) (by kernel_rfl) (by kernel_rfl) ?_
            intro w16 hs
            replace hF := hF.st hs
            replace hT := hT.trans hs (by simp)
            replace hk := hk.st hs (by first | decide | (simp <;> omega))
            replace hr := hr.st hs (by first | decide | (simp <;> omega))
            replace hq := hq.st hs (by first | decide | (simp <;> omega))
            replace hp := hp.st hs (by first | decide | (simp <;> omega))
            have hcs := hs
            refine yS (by kernel_rfl : opAt F5.o21 0 = some (some 85, .move (.tmp 15), none)) rfl rfl (fun w' hS => val_move rfl) ?_
            refine yS (by kernel_rfl : opAt F5.o21 1 = some (some 86, .binOp .neq 37 (.tmp 85) (.const (.int .i64 0)) 37, none)) rfl rfl (fun w' hS => val_F (val_neq rfl rfl) (by decide)) ?_
            refine yS (by kernel_rfl : opAt F5.o21 2 = some (some 87, .move (.tmp 86), none)) rfl rfl (fun w' hS => val_move rfl) ?_
            refine yS (by kernel_rfl : opAt F5.o21 3 = some (some 88, .move (.tmp 13), (some (2, false)))) rfl rfl (fun w' hS => val_move rfl) ?_
            refine yS (by kernel_rfl : opAt F5.o21 4 = some (some 89, .move (.tmp 10), (some (2, false)))) rfl rfl (fun w' hS => val_move rfl) ?_
            refine yS (by kernel_rfl : opAt F5.o21 5 = some (some 90, .binOp .eql 3 (.tmp 88) (.tmp 89) 3, (some (2, false)))) rfl rfl (fun w' hS => val_F (val_eql rfl rfl) hA) ?_
            refine yS (by kernel_rfl : opAt F5.o21 6 = some (some 91, .move (.tmp 90), (some (2, false)))) rfl rfl (fun w' hS => val_move rfl) ?_
            refine pS (by kernel_rfl : opAt F5.o21 7 = some (some 92, .move (.tmp 14), (some (6, true)))) rfl rfl ?_
            refine pS (by kernel_rfl : opAt F5.o21 8 = some (some 93, .fieldAddr 44 (.tmp 8) 2, (some (6, true)))) rfl rfl ?_
            refine pS (by kernel_rfl : opAt F5.o21 9 = some (some 94, .load 3 (.tmp 93), (some (6, true)))) rfl rfl ?_
            refine pS (by kernel_rfl : opAt F5.o21 10 = some (some 95, .binOp .neq 3 (.tmp 92) (.tmp 94) 3, (some (6, true)))) rfl rfl ?_
            refine pS (by kernel_rfl : opAt F5.o21 11 = some (some 96, .move (.tmp 95), (some (6, true)))) rfl rfl ?_
            refine pS (by kernel_rfl : opAt F5.o21 12 = some (some 97, .move (.tmp 6), (some (11, false)))) rfl rfl ?_
            refine pS (by kernel_rfl : opAt F5.o21 13 = some (some 98, .move (.tmp 13), (some (11, false)))) rfl rfl ?_
            refine pS (by kernel_rfl : opAt F5.o21 14 = some (some 99, .indexAddr 22 (.tmp 97) (.tmp 98), (some (11, false)))) rfl rfl ?_
            refine pS (by kernel_rfl : opAt F5.o21 15 = some (some 100, .load 3 (.tmp 99), (some (11, false)))) rfl rfl ?_
            refine pS (by kernel_rfl : opAt F5.o21 16 = some (some 101, .fieldAddr 44 (.tmp 8) 1, (some (11, false)))) rfl rfl ?_
            refine pS (by kernel_rfl : opAt F5.o21 17 = some (some 102, .load 3 (.tmp 101), (some (11, false)))) rfl rfl ?_
            refine pS (by kernel_rfl : opAt F5.o21 18 = some (some 103, .binOp .neq 3 (.tmp 100) (.tmp 102) 3, (some (11, false)))) rfl rfl ?_
            refine pS (by kernel_rfl : opAt F5.o21 19 = some (some 104, .pick (.tmp 96) (.const (.bool true)) (.tmp 103), (some (6, true)))) rfl rfl ?_
            refine pS (by kernel_rfl : opAt F5.o21 20 = some (some 105, .move (.tmp 104), (some (6, true)))) rfl rfl ?_
            refine pS (by kernel_rfl : opAt F5.o21 21 = some (some 106, .fieldAddr 44 (.tmp 8) 1, (some (20, false)))) rfl rfl ?_
            refine pS (by kernel_rfl : opAt F5.o21 22 = some (some 107, .load 3 (.tmp 106), (some (20, false)))) rfl rfl ?_
            refine pS (by kernel_rfl : opAt F5.o21 23 = some (some 108, .move (.tmp 7), (some (20, false)))) rfl rfl ?_
            refine pS (by kernel_rfl : opAt F5.o21 24 = some (some 109, .binOp .gtr 3 (.tmp 107) (.tmp 108) 3, (some (20, false)))) rfl rfl ?_
            refine pS (by kernel_rfl : opAt F5.o21 25 = some (some 110, .pick (.tmp 105) (.const (.bool true)) (.tmp 109), (some (6, true)))) rfl rfl ?_
            refine yS (by kernel_rfl : opAt F5.o21 26 = some (some 111, .pick (.tmp 91) (.tmp 110) (.const (.bool false)), (some (2, false)))) rfl rfl (fun w' hS => val_pick_f rfl rfl) ?_
            refine yS (by kernel_rfl : opAt F5.o21 27 = some (some 112, .pick (.tmp 87) (.const (.bool true)) (.tmp 111), none)) rfl rfl (fun w' hS => val_pick_f rfl rfl) ?_
            exact Sch.nil (hcut _ _ _ hcs rfl (rfl) (sub_skip rfl (sub_skip rfl (sub_skip rfl (sub_skip rfl (sub_skip rfl (sub_skip rfl (sub_skip rfl (sub_skip rfl (sub_skip rfl (sub_skip rfl (sub_skip rfl (sub_skip rfl (sub_skip rfl (sub_skip rfl (sub_skip rfl (sub_skip rfl (sub_skip rfl (sub_skip rfl (sub_skip rfl (sub_skip rfl (sub_skip rfl (sub_skip rfl (sub_skip rfl (sub_skip rfl (sub_skip rfl (sub_skip rfl (sub_skip rfl (sub_skip rfl (Sub.refl _))))))))))))))))))))))))))))))
        intro w17 hs
        replace hF := hF.st hs
        replace hT := hT.trans hs (by simp)
        replace hk := hk.st hs (by first | decide | (simp <;> omega))
        replace hr := hr.st hs (by first | decide | (simp <;> omega))
        replace hq := hq.st hs (by first | decide | (simp <;> omega))
        replace hp := hp.st hs (by first | decide | (simp <;> omega))
        refine run_cond (x := F5.c74) (y := F5.c77) (o := .tmp 112) (b := false) (by kernel_rfl) rfl (fun h => by cases h) (fun _ => ?_)
        refine run_skip (by kernel_rfl) ?_
        refine run_seq (x := F5.c79) (y := F5.c80) (by kernel_rfl) ?_
        refine run_cut 153 (false) (C1) ?_ ?_
        · intro hcut
          by_cases hA : qs[m] ≤ (bg : Int)
          · skip
            by_cases hB : missS (setsS ks) rs m = fS ks rs m0
            · skip
              by_cases hC : qs[m] = qS qs m0
              · skip
                refine run_draw (id := 23) (ops := F5.o23) [] (C1) [(0, true), (1, true), (2, true), (3, true), (4, true), (5, true), (6, true), (7, true), (8, true), (9, true), (10, true), (11, true), (12, true), (13, true), (14, true), (15, true), (16, true), (17, true), (18, true), (19, true), (20, true), (21, true), (22, true), (23, true), (24, true), (25, true), (26, true), (27, true), (28, true), (29, true), (30, true), (31, true), (32, true), (33, true), (34, true), (35, true), (36, true), (37, true), (38, true), (39, true), (40, true)] Try_mixed (by kernel_rfl) (by kernel_rfl) (by kernel_rfl) ?_
                intro w18 hs
                replace hF := hF.st hs
                replace hT := hT.trans hs (by simp)
                replace hk := hk.st hs (by first | decide | (simp <;> omega))
                replace hr := hr.st hs (by first | decide | (simp <;> omega))
                replace hq := hq.st hs (by first | decide | (simp <;> omega))
                replace hp := hp.st hs (by first | decide | (simp <;> omega))
                have hcs := hs
                refine yS (by kernel_rfl : opAt F5.o23 0 = some (some 113, .move (.tmp 6), none)) rfl rfl (fun w' hS => val_move rfl) ?_
                refine yS (by kernel_rfl : opAt F5.o23 1 = some (some 114, .move (.tmp 13), none)) rfl rfl (fun w' hS => val_move rfl) ?_
                refine iS (e := 3) (by kernel_rfl : opAt F5.o23 2 = some (some 115, .indexAddr 22 (.tmp 113) (.tmp 114), none)) rfl rfl hq rfl (by kernel_rfl) rfl (by omega) (by omega) ?_
                intro b115 o115 h115
                try simp only [Int.toNat_natCast] at h115
                refine lS (by kernel_rfl : opAt F5.o23 3 = some (some 116, .load 3 (.tmp 115), none)) rfl rfl (fun w' hS => h115.stay hS (by decide)) h115 (by kernel_rfl) rfl rfl ?_
                intro v116 g116
                obtain rfl := rv_int.1 g116
                refine yS (by kernel_rfl : opAt F5.o23 4 = some (some 117, .move (.tmp 7), none)) rfl rfl (fun w' hS => val_move rfl) ?_
                refine yS (by kernel_rfl : opAt F5.o23 5 = some (some 118, .binOp .leq 3 (.tmp 116) (.tmp 117) 3, none)) rfl rfl (fun w' hS => val_T (val_leq rfl rfl) hA) ?_
                refine yS (by kernel_rfl : opAt F5.o23 6 = some (some 119, .move (.tmp 118), none)) rfl rfl (fun w' hS => val_move rfl) ?_
                refine yS (by kernel_rfl : opAt F5.o23 7 = some (some 120, .move (.tmp 14), (some (6, true)))) rfl rfl (fun w' hS => val_move rfl) ?_
                refine yS (by kernel_rfl : opAt F5.o23 8 = some (some 121, .fieldAddr 44 (.tmp 8) 2, (some (6, true)))) rfl rfl (fun w' hS => val_fieldAddr (off := 2) (by kernel_rfl) rfl) ?_
                refine yS (by kernel_rfl : opAt F5.o23 9 = some (some 122, .load 3 (.tmp 121), (some (6, true)))) rfl rfl (fun w' hS => val_loadOwn (hp.stay hS (by decide)) (by kernel_rfl) rfl rfl) ?_
                refine yS (by kernel_rfl : opAt F5.o23 10 = some (some 123, .binOp .lss 3 (.tmp 120) (.tmp 122) 3, (some (6, true)))) rfl rfl (fun w' hS => val_F (val_lss rfl rfl) (by omega)) ?_
                refine yS (by kernel_rfl : opAt F5.o23 11 = some (some 124, .move (.tmp 123), (some (6, true)))) rfl rfl (fun w' hS => val_move rfl) ?_
                refine yS (by kernel_rfl : opAt F5.o23 12 = some (some 125, .move (.tmp 14), (some (11, false)))) rfl rfl (fun w' hS => val_move rfl) ?_
                refine yS (by kernel_rfl : opAt F5.o23 13 = some (some 126, .fieldAddr 44 (.tmp 8) 2, (some (11, false)))) rfl rfl (fun w' hS => val_fieldAddr (off := 2) (by kernel_rfl) rfl) ?_
                refine yS (by kernel_rfl : opAt F5.o23 14 = some (some 127, .load 3 (.tmp 126), (some (11, false)))) rfl rfl (fun w' hS => val_loadOwn (hp.stay hS (by decide)) (by kernel_rfl) rfl rfl) ?_
                refine yS (by kernel_rfl : opAt F5.o23 15 = some (some 128, .binOp .eql 3 (.tmp 125) (.tmp 127) 3, (some (11, false)))) rfl rfl (fun w' hS => val_T (val_eql rfl rfl) hB) ?_
                refine yS (by kernel_rfl : opAt F5.o23 16 = some (some 129, .move (.tmp 128), (some (11, false)))) rfl rfl (fun w' hS => val_move rfl) ?_
                refine yS (by kernel_rfl : opAt F5.o23 17 = some (some 130, .move (.tmp 6), (some (16, true)))) rfl rfl (fun w' hS => val_move rfl) ?_
                refine yS (by kernel_rfl : opAt F5.o23 18 = some (some 131, .move (.tmp 13), (some (16, true)))) rfl rfl (fun w' hS => val_move rfl) ?_
                refine iS (e := 3) (by kernel_rfl : opAt F5.o23 19 = some (some 132, .indexAddr 22 (.tmp 130) (.tmp 131), (some (16, true)))) rfl rfl hq rfl (by kernel_rfl) rfl (by omega) (by omega) ?_
                intro b132 o132 h132
                try simp only [Int.toNat_natCast] at h132
                refine lS (by kernel_rfl : opAt F5.o23 20 = some (some 133, .load 3 (.tmp 132), (some (16, true)))) rfl rfl (fun w' hS => h132.stay hS (by decide)) h132 (by kernel_rfl) rfl rfl ?_
                intro v133 g133
                obtain rfl := rv_int.1 g133
                refine yS (by kernel_rfl : opAt F5.o23 21 = some (some 134, .fieldAddr 44 (.tmp 8) 1, (some (16, true)))) rfl rfl (fun w' hS => val_fieldAddr (off := 1) (by kernel_rfl) rfl) ?_
                refine yS (by kernel_rfl : opAt F5.o23 22 = some (some 135, .load 3 (.tmp 134), (some (16, true)))) rfl rfl (fun w' hS => val_loadOwn (hp.stay hS (by decide)) (by kernel_rfl) rfl rfl) ?_
                refine yS (by kernel_rfl : opAt F5.o23 23 = some (some 136, .binOp .lss 3 (.tmp 133) (.tmp 135) 3, (some (16, true)))) rfl rfl (fun w' hS => val_F (val_lss rfl rfl) (by omega)) ?_
                refine yS (by kernel_rfl : opAt F5.o23 24 = some (some 137, .move (.tmp 136), (some (16, true)))) rfl rfl (fun w' hS => val_move rfl) ?_
                refine yS (by kernel_rfl : opAt F5.o23 25 = some (some 138, .move (.tmp 6), (some (24, false)))) rfl rfl (fun w' hS => val_move rfl) ?_
                refine yS (by kernel_rfl : opAt F5.o23 26 = some (some 139, .move (.tmp 13), (some (24, false)))) rfl rfl (fun w' hS => val_move rfl) ?_
                refine iS (e := 3) (by kernel_rfl : opAt F5.o23 27 = some (some 140, .indexAddr 22 (.tmp 138) (.tmp 139), (some (24, false)))) rfl rfl hq rfl (by kernel_rfl) rfl (by omega) (by omega) ?_
                intro b140 o140 h140
                try simp only [Int.toNat_natCast] at h140
                refine lS (by kernel_rfl : opAt F5.o23 28 = some (some 141, .load 3 (.tmp 140), (some (24, false)))) rfl rfl (fun w' hS => h140.stay hS (by decide)) h140 (by kernel_rfl) rfl rfl ?_
                intro v141 g141
                obtain rfl := rv_int.1 g141
                refine yS (by kernel_rfl : opAt F5.o23 29 = some (some 142, .fieldAddr 44 (.tmp 8) 1, (some (24, false)))) rfl rfl (fun w' hS => val_fieldAddr (off := 1) (by kernel_rfl) rfl) ?_
                refine yS (by kernel_rfl : opAt F5.o23 30 = some (some 143, .load 3 (.tmp 142), (some (24, false)))) rfl rfl (fun w' hS => val_loadOwn (hp.stay hS (by decide)) (by kernel_rfl) rfl rfl) ?_
                refine yS (by kernel_rfl : opAt F5.o23 31 = some (some 144, .binOp .eql 3 (.tmp 141) (.tmp 143) 3, (some (24, false)))) rfl rfl (fun w' hS => val_T (val_eql rfl rfl) hC) ?_
                refine yS (by kernel_rfl : opAt F5.o23 32 = some (some 145, .move (.tmp 144), (some (24, false)))) rfl rfl (fun w' hS => val_move rfl) ?_
                refine yS (by kernel_rfl : opAt F5.o23 33 = some (some 146, .move (.tmp 13), (some (32, true)))) rfl rfl (fun w' hS => val_move rfl) ?_
                refine yS (by kernel_rfl : opAt F5.o23 34 = some (some 147, .move (.tmp 10), (some (32, true)))) rfl rfl (fun w' hS => val_move rfl) ?_
                refine yS (by kernel_rfl : opAt F5.o23 35 = some (some 148, .binOp .lss 3 (.tmp 146) (.tmp 147) 3, (some (32, true)))) rfl rfl (fun w' hS => val_F (val_lss rfl rfl) (by omega)) ?_
                refine yS (by kernel_rfl : opAt F5.o23 36 = some (some 149, .pick (.tmp 145) (.tmp 148) (.const (.bool false)), (some (24, false)))) rfl rfl (fun w' hS => val_pick_t rfl rfl) ?_
                refine yS (by kernel_rfl : opAt F5.o23 37 = some (some 150, .pick (.tmp 137) (.const (.bool true)) (.tmp 149), (some (16, true)))) rfl rfl (fun w' hS => val_pick_f rfl rfl) ?_
                refine yS (by kernel_rfl : opAt F5.o23 38 = some (some 151, .pick (.tmp 129) (.tmp 150) (.const (.bool false)), (some (11, false)))) rfl rfl (fun w' hS => val_pick_t rfl rfl) ?_
                refine yS (by kernel_rfl : opAt F5.o23 39 = some (some 152, .pick (.tmp 124) (.const (.bool true)) (.tmp 151), (some (6, true)))) rfl rfl (fun w' hS => val_pick_f rfl rfl) ?_
                refine yS (by kernel_rfl : opAt F5.o23 40 = some (some 153, .pick (.tmp 119) (.tmp 152) (.const (.bool false)), none)) rfl rfl (fun w' hS => val_pick_t rfl rfl) ?_
                exact Sch.nil (hcut _ _ _ hcs rfl (rfl) (sub_skip rfl (sub_skip rfl (sub_skip rfl (sub_skip rfl (sub_skip rfl (sub_skip rfl (sub_skip rfl (sub_skip rfl (sub_skip rfl (sub_skip rfl (sub_skip rfl (sub_skip rfl (sub_skip rfl (sub_skip rfl (sub_skip rfl (sub_skip rfl (sub_skip rfl (sub_skip rfl (sub_skip rfl (sub_skip rfl (sub_skip rfl (sub_skip rfl (sub_skip rfl (sub_skip rfl (sub_skip rfl (sub_skip rfl (sub_skip rfl (sub_skip rfl (sub_skip rfl (sub_skip rfl (sub_skip rfl (sub_skip rfl (sub_skip rfl (sub_skip rfl (sub_skip rfl (sub_skip rfl (sub_skip rfl (sub_skip rfl (sub_skip rfl (sub_skip rfl (sub_skip rfl (Sub.refl _)))))))))))))))))))))))))))))))))))))))))))
              · skip
                refine run_draw (id := 23) (ops := F5.o23) [] (C1) [(0, true), (1, true), (2, true), (3, true), (4, true), (5, true), (6, true), (7, true), (8, true), (9, true), (10, true), (11, true), (12, true), (13, true), (14, true), (15, true), (16, true), (17, true), (18, true), (19, true), (20, true), (21, true), (22, true), (23, true), (24, true), (25, true), (26, true), (27, true), (28, true), (29, true), (30, true), (31, true), (32, true), (33, true), (34, true), (35, true), (36, true), (37, true), (38, true), (39, true), (40, true)] Try_mixed (by kernel_rfl) (by kernel_rfl) (by kernel_rfl) ?_
                intro w19 hs
                replace hF := hF.st hs
                replace hT := hT.trans hs (by simp)
                replace hk := hk.st hs (by first | decide | (simp <;> omega))
                replace hr := hr.st hs (by first | decide | (simp <;> omega))
                replace hq := hq.st hs (by first | decide | (simp <;> omega))
                replace hp := hp.st hs (by first | decide | (simp <;> omega))
                have hcs := hs
                refine yS (by kernel_rfl : opAt F5.o23 0 = some (some 113, .move (.tmp 6), none)) rfl rfl (fun w' hS => val_move rfl) ?_
                refine yS (by kernel_rfl : opAt F5.o23 1 = some (some 114, .move (.tmp 13), none)) rfl rfl (fun w' hS => val_move rfl) ?_
                refine iS (e := 3) (by kernel_rfl : opAt F5.o23 2 = some (some 115, .indexAddr 22 (.tmp 113) (.tmp 114), none)) rfl rfl hq rfl (by kernel_rfl) rfl (by omega) (by omega) ?_
                intro b115 o115 h115
                try simp only [Int.toNat_natCast] at h115
                refine lS (by kernel_rfl : opAt F5.o23 3 = some (some 116, .load 3 (.tmp 115), none)) rfl rfl (fun w' hS => h115.stay hS (by decide)) h115 (by kernel_rfl) rfl rfl ?_
                intro v116 g116
                obtain rfl := rv_int.1 g116
                refine yS (by kernel_rfl : opAt F5.o23 4 = some (some 117, .move (.tmp 7), none)) rfl rfl (fun w' hS => val_move rfl) ?_
                refine yS (by kernel_rfl : opAt F5.o23 5 = some (some 118, .binOp .leq 3 (.tmp 116) (.tmp 117) 3, none)) rfl rfl (fun w' hS => val_T (val_leq rfl rfl) hA) ?_
                refine yS (by kernel_rfl : opAt F5.o23 6 = some (some 119, .move (.tmp 118), none)) rfl rfl (fun w' hS => val_move rfl) ?_
                refine yS (by kernel_rfl : opAt F5.o23 7 = some (some 120, .move (.tmp 14), (some (6, true)))) rfl rfl (fun w' hS => val_move rfl) ?_
                refine yS (by kernel_rfl : opAt F5.o23 8 = some (some 121, .fieldAddr 44 (.tmp 8) 2, (some (6, true)))) rfl rfl (fun w' hS => val_fieldAddr (off := 2) (by kernel_rfl) rfl) ?_
                refine yS (by kernel_rfl : opAt F5.o23 9 = some (some 122, .load 3 (.tmp 121), (some (6, true)))) rfl rfl (fun w' hS => val_loadOwn (hp.stay hS (by decide)) (by kernel_rfl) rfl rfl) ?_
                refine yS (by kernel_rfl : opAt F5.o23 10 = some (some 123, .binOp .lss 3 (.tmp 120) (.tmp 122) 3, (some (6, true)))) rfl rfl (fun w' hS => val_F (val_lss rfl rfl) (by omega)) ?_
                refine yS (by kernel_rfl : opAt F5.o23 11 = some (some 124, .move (.tmp 123), (some (6, true)))) rfl rfl (fun w' hS => val_move rfl) ?_
                refine yS (by kernel_rfl : opAt F5.o23 12 = some (some 125, .move (.tmp 14), (some (11, false)))) rfl rfl (fun w' hS => val_move rfl) ?_
                refine yS (by kernel_rfl : opAt F5.o23 13 = some (some 126, .fieldAddr 44 (.tmp 8) 2, (some (11, false)))) rfl rfl (fun w' hS => val_fieldAddr (off := 2) (by kernel_rfl) rfl) ?_
                refine yS (by kernel_rfl : opAt F5.o23 14 = some (some 127, .load 3 (.tmp 126), (some (11, false)))) rfl rfl (fun w' hS => val_loadOwn (hp.stay hS (by decide)) (by kernel_rfl) rfl rfl) ?_
                refine yS (by kernel_rfl : opAt F5.o23 15 = some (some 128, .binOp .eql 3 (.tmp 125) (.tmp 127) 3, (some (11, false)))) rfl rfl (fun w' hS => val_T (val_eql rfl rfl) hB) ?_
                refine yS (by kernel_rfl : opAt F5.o23 16 = some (some 129, .move (.tmp 128), (some (11, false)))) rfl rfl (fun w' hS => val_move rfl) ?_
                refine yS (by kernel_rfl : opAt F5.o23 17 = some (some 130, .move (.tmp 6), (some (16, true)))) rfl rfl (fun w' hS => val_move rfl) ?_
                refine yS (by kernel_rfl : opAt F5.o23 18 = some (some 131, .move (.tmp 13), (some (16, true)))) rfl rfl (fun w' hS => val_move rfl) ?_
                refine iS (e := 3) (by kernel_rfl : opAt F5.o23 19 = some (some 132, .indexAddr 22 (.tmp 130) (.tmp 131), (some (16, true)))) rfl rfl hq rfl (by kernel_rfl) rfl (by omega) (by omega) ?_
                intro b132 o132 h132
                try simp only [Int.toNat_natCast] at h132
                refine lS (by kernel_rfl : opAt F5.o23 20 = some (some 133, .load 3 (.tmp 132), (some (16, true)))) rfl rfl (fun w' hS => h132.stay hS (by decide)) h132 (by kernel_rfl) rfl rfl ?_
                intro v133 g133
                obtain rfl := rv_int.1 g133
                refine yS (by kernel_rfl : opAt F5.o23 21 = some (some 134, .fieldAddr 44 (.tmp 8) 1, (some (16, true)))) rfl rfl (fun w' hS => val_fieldAddr (off := 1) (by kernel_rfl) rfl) ?_
                refine yS (by kernel_rfl : opAt F5.o23 22 = some (some 135, .load 3 (.tmp 134), (some (16, true)))) rfl rfl (fun w' hS => val_loadOwn (hp.stay hS (by decide)) (by kernel_rfl) rfl rfl) ?_
                refine yS (by kernel_rfl : opAt F5.o23 23 = some (some 136, .binOp .lss 3 (.tmp 133) (.tmp 135) 3, (some (16, true)))) rfl rfl (fun w' hS => val_F (val_lss rfl rfl) (by omega)) ?_
                refine yS (by kernel_rfl : opAt F5.o23 24 = some (some 137, .move (.tmp 136), (some (16, true)))) rfl rfl (fun w' hS => val_move rfl) ?_
                refine yS (by kernel_rfl : opAt F5.o23 25 = some (some 138, .move (.tmp 6), (some (24, false)))) rfl rfl (fun w' hS => val_move rfl) ?_
                refine yS (by kernel_rfl : opAt F5.o23 26 = some (some 139, .move (.tmp 13), (some (24, false)))) rfl rfl (fun w' hS => val_move rfl) ?_
                refine iS (e := 3) (by kernel_rfl : opAt F5.o23 27 = some (some 140, .indexAddr 22 (.tmp 138) (.tmp 139), (some (24, false)))) rfl rfl hq rfl (by kernel_rfl) rfl (by omega) (by omega) ?_
                intro b140 o140 h140
                try simp only [Int.toNat_natCast] at h140
                refine lS (by kernel_rfl : opAt F5.o23 28 = some (some 141, .load 3 (.tmp 140), (some (24, false)))) rfl rfl (fun w' hS => h140.stay hS (by decide)) h140 (by kernel_rfl) rfl rfl ?_
                intro v141 g141
                obtain rfl := rv_int.1 g141
                refine yS (by kernel_rfl : opAt F5.o23 29 = some (some 142, .fieldAddr 44 (.tmp 8) 1, (some (24, false)))) rfl rfl (fun w' hS => val_fieldAddr (off := 1) (by kernel_rfl) rfl) ?_
                refine yS (by kernel_rfl : opAt F5.o23 30 = some (some 143, .load 3 (.tmp 142), (some (24, false)))) rfl rfl (fun w' hS => val_loadOwn (hp.stay hS (by decide)) (by kernel_rfl) rfl rfl) ?_
                refine yS (by kernel_rfl : opAt F5.o23 31 = some (some 144, .binOp .eql 3 (.tmp 141) (.tmp 143) 3, (some (24, false)))) rfl rfl (fun w' hS => val_F (val_eql rfl rfl) hC) ?_
                refine yS (by kernel_rfl : opAt F5.o23 32 = some (some 145, .move (.tmp 144), (some (24, false)))) rfl rfl (fun w' hS => val_move rfl) ?_
                refine pS (by kernel_rfl : opAt F5.o23 33 = some (some 146, .move (.tmp 13), (some (32, true)))) rfl rfl ?_
                refine pS (by kernel_rfl : opAt F5.o23 34 = some (some 147, .move (.tmp 10), (some (32, true)))) rfl rfl ?_
                refine pS (by kernel_rfl : opAt F5.o23 35 = some (some 148, .binOp .lss 3 (.tmp 146) (.tmp 147) 3, (some (32, true)))) rfl rfl ?_
                refine yS (by kernel_rfl : opAt F5.o23 36 = some (some 149, .pick (.tmp 145) (.tmp 148) (.const (.bool false)), (some (24, false)))) rfl rfl (fun w' hS => val_pick_f rfl rfl) ?_
                refine yS (by kernel_rfl : opAt F5.o23 37 = some (some 150, .pick (.tmp 137) (.const (.bool true)) (.tmp 149), (some (16, true)))) rfl rfl (fun w' hS => val_pick_f rfl rfl) ?_
                refine yS (by kernel_rfl : opAt F5.o23 38 = some (some 151, .pick (.tmp 129) (.tmp 150) (.const (.bool false)), (some (11, false)))) rfl rfl (fun w' hS => val_pick_t rfl rfl) ?_
                refine yS (by kernel_rfl : opAt F5.o23 39 = some (some 152, .pick (.tmp 124) (.const (.bool true)) (.tmp 151), (some (6, true)))) rfl rfl (fun w' hS => val_pick_f rfl rfl) ?_
                refine yS (by kernel_rfl : opAt F5.o23 40 = some (some 153, .pick (.tmp 119) (.tmp 152) (.const (.bool false)), none)) rfl rfl (fun w' hS => val_pick_t rfl rfl) ?_
                exact Sch.nil (hcut _ _ _ hcs rfl (rfl) (sub_skip rfl (sub_skip rfl (sub_skip rfl (sub_skip rfl (sub_skip rfl (sub_skip rfl (sub_skip rfl (sub_skip rfl (sub_skip rfl (sub_skip rfl (sub_skip rfl (sub_skip rfl (sub_skip rfl (sub_skip rfl (sub_skip rfl (sub_skip rfl (sub_skip rfl (sub_skip rfl (sub_skip rfl (sub_skip rfl (sub_skip rfl (sub_skip rfl (sub_skip rfl (sub_skip rfl (sub_skip rfl (sub_skip rfl (sub_skip rfl (sub_skip rfl (sub_skip rfl (sub_skip rfl (sub_skip rfl (sub_skip rfl (sub_skip rfl (sub_skip rfl (sub_skip rfl (sub_skip rfl (sub_skip rfl (sub_skip rfl (sub_skip rfl (sub_skip rfl (sub_skip rfl (Sub.refl _)))))))))))))))))))))))))))))))))))))))))))
            · skip
              refine run_draw (id := 23) (ops := F5.o23) [] (C1) [(0, true), (1, true), (2, true), (3, true), (4, true), (5, true), (6, true), (7, true), (8, true), (9, true), (10, true), (11, true), (12, true), (13, true), (14, true), (15, true), (16, true), (17, true), (18, true), (19, true), (20, true), (21, true), (22, true), (23, true), (24, true), (25, true), (26, true), (27, true), (28, true), (29, true), (30, true), (31, true), (32, true), (33, true), (34, true), (35, true), (36, true), (37, true), (38, true), (39, true), (40, true)] Try_mixed (by kernel_rfl) (by kernel_rfl) (by kernel_rfl) ?_
              intro w20 hs
              replace hF := hF.st hs
              replace hT := hT.trans hs (by simp)
              replace hk := hk.st hs (by first | decide | (simp <;> omega))
              replace hr := hr.st hs (by first | decide | (simp <;> omega))
              replace hq := hq.st hs (by first | decide | (simp <;> omega))
              replace hp := hp.st hs (by first | decide | (simp <;> omega))
              have hcs := hs
              refine yS (by kernel_rfl : opAt F5.o23 0 = some (some 113, .move (.tmp 6), none)) rfl rfl (fun w' hS => val_move rfl) ?_
              refine yS (by kernel_rfl : opAt F5.o23 1 = some (some 114, .move (.tmp 13), none)) rfl rfl (fun w' hS => val_move rfl) ?_
              refine iS (e := 3) (by kernel_rfl : opAt F5.o23 2 = some (some 115, .indexAddr 22 (.tmp 113) (.tmp 114), none)) rfl rfl hq rfl (by kernel_rfl) rfl (by omega) (by omega) ?_
              intro b115 o115 h115
              try simp only [Int.toNat_natCast] at h115
              refine lS (by kernel_rfl : opAt F5.o23 3 = some (some 116, .load 3 (.tmp 115), none)) rfl rfl (fun w' hS => h115.stay hS (by decide)) h115 (by kernel_rfl) rfl rfl ?_
              intro v116 g116
              obtain rfl := rv_int.1 g116
              refine yS (by kernel_rfl : opAt F5.o23 4 = some (some 117, .move (.tmp 7), none)) rfl rfl (fun w' hS => val_move rfl) ?_
              refine yS (by kernel_rfl : opAt F5.o23 5 = some (some 118, .binOp .leq 3 (.tmp 116) (.tmp 117) 3, none)) rfl rfl (fun w' hS => val_T (val_leq rfl rfl) hA) ?_
              refine yS (by kernel_rfl : opAt F5.o23 6 = some (some 119, .move (.tmp 118), none)) rfl rfl (fun w' hS => val_move rfl) ?_
              refine yS (by kernel_rfl : opAt F5.o23 7 = some (some 120, .move (.tmp 14), (some (6, true)))) rfl rfl (fun w' hS => val_move rfl) ?_
              refine yS (by kernel_rfl : opAt F5.o23 8 = some (some 121, .fieldAddr 44 (.tmp 8) 2, (some (6, true)))) rfl rfl (fun w' hS => val_fieldAddr (off := 2) (by kernel_rfl) rfl) ?_
              refine yS (by kernel_rfl : opAt F5.o23 9 = some (some 122, .load 3 (.tmp 121), (some (6, true)))) rfl rfl (fun w' hS => val_loadOwn (hp.stay hS (by decide)) (by kernel_rfl) rfl rfl) ?_
              refine yS (by kernel_rfl : opAt F5.o23 10 = some (some 123, .binOp .lss 3 (.tmp 120) (.tmp 122) 3, (some (6, true)))) rfl rfl (fun w' hS => val_F (val_lss rfl rfl) (by omega)) ?_
              refine yS (by kernel_rfl : opAt F5.o23 11 = some (some 124, .move (.tmp 123), (some (6, true)))) rfl rfl (fun w' hS => val_move rfl) ?_
              refine yS (by kernel_rfl : opAt F5.o23 12 = some (some 125, .move (.tmp 14), (some (11, false)))) rfl rfl (fun w' hS => val_move rfl) ?_
              refine yS (by kernel_rfl : opAt F5.o23 13 = some (some 126, .fieldAddr 44 (.tmp 8) 2, (some (11, false)))) rfl rfl (fun w' hS => val_fieldAddr (off := 2) (by kernel_rfl) rfl) ?_
              refine yS (by kernel_rfl : opAt F5.o23 14 = some (some 127, .load 3 (.tmp 126), (some (11, false)))) rfl rfl (fun w' hS => val_loadOwn (hp.stay hS (by decide)) (by kernel_rfl) rfl rfl) ?_
              refine yS (by kernel_rfl : opAt F5.o23 15 = some (some 128, .binOp .eql 3 (.tmp 125) (.tmp 127) 3, (some (11, false)))) rfl rfl (fun w' hS => val_F (val_eql rfl rfl) hB) ?_
              refine yS (by kernel_rfl : opAt F5.o23 16 = some (some 129, .move (.tmp 128), (some (11, false)))) rfl rfl (fun w' hS => val_move rfl) ?_
              refine pS (by kernel_rfl : opAt F5.o23 17 = some (some 130, .move (.tmp 6), (some (16, true)))) rfl rfl ?_
              refine pS (by kernel_rfl : opAt F5.o23 18 = some (some 131, .move (.tmp 13), (some (16, true)))) rfl rfl ?_
              refine pS (by kernel_rfl : opAt F5.o23 19 = some (some 132, .indexAddr 22 (.tmp 130) (.tmp 131), (some (16, true)))) rfl rfl ?_
              refine pS (by kernel_rfl : opAt F5.o23 20 = some (some 133, .load 3 (.tmp 132), (some (16, true)))) rfl rfl ?_
              refine pS (by kernel_rfl : opAt F5.o23 21 = some (some 134, .fieldAddr 44 (.tmp 8) 1, (some (16, true)))) rfl rfl ?_
              refine pS (by kernel_rfl : opAt F5.o23 22 = some (some 135, .load 3 (.tmp 134), (some (16, true)))) rfl rfl ?_
              refine pS (by kernel_rfl : opAt F5.o23 23 = some (some 136, .binOp .lss 3 (.tmp 133) (.tmp 135) 3, (some (16, true)))) rfl rfl ?_
              refine pS (by kernel_rfl : opAt F5.o23 24 = some (some 137, .move (.tmp 136), (some (16, true)))) rfl rfl ?_
              refine pS (by kernel_rfl : opAt F5.o23 25 = some (some 138, .move (.tmp 6), (some (24, false)))) rfl rfl ?_
              refine pS (by kernel_rfl : opAt F5.o23 26 = some (some 139, .move (.tmp 13), (some (24, false)))) rfl rfl ?_
              refine pS (by kernel_rfl : opAt F5.o23 27 = some (some 140, .indexAddr 22 (.tmp 138) (.tmp 139), (some (24, false)))) rfl rfl ?_
              refine pS (by kernel_rfl : opAt F5.o23 28 = some (some 141, .load 3 (.tmp 140), (some (24, false)))) rfl rfl ?_
              refine pS (by kernel_rfl : opAt F5.o23 29 = some (some 142, .fieldAddr 44 (.tmp 8) 1, (some (24, false)))) rfl rfl ?_
              refine pS (by kernel_rfl : opAt F5.o23 30 = some (some 143, .load 3 (.tmp 142), (some (24, false)))) rfl rfl ?_
              refine pS (by kernel_rfl : opAt F5.o23 31 = some (some 144, .binOp .eql 3 (.tmp 141) (.tmp 143) 3, (some (24, false)))) rfl rfl ?_
              refine pS (by kernel_rfl : opAt F5.o23 32 = some (some 145, .move (.tmp 144), (some (24, false)))) rfl rfl ?_
              refine pS (by kernel_rfl : opAt F5.o23 33 = some (some 146, .move (.tmp 13), (some (32, true)))) rfl rfl ?_
              refine pS (by kernel_rfl : opAt F5.o23 34 = some (some 147, .move (.tmp 10), (some (32, true)))) rfl rfl ?_
              refine pS (by kernel_rfl : opAt F5.o23 35 = some (some 148, .binOp .lss 3 (.tmp 146) (.tmp 147) 3, (some (32, true)))) rfl rfl ?_
              refine pS (by kernel_rfl : opAt F5.o23 36 = some (some 149, .pick (.tmp 145) (.tmp 148) (.const (.bool false)), (some (24, false)))) rfl rfl ?_
              refine pS (by kernel_rfl : opAt F5.o23 37 = some (some 150, .pick (.tmp 137) (.const (.bool true)) (.tmp 149), (some (16, true)))) rfl rfl ?_
              refine yS (by kernel_rfl : opAt F5.o23 38 = some (some 151, .pick (.tmp 129) (.tmp 150) (.const (.bool false)), (some (11, false)))) rfl rfl (fun w' hS => val_pick_f rfl rfl) ?_
              refine yS (by kernel_rfl : opAt F5.o23 39 = some (some 152, .pick (.tmp 124) (.const (.bool true)) (.tmp 151), (some (6, true)))) rfl rfl (fun w' hS => val_pick_f rfl rfl) ?_
              refine yS (by kernel_rfl : opAt F5.o23 40 = some (some 153, .pick (.tmp 119) (.tmp 152) (.const (.bool false)), none)) rfl rfl (fun w' hS => val_pick_t rfl rfl) ?_
              exact Sch.nil (hcut _ _ _ hcs rfl (rfl) (sub_skip rfl (sub_skip rfl (sub_skip rfl (sub_skip rfl (sub_skip rfl (sub_skip rfl (sub_skip rfl (sub_skip rfl (sub_skip rfl (sub_skip rfl (sub_skip rfl (sub_skip rfl (sub_skip rfl (sub_skip rfl (sub_skip rfl (sub_skip rfl (sub_skip rfl (sub_skip rfl (sub_skip rfl (sub_skip rfl (sub_skip rfl (sub_skip rfl (sub_skip rfl (sub_skip rfl (sub_skip rfl (sub_skip rfl (sub_skip rfl (sub_skip rfl (sub_skip rfl (sub_skip rfl (sub_skip rfl (sub_skip rfl (sub_skip rfl (sub_skip rfl (sub_skip rfl (sub_skip rfl (sub_skip rfl (sub_skip rfl (sub_skip rfl (sub_skip rfl (sub_skip rfl (Sub.refl _)))))))))))))))))))))))))))))))))))))))))))
          · skip
            refine run_draw (id := 23) (ops := F5.o23) [] (C1) [(0, true), (1, true), (2, true), (3, true), (4, true), (5, true), (6, true), (7, true), (8, true), (9, true), (10, true), (11, true), (12, true), (13, true), (14, true), (15, true), (16, true), (17, true), (18, true), (19, true), (20, true), (21, true), (22, true), (23, true), (24, true), (25, true), (26, true), (27, true), (28, true), (29, true), (30, true), (31, true), (32, true), (33, true), (34, true), (35, true), (36, true), (37, true), (38, true), (39, true), (40, true)] Try_mixed (by kernel_rfl) (by kernel_rfl) (by kernel_rfl) ?_
            intro w21 hs
            replace hF := hF.st hs
            replace hT := hT.trans hs (by simp)
            replace hk := hk.st hs (by first | decide | (simp <;> omega))
            replace hr := hr.st hs (by first | decide | (simp <;> omega))
            replace hq := hq.st hs (by first | decide | (simp <;> omega))
            replace hp := hp.st hs (by first | decide | (simp <;> omega))
            have hcs := hs
            refine yS (by kernel_rfl : opAt F5.o23 0 = some (some 113, .move (.tmp 6), none)) rfl rfl (fun w' hS => val_move rfl) ?_
            refine yS (by kernel_rfl : opAt F5.o23 1 = some (some 114, .move (.tmp 13), none)) rfl rfl (fun w' hS => val_move rfl) ?_
            refine iS (e := 3) (by kernel_rfl : opAt F5.o23 2 = some (some 115, .indexAddr 22 (.tmp 113) (.tmp 114), none)) rfl rfl hq rfl (by kernel_rfl) rfl (by omega) (by omega) ?_
            intro b115 o115 h115
            try simp only [Int.toNat_natCast] at h115
            refine lS (by kernel_rfl : opAt F5.o23 3 = some (some 116, .load 3 (.tmp 115), none)) rfl rfl (fun w' hS => h115.stay hS (by decide)) h115 (by kernel_rfl) rfl rfl ?_
            intro v116 g116
            obtain rfl := rv_int.1 g116
            refine yS (by kernel_rfl : opAt F5.o23 4 = some (some 117, .move (.tmp 7), none)) rfl rfl (fun w' hS => val_move rfl) ?_
            refine yS (by kernel_rfl : opAt F5.o23 5 = some (some 118, .binOp .leq 3 (.tmp 116) (.tmp 117) 3, none)) rfl rfl (fun w' hS => val_F (val_leq rfl rfl) hA) ?_
            refine yS (by kernel_rfl : opAt F5.o23 6 = some (some 119, .move (.tmp 118), none)) rfl rfl (fun w' hS => val_move rfl) ?_
            refine pS (by kernel_rfl : opAt F5.o23 7 = some (some 120, .move (.tmp 14), (some (6, true)))) rfl rfl ?_
            refine pS (by kernel_rfl : opAt F5.o23 8 = some (some 121, .fieldAddr 44 (.tmp 8) 2, (some (6, true)))) rfl rfl ?_
            refine pS (by kernel_rfl : opAt F5.o23 9 = some (some 122, .load 3 (.tmp 121), (some (6, true)))) rfl rfl ?_
            refine pS (by kernel_rfl : opAt F5.o23 10 = some (some 123, .binOp .lss 3 (.tmp 120) (.tmp 122) 3, (some (6, true)))) rfl rfl ?_
            refine pS (by kernel_rfl : opAt F5.o23 11 = some (some 124, .move (.tmp 123), (some (6, true)))) rfl rfl ?_
            refine pS (by kernel_rfl : opAt F5.o23 12 = some (some 125, .move (.tmp 14), (some (11, false)))) rfl rfl ?_
            refine pS (by kernel_rfl : opAt F5.o23 13 = some (some 126, .fieldAddr 44 (.tmp 8) 2, (some (11, false)))) rfl rfl ?_
            refine pS (by kernel_rfl : opAt F5.o23 14 = some (some 127, .load 3 (.tmp 126), (some (11, false)))) rfl rfl ?_
            refine pS (by kernel_rfl : opAt F5.o23 15 = some (some 128, .binOp .eql 3 (.tmp 125) (.tmp 127) 3, (some (11, false)))) rfl rfl ?_
            refine pS (by kernel_rfl : opAt F5.o23 16 = some (some 129, .move (.tmp 128), (some (11, false)))) rfl rfl ?_
            refine pS (by kernel_rfl : opAt F5.o23 17 = some (some 130, .move (.tmp 6), (some (16, true)))) rfl rfl ?_
            refine pS (by kernel_rfl : opAt F5.o23 18 = some (some 131, .move (.tmp 13), (some (16, true)))) rfl rfl ?_
            refine pS (by kernel_rfl : opAt F5.o23 19 = some (some 132, .indexAddr 22 (.tmp 130) (.tmp 131), (some (16, true)))) rfl rfl ?_
            refine pS (by kernel_rfl : opAt F5.o23 20 = some (some 133, .load 3 (.tmp 132), (some (16, true)))) rfl rfl ?_
            refine pS (by kernel_rfl : opAt F5.o23 21 = some (some 134, .fieldAddr 44 (.tmp 8) 1, (some (16, true)))) rfl rfl ?_
            refine pS (by kernel_rfl : opAt F5.o23 22 = some (some 135, .load 3 (.tmp 134), (some (16, true)))) rfl rfl ?_
            refine pS (by kernel_rfl : opAt F5.o23 23 = some (some 136, .binOp .lss 3 (.tmp 133) (.tmp 135) 3, (some (16, true)))) rfl rfl ?_
            refine pS (by kernel_rfl : opAt F5.o23 24 = some (some 137, .move (.tmp 136), (some (16, true)))) rfl rfl ?_
            refine pS (by kernel_rfl : opAt F5.o23 25 = some (some 138, .move (.tmp 6), (some (24, false)))) rfl rfl ?_
            refine pS (by kernel_rfl : opAt F5.o23 26 = some (some 139, .move (.tmp 13), (some (24, false)))) rfl rfl ?_
            refine pS (by kernel_rfl : opAt F5.o23 27 = some (some 140, .indexAddr 22 (.tmp 138) (.tmp 139), (some (24, false)))) rfl rfl ?_
            refine pS (by kernel_rfl : opAt F5.o23 28 = some (some 141, .load 3 (.tmp 140), (some (24, false)))) rfl rfl ?_
            refine pS (by kernel_rfl : opAt F5.o23 29 = some (some 142, .fieldAddr 44 (.tmp 8) 1, (some (24, false)))) rfl rfl ?_
            refine pS (by kernel_rfl : opAt F5.o23 30 = some (some 143, .load 3 (.tmp 142), (some (24, false)))) rfl rfl ?_
            refine pS (by kernel_rfl : opAt F5.o23 31 = some (some 144, .binOp .eql 3 (.tmp 141) (.tmp 143) 3, (some (24, false)))) rfl rfl ?_
            refine pS (by kernel_rfl : opAt F5.o23 32 = some (some 145, .move (.tmp 144), (some (24, false)))) rfl rfl ?_
            refine pS (by kernel_rfl : opAt F5.o23 33 = some (some 146, .move (.tmp 13), (some (32, true)))) rfl rfl ?_
            refine pS (by kernel_rfl : opAt F5.o23 34 = some (some 147, .move (.tmp 10), (some (32, true)))) rfl rfl ?_
            refine pS (by kernel_rfl : opAt F5.o23 35 = some (some 148, .binOp .lss 3 (.tmp 146) (.tmp 147) 3, (some (32, true)))) rfl rfl ?_
            refine pS (by kernel_rfl : opAt F5.o23 36 = some (some 149, .pick (.tmp 145) (.tmp 148) (.const (.bool false)), (some (24, false)))) rfl rfl ?_
            refine pS (by kernel_rfl : opAt F5.o23 37 = some (some 150, .pick (.tmp 137) (.const (.bool true)) (.tmp 149), (some (16, true)))) rfl rfl ?_
            refine pS (by kernel_rfl : opAt F5.o23 38 = some (some 151, .pick (.tmp 129) (.tmp 150) (.const (.bool false)), (some (11, false)))) rfl rfl ?_
            refine pS (by kernel_rfl : opAt F5.o23 39 = some (some 152, .pick (.tmp 124) (.const (.bool true)) (.tmp 151), (some (6, true)))) rfl rfl ?_
            refine yS (by kernel_rfl : opAt F5.o23 40 = some (some 153, .pick (.tmp 119) (.tmp 152) (.const (.bool false)), none)) rfl rfl (fun w' hS => val_pick_f rfl rfl) ?_
            exact Sch.nil (hcut _ _ _ hcs rfl (rfl) (sub_skip rfl (sub_skip rfl (sub_skip rfl (sub_skip rfl (sub_skip rfl (sub_skip rfl (sub_skip rfl (sub_skip rfl (sub_skip rfl (sub_skip rfl (sub_skip rfl (sub_skip rfl (sub_skip rfl (sub_skip rfl (sub_skip rfl (sub_skip rfl (sub_skip rfl (sub_skip rfl (sub_skip rfl (sub_skip rfl (sub_skip rfl (sub_skip rfl (sub_skip rfl (sub_skip rfl (sub_skip rfl (sub_skip rfl (sub_skip rfl (sub_skip rfl (sub_skip rfl (sub_skip rfl (sub_skip rfl (sub_skip rfl (sub_skip rfl (sub_skip rfl (sub_skip rfl (sub_skip rfl (sub_skip rfl (sub_skip rfl (sub_skip rfl (sub_skip rfl (sub_skip rfl (Sub.refl _)))))))))))))))))))))))))))))))))))))))))))
        intro w22 hs
        replace hF := hF.st hs
        replace hT := hT.trans hs (by simp)
        replace hk := hk.st hs (by first | decide | (simp <;> omega))
        replace hr := hr.st hs (by first | decide | (simp <;> omega))
        replace hq := hq.st hs (by first | decide | (simp <;> omega))
        replace hp := hp.st hs (by first | decide | (simp <;> omega))
        refine run_cond (x := F5.c81) (y := F5.c84) (o := .tmp 153) (b := false) (by kernel_rfl) rfl (fun h => by cases h) (fun _ => ?_)
        refine run_skip (by kernel_rfl) ?_
        refine run_inBlock ?_
        refine run_plain (id := 25) (ops := F5.o25) [(0, true), (1, true)] (by kernel_rfl) (by kernel_rfl) ?_
        refine yS (by kernel_rfl : opAt F5.o25 0 = some (some 154, .binOp .add 3 (.tmp 75) (.const (.int .i64 1)) 3, none)) rfl rfl (fun w' hS => val_addi rfl rfl (by omega) (by omega)) ?_
        refine yS (by kernel_rfl : opAt F5.o25 1 = some (some 75, .move (.tmp 154), none)) rfl rfl (fun w' hS => val_move rfl) ?_
        refine Sch.nil ?_
        refine kp (sub_cons 4 rfl rfl (sub_cons 5 rfl rfl (sub_cons 6 rfl rfl (sub_cons 7 rfl rfl (sub_cons 8 rfl rfl (sub_cons 10 rfl rfl (sub_cons 74 rfl rfl (sub_cons 75 rfl (eq_int (by simp)) (sub_nil _))))))))) (next2 (m + 1, C1) _ ⟨(by first | omega | (simp only; omega)), hF, hT, hk, hr, hq, hp⟩ (by first | omega | (simp only; omega)))
      · skip
        refine run_exit (id := 2) (by kernel_rfl) rfl ?_
        refine run_seq (x := F5.c87) (y := F5.c88) (by kernel_rfl) ?_
        refine run_plain (id := 26) (ops := F5.o26) [(0, true)] (by kernel_rfl) (by kernel_rfl) ?_
        refine yS (by kernel_rfl : opAt F5.o26 0 = some (some 2, .assign (.const (.bool true)), none)) rfl rfl (fun w' hS => val_assign rfl) ?_
        refine Sch.nil ?_
        refine run_ret1 (by kernel_rfl) Try.func5 Try.results5 rfl ?_
        exact ⟨rfl, hT.out1 (by decide)⟩
namespace F5B
noncomputable def c0 : Code := bodyOf Try.f5
noncomputable def c1 : Code := cl c0
noncomputable def o0 : Array Oper := rops c1
noncomputable def c2 : Code := cr c0
noncomputable def c3 : Code := cl c2
noncomputable def c4 : Code := cl c3
noncomputable def o1 : Array Oper := rops c4
noncomputable def c5 : Code := cr c3
noncomputable def c6 : Code := cl c5
noncomputable def c7 : Code := cl c6
noncomputable def o2 : Array Oper := rops c7
noncomputable def c8 : Code := cr c6
noncomputable def c9 : Code := cr c5
noncomputable def c10 : Code := cr c2
noncomputable def c11 : Code := cl c10
noncomputable def o3 : Array Oper := rops c11
noncomputable def c12 : Code := cr c10
noncomputable def c13 : Code := cl c12
noncomputable def o4 : Array Oper := rops c13
noncomputable def c14 : Code := cr c12
noncomputable def c15 : Code := cl c14
noncomputable def o5 : Array Oper := rops c15
noncomputable def c16 : Code := cr c14
noncomputable def c17 : Code := cl c16
noncomputable def o6 : Array Oper := rops c17
noncomputable def c18 : Code := cr c16
noncomputable def c19 : Code := cl c18
noncomputable def c20 : Code := cl c19
noncomputable def o7 : Array Oper := rops c20
noncomputable def c21 : Code := cr c19
noncomputable def c22 : Code := cl c21
noncomputable def c23 : Code := cl c22
noncomputable def o8 : Array Oper := rops c23
noncomputable def c24 : Code := cr c22
noncomputable def c25 : Code := cr c21
noncomputable def c26 : Code := cr c18
noncomputable def c27 : Code := cl c26
noncomputable def o9 : Array Oper := rops c27
noncomputable def c28 : Code := cr c26
noncomputable def c29 : Code := cl c28
noncomputable def c30 : Code := cl c29
noncomputable def o10 : Array Oper := rops c30
noncomputable def c31 : Code := cr c29
noncomputable def c32 : Code := cl c31
noncomputable def c33 : Code := cl c32
noncomputable def c34 : Code := cl c33
noncomputable def o11 : Array Oper := rops c34
noncomputable def c35 : Code := cr c33
noncomputable def c36 : Code := cl c35
noncomputable def c37 : Code := cl c36
noncomputable def c38 : Code := cr c36
noncomputable def c39 : Code := cr c35
noncomputable def c40 : Code := cl c39
noncomputable def c41 : Code := cl c40
noncomputable def c42 : Code := cl c41
noncomputable def o12 : Array Oper := rops c42
noncomputable def c43 : Code := cr c41
noncomputable def c44 : Code := cl c43
noncomputable def c45 : Code := cl c44
noncomputable def o13 : Array Oper := rops c45
noncomputable def c46 : Code := cr c44
noncomputable def c47 : Code := cl c46
noncomputable def c48 : Code := cl c47
noncomputable def o14 : Array Oper := rops c48
noncomputable def c49 : Code := cr c47
noncomputable def c50 : Code := cr c46
noncomputable def c51 : Code := cr c43
noncomputable def o15 : Array Oper := rops c51
noncomputable def c52 : Code := cr c39
noncomputable def o16 : Array Oper := rops c52
noncomputable def c53 : Code := cr c28
noncomputable def c54 : Code := cl c53
noncomputable def c55 : Code := cl c54
noncomputable def o17 : Array Oper := rops c55
noncomputable def c56 : Code := cr c54
noncomputable def c57 : Code := cl c56
noncomputable def c58 : Code := cl c57
noncomputable def c59 : Code := cl c58
noncomputable def o18 : Array Oper := rops c59
noncomputable def c60 : Code := cr c58
noncomputable def c61 : Code := cl c60
noncomputable def c62 : Code := cl c61
noncomputable def c63 : Code := cr c61
noncomputable def c64 : Code := cr c60
noncomputable def c65 : Code := cl c64
noncomputable def c66 : Code := cl c65
noncomputable def c67 : Code := cl c66
noncomputable def o19 : Array Oper := rops c67
noncomputable def c68 : Code := cr c66
noncomputable def c69 : Code := cl c68
noncomputable def o20 : Array Oper := rops c69
noncomputable def c70 : Code := cr c68
noncomputable def c71 : Code := cl c70
noncomputable def c72 : Code := cl c71
noncomputable def o21 : Array Oper := rops c72
noncomputable def c73 : Code := cr c71
noncomputable def c74 : Code := cl c73
noncomputable def c75 : Code := cl c74
noncomputable def o22 : Array Oper := rops c75
noncomputable def c76 : Code := cr c74
noncomputable def c77 : Code := cr c73
noncomputable def c78 : Code := cr c70
noncomputable def c79 : Code := cl c78
noncomputable def o23 : Array Oper := rops c79
noncomputable def c80 : Code := cr c78
noncomputable def c81 : Code := cl c80
noncomputable def c82 : Code := cl c81
noncomputable def o24 : Array Oper := rops c82
noncomputable def c83 : Code := cr c81
noncomputable def c84 : Code := cr c80
noncomputable def c85 : Code := cr c64
noncomputable def o25 : Array Oper := rops c85
noncomputable def c86 : Code := cr c53
noncomputable def c87 : Code := cl c86
noncomputable def o26 : Array Oper := rops c87
noncomputable def c88 : Code := cr c86
end F5B
/-- .. where more is handed than it looks at. -/
theorem plannerBest_big {w₀ : World} {C : Nat → Nat} {p : Option Addr} {n c : Nat} (hF : Lim w₀ C) (hn : 400 < n) : Calls Try.prog 5 #[.slice p n c] w₀ (Ret fun v w' => v = .bool true ∧ Stp [] w₀ C w' C) := by
  have hF0 := hF
  have hT := Stp.refl [2, 3, 4, 5, 6, 7, 8, 9] w₀ (col1 C)
  replace hF := hF.col1
  refine calls_start (c := F5B.c0) (N := 155) [.slice p n c] Try.func5 (by kernel_rfl) (by kernel_rfl) (by kernel_rfl) ?_
  show Run _ _ _ _ [(0, .slice p n c)] _ _
  refine run_seq (x := F5B.c1) (y := F5B.c2) (by kernel_rfl) ?_
  refine run_plain (id := 0) (ops := F5B.o0) [(0, true)] (by kernel_rfl) (by kernel_rfl) ?_
  refine yS (by kernel_rfl : opAt F5B.o0 0 = some (some 2, .assign (.const (.bool false)), none)) rfl rfl (fun w' hS => val_assign rfl) ?_
  refine Sch.nil ?_
  refine run_seq (x := F5B.c3) (y := F5B.c10) (by kernel_rfl) ?_
  refine run_seq (x := F5B.c4) (y := F5B.c5) (by kernel_rfl) ?_
  refine run_plain (id := 1) (ops := F5B.o1) [(0, false), (1, true), (2, true), (3, true), (4, false), (5, true), (6, true)] (by kernel_rfl) (by kernel_rfl) ?_
  refine cS (by kernel_rfl : opAt F5B.o1 0 = some (some 16, .call { callee := .value (.func 9), args := #[], argTypes := #[] }, none)) rfl rfl (ent Try.call9 rfl) (awake_ok hF) ?_
  rintro vw1 w1 ⟨rfl, hs⟩
  refine ⟨trivial, ?_⟩
  replace hF := hF.st hs
  replace hT := hT.trans hs (by simp)
  refine yS (by kernel_rfl : opAt F5B.o1 1 = some (some 17, .unOp .not 4 (.tmp 16), none)) rfl rfl (fun w' hS => val_not rfl) ?_
  refine yS (by kernel_rfl : opAt F5B.o1 2 = some (some 18, .move (.tmp 17), none)) rfl rfl (fun w' hS => val_move rfl) ?_
  refine yS (by kernel_rfl : opAt F5B.o1 3 = some (some 19, .move (.tmp 0), (some (2, false)))) rfl rfl (fun w' hS => val_move rfl) ?_
  refine cS (by kernel_rfl : opAt F5B.o1 4 = some (some 20, .call { callee := .value (.func 10), args := #[(.tmp 19)], argTypes := #[22] }, (some (2, false)))) rfl rfl (ent Try.call10 rfl) (few_ok _ _ _ _) ?_
  rintro vw2 w2 ⟨rfl, rfl⟩
  refine ⟨trivial, ?_⟩
  rw [decide_eq_false (show ¬ (n : Int) ≤ 400 by omega)]
  refine yS (by kernel_rfl : opAt F5B.o1 5 = some (some 21, .unOp .not 4 (.tmp 20), (some (2, false)))) rfl rfl (fun w' hS => val_not rfl) ?_
  refine yS (by kernel_rfl : opAt F5B.o1 6 = some (some 22, .pick (.tmp 18) (.const (.bool true)) (.tmp 21), none)) rfl rfl (fun w' hS => val_pick_f rfl rfl) ?_
  refine Sch.nil ?_
  refine run_cond (x := F5B.c6) (y := F5B.c9) (o := .tmp 22) (b := true) (by kernel_rfl) rfl (fun _ => ?_) (fun h => by cases h)
  refine run_seq (x := F5B.c7) (y := F5B.c8) (by kernel_rfl) ?_
  refine run_plain (id := 2) (ops := F5B.o2) [(0, false), (1, true)] (by kernel_rfl) (by kernel_rfl) ?_
  refine cS (by kernel_rfl : opAt F5B.o2 0 = some (some 23, .call { callee := .value (.func 9), args := #[], argTypes := #[] }, none)) rfl rfl (ent Try.call9 rfl) (awake_ok hF) ?_
  rintro vw3 w3 ⟨rfl, hs⟩
  refine ⟨trivial, ?_⟩
  replace hF := hF.st hs
  replace hT := hT.trans hs (by simp)
  refine yS (by kernel_rfl : opAt F5B.o2 1 = some (some 2, .assign (.tmp 23), none)) rfl rfl (fun w' hS => val_assign rfl) ?_
  refine Sch.nil ?_
  refine run_ret1 (by kernel_rfl) Try.func5 Try.results5 rfl ?_
  exact ⟨rfl, hT.out1 (by decide)⟩
end Go.Proofs.Ytpmokjccfaakfaa

