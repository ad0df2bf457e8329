/- Steps through functions of the program. -/
import Derived.Test.YtpmokjccfaakfaaKQM
set_option linter.unusedVariables false
set_option linter.unusedSimpArgs false
set_option maxRecDepth 100000
set_option maxHeartbeats 400000
namespace Go.Proofs.Ytpmokjccfaakfaa
open Go.K Go.K.Rep

namespace F24
noncomputable def c0 : Code := bodyOf Try.f24
noncomputable def c1 : Code := cl c0
noncomputable def o0 : Array Oper := rops c1
noncomputable def c2 : Code := cr c0
noncomputable def c3 : Code := cl c2
noncomputable def c4 : Code := cl c3
noncomputable def o1 : Array Oper := rops c4
noncomputable def c5 : Code := cr c3
noncomputable def c6 : Code := cl c5
noncomputable def o2 : Array Oper := rops c6
noncomputable def c7 : Code := cr c5
noncomputable def c8 : Code := cl c7
noncomputable def c9 : Code := cl c8
noncomputable def o3 : Array Oper := rops c9
noncomputable def c10 : Code := cr c8
noncomputable def c11 : Code := cr c7
noncomputable def c12 : Code := cr c2
noncomputable def c13 : Code := cl c12
noncomputable def c14 : Code := cl c13
noncomputable def o4 : Array Oper := rops c14
noncomputable def c15 : Code := cr c13
noncomputable def c16 : Code := cl c15
noncomputable def c17 : Code := cl c16
noncomputable def o5 : Array Oper := rops c17
noncomputable def c18 : Code := cr c16
noncomputable def c19 : Code := cr c15
noncomputable def c20 : Code := cr c12
noncomputable def c21 : Code := cl c20
noncomputable def c22 : Code := cl c21
noncomputable def o6 : Array Oper := rops c22
noncomputable def c23 : Code := cr c21
noncomputable def c24 : Code := cl c23
noncomputable def c25 : Code := cl c24
noncomputable def c26 : Code := cl c25
noncomputable def c27 : Code := cl c26
noncomputable def o7 : Array Oper := rops c27
noncomputable def c28 : Code := cr c26
noncomputable def c29 : Code := cl c28
noncomputable def c30 : Code := cr c28
noncomputable def c31 : Code := cr c25
noncomputable def c32 : Code := cl c31
noncomputable def c33 : Code := cl c32
noncomputable def c34 : Code := cl c33
noncomputable def o9 : Array Oper := rops c34
noncomputable def c35 : Code := cr c33
noncomputable def c36 : Code := cl c35
noncomputable def c37 : Code := cl c36
noncomputable def o10 : Array Oper := rops c37
noncomputable def c38 : Code := cr c36
noncomputable def c39 : Code := cr c35
noncomputable def c40 : Code := cr c31
noncomputable def o8 : Array Oper := rops c40
noncomputable def c41 : Code := cr c20
noncomputable def c42 : Code := cl c41
noncomputable def c43 : Code := cl c42
noncomputable def o11 : Array Oper := rops c43
noncomputable def c44 : Code := cr c42
noncomputable def c45 : Code := cl c44
noncomputable def c46 : Code := cl c45
noncomputable def o12 : Array Oper := rops c46
noncomputable def c47 : Code := cr c45
noncomputable def c48 : Code := cr c44
noncomputable def c49 : Code := cr c41
noncomputable def c50 : Code := cl c49
noncomputable def o13 : Array Oper := rops c50
noncomputable def c51 : Code := cr c49
noncomputable def c52 : Code := cl c51
noncomputable def c53 : Code := cl c52
noncomputable def o14 : Array Oper := rops c53
noncomputable def c54 : Code := cr c52
noncomputable def c55 : Code := cl c54
noncomputable def c56 : Code := cl c55
noncomputable def c57 : Code := cl c56
noncomputable def c58 : Code := cl c57
noncomputable def o15 : Array Oper := rops c58
noncomputable def c59 : Code := cr c57
noncomputable def c60 : Code := cl c59
noncomputable def c61 : Code := cr c59
noncomputable def c62 : Code := cr c56
noncomputable def c63 : Code := cl c62
noncomputable def c64 : Code := cl c63
noncomputable def c65 : Code := cl c64
noncomputable def c66 : Code := cl c65
noncomputable def o17 : Array Oper := rops c66
noncomputable def c67 : Code := cr c65
noncomputable def c68 : Code := cl c67
noncomputable def c69 : Code := cr c67
noncomputable def c70 : Code := cr c64
noncomputable def c71 : Code := cl c70
noncomputable def o18 : Array Oper := rops c71
noncomputable def c72 : Code := cr c70
noncomputable def c73 : Code := cl c72
noncomputable def o19 : Array Oper := rops c73
noncomputable def c74 : Code := cr c72
noncomputable def c75 : Code := cl c74
noncomputable def o20 : Array Oper := rops c75
noncomputable def c76 : Code := cr c74
noncomputable def c77 : Code := cr c62
noncomputable def o16 : Array Oper := rops c77
noncomputable def c78 : Code := cr c51
noncomputable def c79 : Code := cl c78
noncomputable def c80 : Code := cl c79
noncomputable def o21 : Array Oper := rops c80
noncomputable def c81 : Code := cr c79
noncomputable def c82 : Code := cl c81
noncomputable def c83 : Code := cl c82
noncomputable def o22 : Array Oper := rops c83
noncomputable def c84 : Code := cr c82
noncomputable def c85 : Code := cr c81
noncomputable def c86 : Code := cr c78
noncomputable def c87 : Code := cl c86
noncomputable def o23 : Array Oper := rops c87
noncomputable def c88 : Code := cr c86
noncomputable def c89 : Code := cl c88
noncomputable def c90 : Code := cl c89
noncomputable def o24 : Array Oper := rops c90
noncomputable def c91 : Code := cr c89
noncomputable def c92 : Code := cl c91
noncomputable def c93 : Code := cl c92
noncomputable def c94 : Code := cl c93
noncomputable def c95 : Code := cl c94
noncomputable def o25 : Array Oper := rops c95
noncomputable def c96 : Code := cr c94
noncomputable def c97 : Code := cl c96
noncomputable def c98 : Code := cr c96
noncomputable def c99 : Code := cr c93
noncomputable def c100 : Code := cl c99
noncomputable def c101 : Code := cl c100
noncomputable def c102 : Code := cl c101
noncomputable def o27 : Array Oper := rops c102
noncomputable def c103 : Code := cr c101
noncomputable def c104 : Code := cl c103
noncomputable def o28 : Array Oper := rops c104
noncomputable def c105 : Code := cr c103
noncomputable def c106 : Code := cr c99
noncomputable def o26 : Array Oper := rops c106
noncomputable def c107 : Code := cr c88
noncomputable def c108 : Code := cl c107
noncomputable def o29 : Array Oper := rops c108
noncomputable def c109 : Code := cr c107
end F24
/-- The document's 'Choose'. -/
theorem refChoose_ok {w₀ : World} {C : Nat → Nat} {ks : List Key} {rs ps : List Int} {vk vr vq : Value} {budget : Int} (hF : Lim w₀ C) (hk : RV w₀ (Mc C) ks vk) (hr : RV w₀ (Mc C) rs vr) (hq : RV w₀ (Mc C) ps vq) (hs0 : KeysSm ks) :
    Calls Try.prog 24 #[vk, vr, vq, .int .i64 budget] w₀ (Ret fun v w' => ∃ u, v = .tuple #[.agg #[u, .int .i64 (chooseS ks rs ps budget).1.pairs, .int .i64 (chooseS ks rs ps budget).1.missed], .int .i64 (chooseS ks rs ps budget).2] ∧ Stp [] w₀ C w' C ∧ RV w' (Mc C) (chooseS ks rs ps budget).1.keys u) := by
  have hF0 := hF
  have hT := Stp.refl [2, 3, 4, 5, 6, 7, 8, 9] w₀ (col1 C)
  replace hF := hF.col1
  replace hk : RV w₀ (Mc (col1 C)) ks vk := by rw [Mc_col1]; exact hk
  replace hr : RV w₀ (Mc (col1 C)) rs vr := by rw [Mc_col1]; exact hr
  replace hq : RV w₀ (Mc (col1 C)) ps vq := by rw [Mc_col1]; exact hq
  refine calls_start (c := F24.c0) (N := 126) [vk, vr, vq, .int .i64 budget] Try.func24 (by kernel_rfl) (by kernel_rfl) (by kernel_rfl) ?_
  show Run _ _ _ _ [(0, vk), (1, vr), (2, vq), (3, .int .i64 budget)] _ _
  refine run_seq (x := F24.c1) (y := F24.c2) (by kernel_rfl) ?_
  refine run_plain (id := 0) (ops := F24.o0) [(0, false), (1, true)] (by kernel_rfl) (by kernel_rfl) ?_
  refine aS (by kernel_rfl : opAt F24.o0 0 = some (some 8, .alloc 44, none)) rfl rfl (a_alloc (cs := [.slice none 0 0, .int .i64 0, .int .i64 0]) hF 3 (by kernel_rfl)) ?_
  rintro _ w1 ⟨Cw1, bw1, rfl, hs, hres, hF⟩
  refine ⟨trivial, ?_⟩
  replace hT := hT.trans hs (by simp)
  replace hk := hk.st hs (by first | decide | (simp <;> omega))
  replace hr := hr.st hs (by first | decide | (simp <;> omega))
  replace hq := hq.st hs (by first | decide | (simp <;> omega))
  refine yS (by kernel_rfl : opAt F24.o0 1 = some (some 9, .assign (.const (.int .i64 0)), none)) rfl rfl (fun w' hS => val_assign rfl) ?_
  refine Sch.nil ?_
  refine run_seq (x := F24.c3) (y := F24.c12) (by kernel_rfl) ?_
  refine run_seq (x := F24.c4) (y := F24.c5) (by kernel_rfl) ?_
  refine run_plain (id := 1) (ops := F24.o1) [(0, true), (1, true), (2, false), (3, true)] (by kernel_rfl) (by kernel_rfl) ?_
  refine yS (by kernel_rfl : opAt F24.o1 0 = some (some 19, .move (.tmp 0), none)) rfl rfl (fun w' hS => val_move rfl) ?_
  refine yS (by kernel_rfl : opAt F24.o1 1 = some (some 20, .move (.tmp 1), none)) rfl rfl (fun w' hS => val_move rfl) ?_
  refine cS (by kernel_rfl : opAt F24.o1 2 = some (some 21, .call { callee := .value (.func 18), args := #[(.tmp 19), (.tmp 20)], argTypes := #[23, 22] }, none)) rfl rfl (ent Try.call18 rfl) (refCheck_ok hF hk hr hs0) ?_
  rintro vw2 w2 ⟨rfl, hs⟩
  refine ⟨trivial, ?_⟩
  replace hF := hF.st hs
  replace hT := hT.trans hs (by simp)
  replace hk := hk.st hs (by first | decide | (simp <;> omega))
  replace hr := hr.st hs (by first | decide | (simp <;> omega))
  replace hq := hq.st hs (by first | decide | (simp <;> omega))
  replace hres := hres.st hs (by first | decide | (simp <;> omega))
  refine yS (by kernel_rfl : opAt F24.o1 3 = some (some 10, .assign (.tmp 21), none)) rfl rfl (fun w' hS => val_assign rfl) ?_
  refine Sch.nil ?_
  refine run_seq (x := F24.c6) (y := F24.c7) (by kernel_rfl) ?_
  refine run_plain (id := 2) (ops := F24.o2) [(0, true), (1, true)] (by kernel_rfl) (by kernel_rfl) ?_
  refine yS (by kernel_rfl : opAt F24.o2 0 = some (some 22, .move (.tmp 10), none)) rfl rfl (fun w' hS => val_move rfl) ?_
  refine yS (by kernel_rfl : opAt F24.o2 1 = some (some 23, .binOp .neq 37 (.tmp 22) (.const (.int .i64 0)) 37, none)) rfl rfl (fun w' hS => val_neq rfl rfl) ?_
  refine Sch.nil ?_
  refine run_if (x := F24.c8) (y := F24.c11) (o := .tmp 23) (by kernel_rfl) rfl (fun h23 => ?_) (fun h23 => ?_)
  · skip
    refine run_seq (x := F24.c9) (y := F24.c10) (by kernel_rfl) ?_
    refine run_plain (id := 3) (ops := F24.o3) [(0, true), (1, true), (2, false), (3, true)] (by kernel_rfl) (by kernel_rfl) ?_
    refine yS (by kernel_rfl : opAt F24.o3 0 = some (some 24, .build 44 #[], none)) rfl rfl (fun w' hS => val_build (zs := [.slice none 0 0, .int .i64 0, .int .i64 0]) (ps := [(0, 1), (1, 1), (2, 1)]) (qs := []) (cs := [.slice none 0 0, .int .i64 0, .int .i64 0]) (by kernel_rfl) (by kernel_rfl) trivial rfl) ?_
    refine yS (by kernel_rfl : opAt F24.o3 1 = some (some 25, .move (.tmp 10), none)) rfl rfl (fun w' hS => val_move rfl) ?_
    refine aN (by kernel_rfl : opAt F24.o3 2 = some (none, .store 44 (.tmp 8) (.tmp 24), none)) rfl (a_storeAll (vs := [.slice none 0 0, .int .i64 0, .int .i64 0]) (n := 3) rfl rfl (by kernel_rfl) rfl rfl (by intro u hu; simp only [List.mem_cons, List.not_mem_nil, or_false] at hu; rcases hu with rfl | rfl | rfl <;> first | rfl | exact rfl) hres rfl) ?_
    rintro _ w3 ⟨rfl, hs, hres⟩
    refine ⟨trivial, ?_⟩
    replace hF := hF.st hs
    replace hT := hT.trans hs (by simp)
    replace hk := hk.st hs (by first | decide | (simp <;> omega))
    replace hr := hr.st hs (by first | decide | (simp <;> omega))
    replace hq := hq.st hs (by first | decide | (simp <;> omega))
    refine yS (by kernel_rfl : opAt F24.o3 3 = some (some 9, .assign (.tmp 25), none)) rfl rfl (fun w' hS => val_assign rfl) ?_
    refine Sch.nil ?_
    refine run_retC2 (by kernel_rfl) Try.func24 Try.results24 rfl rfl hres.at_ (by kernel_rfl) (by kernel_rfl) rfl ?_
    unfold chooseS
    rw [if_pos h23]
    exact ⟨_, rfl, hT.out1 (by decide), rv_nil⟩
  · skip
    have hz : checkP ks rs = 0 := by simpa using h23
    obtain ⟨h8, h10, hrl, hrs⟩ := checkP_zero hz
    obtain ⟨z, hz2, hz256⟩ : ∃ z : Nat, z = 2 ^ ks.length ∧ z ≤ 256 := ⟨_, rfl, Nat.pow_le_pow_right (n := 2) (by decide) h8⟩
    have hql := hq.le
    refine run_skip (by kernel_rfl) ?_
    refine run_seq (x := F24.c13) (y := F24.c20) (by kernel_rfl) ?_
    refine run_seq (x := F24.c14) (y := F24.c15) (by kernel_rfl) ?_
    refine run_plain (id := 4) (ops := F24.o4) [(0, true), (1, true), (2, true), (3, true), (4, true), (5, true)] (by kernel_rfl) (by kernel_rfl) ?_
    refine yS (by kernel_rfl : opAt F24.o4 0 = some (some 26, .move (.tmp 2), none)) rfl rfl (fun w' hS => val_move rfl) ?_
    refine yS (by kernel_rfl : opAt F24.o4 1 = some (some 27, .call { callee := .builtin .len, args := #[(.tmp 26)], argTypes := #[22] }, none)) rfl rfl (fun w' hS => hq.lenV rfl Try.underlying22 w' ) ?_
    refine yS (by kernel_rfl : opAt F24.o4 2 = some (some 28, .move (.tmp 0), none)) rfl rfl (fun w' hS => val_move rfl) ?_
    refine yS (by kernel_rfl : opAt F24.o4 3 = some (some 29, .call { callee := .builtin .len, args := #[(.tmp 28)], argTypes := #[23] }, none)) rfl rfl (fun w' hS => hk.lenV rfl Try.underlying23 w' ) ?_
    refine yS (by kernel_rfl : opAt F24.o4 4 = some (some 30, .binOp .shl 3 (.const (.int .i64 1)) (.tmp 29) 3, none)) rfl rfl (fun w' hS => val_shlE (r := (z : Int)) rfl rfl (by omega) (by rw [hz2]; exact shl1N (by omega))) ?_
    refine yS (by kernel_rfl : opAt F24.o4 5 = some (some 31, .binOp .neq 3 (.tmp 27) (.tmp 30) 3, none)) rfl rfl (fun w' hS => val_neq rfl rfl) ?_
    refine Sch.nil ?_
    refine run_if (x := F24.c16) (y := F24.c19) (o := .tmp 31) (by kernel_rfl) rfl (fun h31 => ?_) (fun h31 => ?_)
    · skip
      refine run_seq (x := F24.c17) (y := F24.c18) (by kernel_rfl) ?_
      refine run_plain (id := 5) (ops := F24.o5) [(0, true), (1, false), (2, true)] (by kernel_rfl) (by kernel_rfl) ?_
      refine yS (by kernel_rfl : opAt F24.o5 0 = some (some 32, .build 44 #[], none)) rfl rfl (fun w' hS => val_build (zs := [.slice none 0 0, .int .i64 0, .int .i64 0]) (ps := [(0, 1), (1, 1), (2, 1)]) (qs := []) (cs := [.slice none 0 0, .int .i64 0, .int .i64 0]) (by kernel_rfl) (by kernel_rfl) trivial rfl) ?_
      refine aN (by kernel_rfl : opAt F24.o5 1 = some (none, .store 44 (.tmp 8) (.tmp 32), none)) rfl (a_storeAll (vs := [.slice none 0 0, .int .i64 0, .int .i64 0]) (n := 3) rfl rfl (by kernel_rfl) rfl rfl (by intro u hu; simp only [List.mem_cons, List.not_mem_nil, or_false] at hu; rcases hu with rfl | rfl | rfl <;> first | rfl | exact rfl) hres rfl) ?_
      rintro _ w4 ⟨rfl, hs, hres⟩
      refine ⟨trivial, ?_⟩
      replace hF := hF.st hs
      replace hT := hT.trans hs (by simp)
      replace hk := hk.st hs (by first | decide | (simp <;> omega))
      replace hr := hr.st hs (by first | decide | (simp <;> omega))
      replace hq := hq.st hs (by first | decide | (simp <;> omega))
      refine yS (by kernel_rfl : opAt F24.o5 2 = some (some 9, .assign (.const (.int .i64 8)), none)) rfl rfl (fun w' hS => val_assign rfl) ?_
      refine Sch.nil ?_
      refine run_retC2 (by kernel_rfl) Try.func24 Try.results24 rfl rfl hres.at_ (by kernel_rfl) (by kernel_rfl) rfl ?_
      unfold chooseS
      rw [if_neg h23, if_pos (by omega)]
      exact ⟨_, rfl, hT.out1 (by decide), rv_nil⟩
    · skip
      have hpl : ps.length = z := by omega
      refine run_skip (by kernel_rfl) ?_
      refine run_seq (x := F24.c21) (y := F24.c41) (by kernel_rfl) ?_
      refine run_seq (x := F24.c22) (y := F24.c23) (by kernel_rfl) ?_
      refine run_plain (id := 6) (ops := F24.o6) [(0, true)] (by kernel_rfl) (by kernel_rfl) ?_
      refine yS (by kernel_rfl : opAt F24.o6 0 = some (some 11, .assign (.const (.int .i64 0)), none)) rfl rfl (fun w' hS => val_assign rfl) ?_
      refine Sch.nil ?_
      refine run_block (x := F24.c24) (id := 0) (by kernel_rfl) ?_
      
      refine run_loop (ι := Nat × (Nat → Nat)) (I := fun x w => x.1 ≤ ps.length ∧ (∀ p, p < x.1 → ∀ h : p < ps.length, badQ ps[p] = false) ∧ Lim w x.2 ∧ Stp [2, 3, 4, 5, 6, 7, 8, 9] w₀ (col1 C) w x.2 ∧ RV w (Mc x.2) ks vk ∧ RV w (Mc x.2) rs vr ∧ RV w (Mc x.2) ps vq ∧ OwnB w x.2 3 bw1 (.cells [.slice none 0 0, .int .i64 0, .int .i64 0].toArray 44)) (e := fun x => [(0, vk), (1, vr), (2, vq), (3, .int .i64 budget), (8, .pointer (some ⟨bw1, 0, none⟩)), (11, .int .i64 x.1)]) (m := fun x => ps.length - x.1) (x₀ := (0, Cw1)) (body := F24.c25) (by kernel_rfl) (sub_cons 0 rfl rfl (sub_cons 1 rfl rfl (sub_cons 2 rfl rfl (sub_cons 3 rfl rfl (sub_cons 8 rfl rfl (sub_cons 11 rfl rfl (sub_nil _))))))) ?_ ?_
      · exact ⟨Nat.zero_le _, fun p hp => by simp at hp, hF, hT, hk, hr, hq, hres⟩
      intro ⟨i, C1⟩ w5 hI next
      obtain ⟨hi, h0, hF, hT, hk, hr, hq, hres⟩ := hI
      try simp only at hi h0 hF hT hk hr hq hres
      have next1 := next
      clear next
      show Run _ _ _ _ [(0, vk), (1, vr), (2, vq), (3, .int .i64 budget), (8, .pointer (some ⟨bw1, 0, none⟩)), (11, .int .i64 i)] _ _
      refine run_seq (x := F24.c26) (y := F24.c31) (by kernel_rfl) ?_
      refine run_seq (x := F24.c27) (y := F24.c28) (by kernel_rfl) ?_
      refine run_plain (id := 7) (ops := F24.o7) [(0, true), (1, true), (2, true), (3, true)] (by kernel_rfl) (by kernel_rfl) ?_
      refine yS (by kernel_rfl : opAt F24.o7 0 = some (some 33, .move (.tmp 11), none)) rfl rfl (fun w' hS => val_move rfl) ?_
      refine yS (by kernel_rfl : opAt F24.o7 1 = some (some 34, .move (.tmp 2), none)) rfl rfl (fun w' hS => val_move rfl) ?_
      refine yS (by kernel_rfl : opAt F24.o7 2 = some (some 35, .call { callee := .builtin .len, args := #[(.tmp 34)], argTypes := #[22] }, none)) rfl rfl (fun w' hS => hq.lenV rfl Try.underlying22 w' ) ?_
      refine yS (by kernel_rfl : opAt F24.o7 3 = some (some 36, .binOp .lss 3 (.tmp 33) (.tmp 35) 3, none)) rfl rfl (fun w' hS => val_lss rfl rfl) ?_
      refine Sch.nil ?_
      refine run_if (x := F24.c29) (y := F24.c30) (o := .tmp 36) (by kernel_rfl) rfl (fun h36 => ?_) (fun h36 => ?_)
      · skip
        have hil : i < ps.length := by omega
        refine run_skip (by kernel_rfl) ?_
        refine run_seq (x := F24.c32) (y := F24.c40) (by kernel_rfl) ?_
        refine run_block (x := F24.c33) (id := 1) (by kernel_rfl) ?_
        refine run_seq (x := F24.c34) (y := F24.c35) (by kernel_rfl) ?_
        refine run_cut 50 (badQ ps[i]) (C1) ?_ ?_
        · intro hcut
          by_cases hA : ps[i] < 0
          · skip
            refine run_plain (id := 9) (ops := F24.o9) [(0, true), (1, true), (2, true), (3, false), (4, true), (5, true), (6, true), (7, true), (8, true), (9, false), (10, true), (11, true)] (by kernel_rfl) (by kernel_rfl) ?_
            refine yS (by kernel_rfl : opAt F24.o9 0 = some (some 39, .move (.tmp 2), none)) rfl rfl (fun w' hS => val_move rfl) ?_
            refine yS (by kernel_rfl : opAt F24.o9 1 = some (some 40, .move (.tmp 11), none)) rfl rfl (fun w' hS => val_move rfl) ?_
            refine iS (e := 3) (by kernel_rfl : opAt F24.o9 2 = some (some 41, .indexAddr 22 (.tmp 39) (.tmp 40), none)) rfl rfl hq rfl (by kernel_rfl) rfl (by omega) (by omega) ?_
            intro b41 o41 h41
            try simp only [Int.toNat_natCast] at h41
            refine lN (by kernel_rfl : opAt F24.o9 3 = some (some 42, .load 3 (.tmp 41), none)) rfl rfl trivial h41 (by kernel_rfl) rfl rfl ?_
            intro v42 g42
            obtain rfl := rv_int.1 g42
            refine yS (by kernel_rfl : opAt F24.o9 4 = some (some 43, .binOp .lss 3 (.tmp 42) (.const (.int .i64 0)) 3, none)) rfl rfl (fun w' hS => val_T (val_lss rfl rfl) hA) ?_
            refine yS (by kernel_rfl : opAt F24.o9 5 = some (some 44, .move (.tmp 43), none)) rfl rfl (fun w' hS => val_move rfl) ?_
            refine pS (by kernel_rfl : opAt F24.o9 6 = some (some 45, .move (.tmp 2), (some (5, false)))) rfl rfl ?_
            refine pS (by kernel_rfl : opAt F24.o9 7 = some (some 46, .move (.tmp 11), (some (5, false)))) rfl rfl ?_
            refine pS (by kernel_rfl : opAt F24.o9 8 = some (some 47, .indexAddr 22 (.tmp 45) (.tmp 46), (some (5, false)))) rfl rfl ?_
            refine pW (by kernel_rfl : opAt F24.o9 9 = some (some 48, .load 3 (.tmp 47), (some (5, false)))) rfl rfl trivial ?_
            refine pS (by kernel_rfl : opAt F24.o9 10 = some (some 49, .binOp .gtr 3 (.tmp 48) (.const (.int .i64 4096)) 3, (some (5, false)))) rfl rfl ?_
            refine yS (by kernel_rfl : opAt F24.o9 11 = some (some 50, .pick (.tmp 44) (.const (.bool true)) (.tmp 49), none)) rfl rfl (fun w' hS => val_pick_t rfl rfl) ?_
            exact Sch.nil (hcut _ _ _ (Stp.refl _ _ _) rfl (by unfold badQ; rw [decide_eq_true hA]; rfl) (sub_skip rfl (sub_skip rfl (sub_skip rfl (sub_skip rfl (sub_skip rfl (sub_skip rfl (sub_skip rfl (sub_skip rfl (sub_skip rfl (sub_skip rfl (sub_skip rfl (sub_skip rfl (Sub.refl _))))))))))))))
          · skip
            refine run_plain (id := 9) (ops := F24.o9) [(0, true), (1, true), (2, true), (3, false), (4, true), (5, true), (6, true), (7, true), (8, true), (9, false), (10, true), (11, true)] (by kernel_rfl) (by kernel_rfl) ?_
            refine yS (by kernel_rfl : opAt F24.o9 0 = some (some 39, .move (.tmp 2), none)) rfl rfl (fun w' hS => val_move rfl) ?_
            refine yS (by kernel_rfl : opAt F24.o9 1 = some (some 40, .move (.tmp 11), none)) rfl rfl (fun w' hS => val_move rfl) ?_
            refine iS (e := 3) (by kernel_rfl : opAt F24.o9 2 = some (some 41, .indexAddr 22 (.tmp 39) (.tmp 40), none)) rfl rfl hq rfl (by kernel_rfl) rfl (by omega) (by omega) ?_
            intro b41 o41 h41
            try simp only [Int.toNat_natCast] at h41
            refine lN (by kernel_rfl : opAt F24.o9 3 = some (some 42, .load 3 (.tmp 41), none)) rfl rfl trivial h41 (by kernel_rfl) rfl rfl ?_
            intro v42 g42
            obtain rfl := rv_int.1 g42
            refine yS (by kernel_rfl : opAt F24.o9 4 = some (some 43, .binOp .lss 3 (.tmp 42) (.const (.int .i64 0)) 3, none)) rfl rfl (fun w' hS => val_F (val_lss rfl rfl) hA) ?_
            refine yS (by kernel_rfl : opAt F24.o9 5 = some (some 44, .move (.tmp 43), none)) rfl rfl (fun w' hS => val_move rfl) ?_
            refine yS (by kernel_rfl : opAt F24.o9 6 = some (some 45, .move (.tmp 2), (some (5, false)))) rfl rfl (fun w' hS => val_move rfl) ?_
            refine yS (by kernel_rfl : opAt F24.o9 7 = some (some 46, .move (.tmp 11), (some (5, false)))) rfl rfl (fun w' hS => val_move rfl) ?_
            refine iS (e := 3) (by kernel_rfl : opAt F24.o9 8 = some (some 47, .indexAddr 22 (.tmp 45) (.tmp 46), (some (5, false)))) rfl rfl hq rfl (by kernel_rfl) rfl (by omega) (by omega) ?_
            intro b47 o47 h47
            try simp only [Int.toNat_natCast] at h47
            refine lN (by kernel_rfl : opAt F24.o9 9 = some (some 48, .load 3 (.tmp 47), (some (5, false)))) rfl rfl trivial h47 (by kernel_rfl) rfl rfl ?_
            intro v48 g48
            obtain rfl := rv_int.1 g48
            refine yS (by kernel_rfl : opAt F24.o9 10 = some (some 49, .binOp .gtr 3 (.tmp 48) (.const (.int .i64 4096)) 3, (some (5, false)))) rfl rfl (fun w' hS => val_gtr rfl rfl) ?_
            refine yS (by kernel_rfl : opAt F24.o9 11 = some (some 50, .pick (.tmp 44) (.const (.bool true)) (.tmp 49), none)) rfl rfl (fun w' hS => val_pick_f rfl rfl) ?_
            exact Sch.nil (hcut _ _ _ (Stp.refl _ _ _) rfl (by unfold badQ; rw [decide_eq_false hA]; rfl) (sub_skip rfl (sub_skip rfl (sub_skip rfl (sub_skip rfl (sub_skip rfl (sub_skip rfl (sub_skip rfl (sub_skip rfl (sub_skip rfl (sub_skip rfl (sub_skip rfl (sub_skip rfl (Sub.refl _))))))))))))))
        intro w6 hs
        replace hF := hF.st hs
        replace hT := hT.trans hs (by simp)
        replace hk := hk.st hs (by first | decide | (simp <;> omega))
        replace hr := hr.st hs (by first | decide | (simp <;> omega))
        replace hq := hq.st hs (by first | decide | (simp <;> omega))
        replace hres := hres.st hs (by first | decide | (simp <;> omega))
        refine run_cond (x := F24.c36) (y := F24.c39) (o := .tmp 50) (by kernel_rfl) rfl (fun h50 => ?_) (fun h50 => ?_)
        · skip
          refine run_seq (x := F24.c37) (y := F24.c38) (by kernel_rfl) ?_
          refine run_plain (id := 10) (ops := F24.o10) [(0, true), (1, false), (2, true)] (by kernel_rfl) (by kernel_rfl) ?_
          refine yS (by kernel_rfl : opAt F24.o10 0 = some (some 51, .build 44 #[], none)) rfl rfl (fun w' hS => val_build (zs := [.slice none 0 0, .int .i64 0, .int .i64 0]) (ps := [(0, 1), (1, 1), (2, 1)]) (qs := []) (cs := [.slice none 0 0, .int .i64 0, .int .i64 0]) (by kernel_rfl) (by kernel_rfl) trivial rfl) ?_
          refine aN (by kernel_rfl : opAt F24.o10 1 = some (none, .store 44 (.tmp 8) (.tmp 51), none)) rfl (a_storeAll (vs := [.slice none 0 0, .int .i64 0, .int .i64 0]) (n := 3) rfl rfl (by kernel_rfl) rfl rfl (by intro u hu; simp only [List.mem_cons, List.not_mem_nil, or_false] at hu; rcases hu with rfl | rfl | rfl <;> first | rfl | exact rfl) hres rfl) ?_
          rintro _ w7 ⟨rfl, hs, hres⟩
          refine ⟨trivial, ?_⟩
          replace hF := hF.st hs
          replace hT := hT.trans hs (by simp)
          replace hk := hk.st hs (by first | decide | (simp <;> omega))
          replace hr := hr.st hs (by first | decide | (simp <;> omega))
          replace hq := hq.st hs (by first | decide | (simp <;> omega))
          refine yS (by kernel_rfl : opAt F24.o10 2 = some (some 9, .assign (.const (.int .i64 2)), none)) rfl rfl (fun w' hS => val_assign rfl) ?_
          refine Sch.nil ?_
          refine run_retC2 (by kernel_rfl) Try.func24 Try.results24 rfl rfl hres.at_ (by kernel_rfl) (by kernel_rfl) rfl ?_
          unfold chooseS
          rw [if_neg h23, if_neg (by omega), if_pos (Or.inr (List.any_eq_true.2 ⟨ps[i], List.getElem_mem hil, h50⟩))]
          exact ⟨_, rfl, hT.out1 (by decide), rv_nil⟩
        · skip
          refine run_skip (by kernel_rfl) ?_
          refine run_inBlock ?_
          refine run_plain (id := 8) (ops := F24.o8) [(0, true), (1, true), (2, true)] (by kernel_rfl) (by kernel_rfl) ?_
          refine yS (by kernel_rfl : opAt F24.o8 0 = some (some 37, .move (.tmp 11), none)) rfl rfl (fun w' hS => val_move rfl) ?_
          refine yS (by kernel_rfl : opAt F24.o8 1 = some (some 38, .binOp .add 3 (.tmp 37) (.const (.int .i64 1)) 3, none)) rfl rfl (fun w' hS => val_addi rfl rfl (by omega) (by omega)) ?_
          refine yS (by kernel_rfl : opAt F24.o8 2 = some (some 11, .assign (.tmp 38), none)) rfl rfl (fun w' hS => val_assign rfl) ?_
          refine Sch.nil ?_
          refine kp (sub_cons 0 rfl rfl (sub_cons 1 rfl rfl (sub_cons 2 rfl rfl (sub_cons 3 rfl rfl (sub_cons 8 rfl rfl (sub_cons 11 rfl (eq_int (by simp)) (sub_nil _))))))) (next1 (i + 1, C1) _ ⟨(by first | omega | (simp only; omega)), (fun p hp h => by
              simp only at hp
              by_cases e : p = i
              · subst e; exact h50
              · exact h0 p (by omega) h), hF, hT, hk, hr, hq, hres⟩ (by first | omega | (simp only; omega)))
      · skip
        have hil : i = ps.length := by omega
        have hnb : ps.any badQ = false := by
          apply Bool.eq_false_iff.2; intro h
          obtain ⟨x, hx, hb⟩ := List.any_eq_true.1 h
          obtain ⟨p, hp, rfl⟩ := List.mem_iff_getElem.1 hx
          rw [h0 p (by omega) hp] at hb; cases hb
        refine run_exit (id := 0) (by kernel_rfl) rfl ?_
        refine run_seq (x := F24.c42) (y := F24.c49) (by kernel_rfl) ?_
        refine run_seq (x := F24.c43) (y := F24.c44) (by kernel_rfl) ?_
        refine run_plain (id := 11) (ops := F24.o11) [(0, true), (1, true)] (by kernel_rfl) (by kernel_rfl) ?_
        refine yS (by kernel_rfl : opAt F24.o11 0 = some (some 52, .move (.tmp 3), none)) rfl rfl (fun w' hS => val_move rfl) ?_
        refine yS (by kernel_rfl : opAt F24.o11 1 = some (some 53, .binOp .lss 3 (.tmp 52) (.const (.int .i64 0)) 3, none)) rfl rfl (fun w' hS => val_lss rfl rfl) ?_
        refine Sch.nil ?_
        refine run_if (x := F24.c45) (y := F24.c48) (o := .tmp 53) (by kernel_rfl) rfl (fun h53 => ?_) (fun h53 => ?_)
        · skip
          refine run_seq (x := F24.c46) (y := F24.c47) (by kernel_rfl) ?_
          refine run_plain (id := 12) (ops := F24.o12) [(0, true), (1, false), (2, true)] (by kernel_rfl) (by kernel_rfl) ?_
          refine yS (by kernel_rfl : opAt F24.o12 0 = some (some 54, .build 44 #[], none)) rfl rfl (fun w' hS => val_build (zs := [.slice none 0 0, .int .i64 0, .int .i64 0]) (ps := [(0, 1), (1, 1), (2, 1)]) (qs := []) (cs := [.slice none 0 0, .int .i64 0, .int .i64 0]) (by kernel_rfl) (by kernel_rfl) trivial rfl) ?_
          refine aN (by kernel_rfl : opAt F24.o12 1 = some (none, .store 44 (.tmp 8) (.tmp 54), none)) rfl (a_storeAll (vs := [.slice none 0 0, .int .i64 0, .int .i64 0]) (n := 3) rfl rfl (by kernel_rfl) rfl rfl (by intro u hu; simp only [List.mem_cons, List.not_mem_nil, or_false] at hu; rcases hu with rfl | rfl | rfl <;> first | rfl | exact rfl) hres rfl) ?_
          rintro _ w8 ⟨rfl, hs, hres⟩
          refine ⟨trivial, ?_⟩
          replace hF := hF.st hs
          replace hT := hT.trans hs (by simp)
          replace hk := hk.st hs (by first | decide | (simp <;> omega))
          replace hr := hr.st hs (by first | decide | (simp <;> omega))
          replace hq := hq.st hs (by first | decide | (simp <;> omega))
          refine yS (by kernel_rfl : opAt F24.o12 2 = some (some 9, .assign (.const (.int .i64 2)), none)) rfl rfl (fun w' hS => val_assign rfl) ?_
          refine Sch.nil ?_
          refine run_retC2 (by kernel_rfl) Try.func24 Try.results24 rfl rfl hres.at_ (by kernel_rfl) (by kernel_rfl) rfl ?_
          unfold chooseS
          rw [if_neg h23, if_neg (by omega), if_pos (Or.inl h53)]
          exact ⟨_, rfl, hT.out1 (by decide), rv_nil⟩
        · skip
          refine run_skip (by kernel_rfl) ?_
          refine run_seq (x := F24.c50) (y := F24.c51) (by kernel_rfl) ?_
          refine run_plain (id := 13) (ops := F24.o13) [(0, true), (1, true)] (by kernel_rfl) (by kernel_rfl) ?_
          refine yS (by kernel_rfl : opAt F24.o13 0 = some (some 12, .assign (.const (.int .i64 (-1))), none)) rfl rfl (fun w' hS => val_assign rfl) ?_
          refine yS (by kernel_rfl : opAt F24.o13 1 = some (some 13, .assign (.const (.int .i64 0)), none)) rfl rfl (fun w' hS => val_assign rfl) ?_
          refine Sch.nil ?_
          refine run_seq (x := F24.c52) (y := F24.c78) (by kernel_rfl) ?_
          refine run_seq (x := F24.c53) (y := F24.c54) (by kernel_rfl) ?_
          refine run_plain (id := 14) (ops := F24.o14) [(0, true)] (by kernel_rfl) (by kernel_rfl) ?_
          refine yS (by kernel_rfl : opAt F24.o14 0 = some (some 14, .assign (.const (.int .i64 0)), none)) rfl rfl (fun w' hS => val_assign rfl) ?_
          refine Sch.nil ?_
          refine run_block (x := F24.c55) (id := 2) (by kernel_rfl) ?_
          
          refine run_loop (ι := Nat × (Nat → Nat)) (I := fun x w => x.1 ≤ ps.length ∧ Lim w x.2 ∧ Stp [2, 3, 4, 5, 6, 7, 8, 9] w₀ (col1 C) w x.2 ∧ RV w (Mc x.2) ks vk ∧ RV w (Mc x.2) rs vr ∧ RV w (Mc x.2) ps vq ∧ OwnB w x.2 3 bw1 (.cells [.slice none 0 0, .int .i64 0, .int .i64 0].toArray 44)) (e := fun x => [(0, vk), (1, vr), (2, vq), (3, .int .i64 budget), (8, .pointer (some ⟨bw1, 0, none⟩)), (12, .int .i64 (pb (bestS (fS ks rs) (qS ps) budget x.1))), (13, .int .i64 (pq (fS ks rs) (bestS (fS ks rs) (qS ps) budget x.1))), (14, .int .i64 x.1)]) (m := fun x => ps.length - x.1) (x₀ := (0, C1)) (body := F24.c56) (by kernel_rfl) (sub_cons 0 rfl rfl (sub_cons 1 rfl rfl (sub_cons 2 rfl rfl (sub_cons 3 rfl rfl (sub_cons 8 rfl rfl (sub_cons 12 rfl rfl (sub_cons 13 rfl rfl (sub_cons 14 rfl rfl (sub_nil _))))))))) ?_ ?_
          · exact ⟨Nat.zero_le _, hF, hT, hk, hr, hq, hres⟩
          intro ⟨n, C1⟩ w9 hI next
          obtain ⟨hn, hF, hT, hk, hr, hq, hres⟩ := hI
          try simp only at hn hF hT hk hr hq hres
          have next2 := next
          clear next
          show Run _ _ _ _ [(0, vk), (1, vr), (2, vq), (3, .int .i64 budget), (8, .pointer (some ⟨bw1, 0, none⟩)), (12, .int .i64 (pb (bestS (fS ks rs) (qS ps) budget n))), (13, .int .i64 (pq (fS ks rs) (bestS (fS ks rs) (qS ps) budget n))), (14, .int .i64 n)] _ _
          refine run_seq (x := F24.c57) (y := F24.c62) (by kernel_rfl) ?_
          refine run_seq (x := F24.c58) (y := F24.c59) (by kernel_rfl) ?_
          refine run_plain (id := 15) (ops := F24.o15) [(0, true), (1, true), (2, true), (3, true)] (by kernel_rfl) (by kernel_rfl) ?_
          refine yS (by kernel_rfl : opAt F24.o15 0 = some (some 55, .move (.tmp 14), none)) rfl rfl (fun w' hS => val_move rfl) ?_
          refine yS (by kernel_rfl : opAt F24.o15 1 = some (some 56, .move (.tmp 2), none)) rfl rfl (fun w' hS => val_move rfl) ?_
          refine yS (by kernel_rfl : opAt F24.o15 2 = some (some 57, .call { callee := .builtin .len, args := #[(.tmp 56)], argTypes := #[22] }, none)) rfl rfl (fun w' hS => hq.lenV rfl Try.underlying22 w' ) ?_
          refine yS (by kernel_rfl : opAt F24.o15 3 = some (some 58, .binOp .lss 3 (.tmp 55) (.tmp 57) 3, none)) rfl rfl (fun w' hS => val_lss rfl rfl) ?_
          refine Sch.nil ?_
          refine run_if (x := F24.c60) (y := F24.c61) (o := .tmp 58) (by kernel_rfl) rfl (fun h58 => ?_) (fun h58 => ?_)
          · skip
            have hnl : n < ps.length := by omega
            have hqn : qS ps n = ps[n] := by simp [qS, List.getD_eq_getElem?_getD, hnl]
            obtain ⟨X, hX⟩ : ∃ X, X = fS ks rs n := ⟨_, rfl⟩
            have hps := pb_some (f := fS ks rs) (q := qS ps) (budget := budget) hn
            refine run_skip (by kernel_rfl) ?_
            refine run_seq (x := F24.c63) (y := F24.c77) (by kernel_rfl) ?_
            refine run_block (x := F24.c64) (id := 3) (by kernel_rfl) ?_
            refine run_seq (x := F24.c65) (y := F24.c70) (by kernel_rfl) ?_
            refine run_seq (x := F24.c66) (y := F24.c67) (by kernel_rfl) ?_
            refine run_plain (id := 17) (ops := F24.o17) [(0, true), (1, true), (2, true), (3, false), (4, true), (5, true)] (by kernel_rfl) (by kernel_rfl) ?_
            refine yS (by kernel_rfl : opAt F24.o17 0 = some (some 61, .move (.tmp 2), none)) rfl rfl (fun w' hS => val_move rfl) ?_
            refine yS (by kernel_rfl : opAt F24.o17 1 = some (some 62, .move (.tmp 14), none)) rfl rfl (fun w' hS => val_move rfl) ?_
            refine iS (e := 3) (by kernel_rfl : opAt F24.o17 2 = some (some 63, .indexAddr 22 (.tmp 61) (.tmp 62), none)) rfl rfl hq rfl (by kernel_rfl) rfl (by omega) (by omega) ?_
            intro b63 o63 h63
            try simp only [Int.toNat_natCast] at h63
            refine lN (by kernel_rfl : opAt F24.o17 3 = some (some 64, .load 3 (.tmp 63), none)) rfl rfl trivial h63 (by kernel_rfl) rfl rfl ?_
            intro v64 g64
            obtain rfl := rv_int.1 g64
            refine yS (by kernel_rfl : opAt F24.o17 4 = some (some 65, .move (.tmp 3), none)) rfl rfl (fun w' hS => val_move rfl) ?_
            refine yS (by kernel_rfl : opAt F24.o17 5 = some (some 66, .binOp .gtr 3 (.tmp 64) (.tmp 65) 3, none)) rfl rfl (fun w' hS => val_gtr rfl rfl) ?_
            refine Sch.nil ?_
            refine run_if (x := F24.c68) (y := F24.c69) (o := .tmp 66) (by kernel_rfl) rfl (fun h66 => ?_) (fun h66 => ?_)
            · skip
              have hno := bestS_over (f := fS ks rs) (q := qS ps) (budget := budget) (n := n) (by rw [hqn]; exact h66)
              refine run_exit (id := 3) (by kernel_rfl) rfl ?_
              refine run_plain (id := 16) (ops := F24.o16) [(0, true), (1, true), (2, true)] (by kernel_rfl) (by kernel_rfl) ?_
              refine yS (by kernel_rfl : opAt F24.o16 0 = some (some 59, .move (.tmp 14), none)) rfl rfl (fun w' hS => val_move rfl) ?_
              refine yS (by kernel_rfl : opAt F24.o16 1 = some (some 60, .binOp .add 3 (.tmp 59) (.const (.int .i64 1)) 3, none)) rfl rfl (fun w' hS => val_addi rfl rfl (by omega) (by omega)) ?_
              refine yS (by kernel_rfl : opAt F24.o16 2 = some (some 14, .assign (.tmp 60), none)) rfl rfl (fun w' hS => val_assign rfl) ?_
              refine Sch.nil ?_
              refine kp (sub_cons 0 rfl rfl (sub_cons 1 rfl rfl (sub_cons 2 rfl rfl (sub_cons 3 rfl rfl (sub_cons 8 rfl rfl (sub_cons 12 rfl (eq_int (by simp only; rw [hno]; try rfl)) (sub_cons 13 rfl (eq_int (by simp only; rw [hno]; try rfl)) (sub_cons 14 rfl (eq_int (by simp)) (sub_nil _))))))))) (next2 (n + 1, C1) _ ⟨(by first | omega | (simp only; omega)), hF, hT, hk, hr, hq, hres⟩ (by first | omega | (simp only; omega)))
            · skip
              have h66q : ¬ budget < qS ps n := by rw [hqn]; exact h66
              refine run_skip (by kernel_rfl) ?_
              refine run_seq (x := F24.c71) (y := F24.c72) (by kernel_rfl) ?_
              refine run_plain (id := 18) (ops := F24.o18) [(0, true), (1, true), (2, true), (3, false), (4, true), (5, true), (6, true), (7, true), (8, true)] (by kernel_rfl) (by kernel_rfl) ?_
              refine yS (by kernel_rfl : opAt F24.o18 0 = some (some 68, .move (.tmp 0), none)) rfl rfl (fun w' hS => val_move rfl) ?_
              refine yS (by kernel_rfl : opAt F24.o18 1 = some (some 69, .move (.tmp 1), none)) rfl rfl (fun w' hS => val_move rfl) ?_
              refine yS (by kernel_rfl : opAt F24.o18 2 = some (some 70, .move (.tmp 14), none)) rfl rfl (fun w' hS => val_move rfl) ?_
              refine cS (by kernel_rfl : opAt F24.o18 3 = some (some 71, .call { callee := .value (.func 21), args := #[(.tmp 68), (.tmp 69), (.tmp 70)], argTypes := #[23, 22, 3] }, none)) rfl rfl (ent Try.call21 rfl) (refMissed_ok (mask := ((n : Nat) : Int)) hF hk hr hs0) ?_
              rintro vw10 w10 ⟨rfl, hs⟩
              refine ⟨trivial, ?_⟩
              replace hF := hF.st hs
              replace hT := hT.trans hs (by simp)
              replace hk := hk.st hs (by first | decide | (simp <;> omega))
              replace hr := hr.st hs (by first | decide | (simp <;> omega))
              replace hq := hq.st hs (by first | decide | (simp <;> omega))
              replace hres := hres.st hs (by first | decide | (simp <;> omega))
              replace h63 := h63.st hs (by first | decide | (simp <;> omega))
              rw [missE_ok hz (by rw [← hz2]; omega), show missS (setsS ks) rs n = fS ks rs n from rfl]
              refine yS (by kernel_rfl : opAt F24.o18 4 = some (some 67, .move (.tmp 71), none)) rfl rfl (fun w' hS => val_move rfl) ?_
              refine yS (by kernel_rfl : opAt F24.o18 5 = some (some 72, .extract (.tmp 67) 0, none)) rfl rfl (fun w' hS => val_extract rfl rfl) ?_
              refine yS (by kernel_rfl : opAt F24.o18 6 = some (some 73, .extract (.tmp 67) 1, none)) rfl rfl (fun w' hS => val_extract rfl rfl) ?_
              refine yS (by kernel_rfl : opAt F24.o18 7 = some (some 15, .assign (.tmp 72), none)) rfl rfl (fun w' hS => val_assign rfl) ?_
              refine yS (by kernel_rfl : opAt F24.o18 8 = some (some 16, .assign (.tmp 73), none)) rfl rfl (fun w' hS => val_assign rfl) ?_
              refine Sch.nil ?_
              refine run_seq (x := F24.c73) (y := F24.c74) (by kernel_rfl) ?_
              refine run_cut 96 (betB (fS ks rs) (qS ps) (bestS (fS ks rs) (qS ps) budget n) n) (C1) ?_ ?_
              · intro hcut
                by_cases hA : (bestS (fS ks rs) (qS ps) budget n).isSome = true
                · skip
                  by_cases hB : fS ks rs n < pq (fS ks rs) (bestS (fS ks rs) (qS ps) budget n)
                  · skip
                    refine run_draw (id := 19) (ops := F24.o19) [] (C1) [(0, true), (1, true), (2, true), (3, true), (4, true), (5, true), (6, true), (7, true), (8, true), (9, true), (10, true), (11, true), (12, true), (13, true), (14, true), (15, true), (16, true), (17, true), (18, true), (19, true), (20, true), (21, true), (22, true)] Try_mixed (by kernel_rfl) (by kernel_rfl) (by kernel_rfl) ?_
                    intro w11 hs
                    replace hF := hF.st hs
                    replace hT := hT.trans hs (by simp)
                    replace hk := hk.st hs (by first | decide | (simp <;> omega))
                    replace hr := hr.st hs (by first | decide | (simp <;> omega))
                    replace hq := hq.st hs (by first | decide | (simp <;> omega))
                    replace hres := hres.st hs (by first | decide | (simp <;> omega))
                    replace h63 := h63.st hs (by first | decide | (simp <;> omega))
                    have hcs := hs
                    obtain ⟨hp0, hp1, hp2⟩ := hps hA
                    have hp3 := hp2 (by omega)
                    refine yS (by kernel_rfl : opAt F24.o19 0 = some (some 74, .move (.tmp 12), none)) rfl rfl (fun w' hS => val_move rfl) ?_
                    refine yS (by kernel_rfl : opAt F24.o19 1 = some (some 75, .binOp .lss 3 (.tmp 74) (.const (.int .i64 0)) 3, none)) rfl rfl (fun w' hS => val_F (val_lss rfl rfl) (by have := (hps hA).1; omega)) ?_
                    refine yS (by kernel_rfl : opAt F24.o19 2 = some (some 76, .move (.tmp 75), none)) rfl rfl (fun w' hS => val_move rfl) ?_
                    refine yS (by kernel_rfl : opAt F24.o19 3 = some (some 77, .move (.tmp 15), (some (2, false)))) rfl rfl (fun w' hS => val_move rfl) ?_
                    refine yS (by kernel_rfl : opAt F24.o19 4 = some (some 78, .move (.tmp 13), (some (2, false)))) rfl rfl (fun w' hS => val_move rfl) ?_
                    refine yS (by kernel_rfl : opAt F24.o19 5 = some (some 79, .binOp .lss 3 (.tmp 77) (.tmp 78) 3, (some (2, false)))) rfl rfl (fun w' hS => val_T (val_lss rfl rfl) hB) ?_
                    refine yS (by kernel_rfl : opAt F24.o19 6 = some (some 80, .pick (.tmp 76) (.const (.bool true)) (.tmp 79), none)) rfl rfl (fun w' hS => val_pick_f rfl rfl) ?_
                    refine yS (by kernel_rfl : opAt F24.o19 7 = some (some 81, .move (.tmp 80), none)) rfl rfl (fun w' hS => val_move rfl) ?_
                    refine pS (by kernel_rfl : opAt F24.o19 8 = some (some 82, .move (.tmp 15), (some (7, false)))) rfl rfl ?_
                    refine pS (by kernel_rfl : opAt F24.o19 9 = some (some 83, .move (.tmp 13), (some (7, false)))) rfl rfl ?_
                    refine pS (by kernel_rfl : opAt F24.o19 10 = some (some 84, .binOp .eql 3 (.tmp 82) (.tmp 83) 3, (some (7, false)))) rfl rfl ?_
                    refine pS (by kernel_rfl : opAt F24.o19 11 = some (some 85, .move (.tmp 84), (some (7, false)))) rfl rfl ?_
                    refine pS (by kernel_rfl : opAt F24.o19 12 = some (some 86, .move (.tmp 2), (some (11, true)))) rfl rfl ?_
                    refine pS (by kernel_rfl : opAt F24.o19 13 = some (some 87, .move (.tmp 14), (some (11, true)))) rfl rfl ?_
                    refine pS (by kernel_rfl : opAt F24.o19 14 = some (some 88, .indexAddr 22 (.tmp 86) (.tmp 87), (some (11, true)))) rfl rfl ?_
                    refine pS (by kernel_rfl : opAt F24.o19 15 = some (some 89, .load 3 (.tmp 88), (some (11, true)))) rfl rfl ?_
                    refine pS (by kernel_rfl : opAt F24.o19 16 = some (some 90, .move (.tmp 2), (some (11, true)))) rfl rfl ?_
                    refine pS (by kernel_rfl : opAt F24.o19 17 = some (some 91, .move (.tmp 12), (some (11, true)))) rfl rfl ?_
                    refine pS (by kernel_rfl : opAt F24.o19 18 = some (some 92, .indexAddr 22 (.tmp 90) (.tmp 91), (some (11, true)))) rfl rfl ?_
                    refine pS (by kernel_rfl : opAt F24.o19 19 = some (some 93, .load 3 (.tmp 92), (some (11, true)))) rfl rfl ?_
                    refine pS (by kernel_rfl : opAt F24.o19 20 = some (some 94, .binOp .lss 3 (.tmp 89) (.tmp 93) 3, (some (11, true)))) rfl rfl ?_
                    refine pS (by kernel_rfl : opAt F24.o19 21 = some (some 95, .pick (.tmp 85) (.tmp 94) (.const (.bool false)), (some (7, false)))) rfl rfl ?_
                    refine yS (by kernel_rfl : opAt F24.o19 22 = some (some 96, .pick (.tmp 81) (.const (.bool true)) (.tmp 95), none)) rfl rfl (fun w' hS => val_pick_t rfl rfl) ?_
                    exact Sch.nil (hcut _ _ _ hcs rfl (by rw [← betB_some hA, cmp_lt]; rw [decide_eq_true hB]; rfl) (sub_skip rfl (sub_skip rfl (sub_skip rfl (sub_skip rfl (sub_skip rfl (sub_skip rfl (sub_skip rfl (sub_skip rfl (sub_skip rfl (sub_skip rfl (sub_skip rfl (sub_skip rfl (sub_skip rfl (sub_skip rfl (sub_skip rfl (sub_skip rfl (sub_skip rfl (sub_skip rfl (sub_skip rfl (sub_skip rfl (sub_skip rfl (sub_skip rfl (sub_skip rfl (Sub.refl _)))))))))))))))))))))))))
                  · skip
                    by_cases hC : fS ks rs n = pq (fS ks rs) (bestS (fS ks rs) (qS ps) budget n)
                    · skip
                      refine run_draw (id := 19) (ops := F24.o19) [] (C1) [(0, true), (1, true), (2, true), (3, true), (4, true), (5, true), (6, true), (7, true), (8, true), (9, true), (10, true), (11, true), (12, true), (13, true), (14, true), (15, true), (16, true), (17, true), (18, true), (19, true), (20, true), (21, true), (22, true)] Try_mixed (by kernel_rfl) (by kernel_rfl) (by kernel_rfl) ?_
                      intro w12 hs
                      replace hF := hF.st hs
                      replace hT := hT.trans hs (by simp)
                      replace hk := hk.st hs (by first | decide | (simp <;> omega))
                      replace hr := hr.st hs (by first | decide | (simp <;> omega))
                      replace hq := hq.st hs (by first | decide | (simp <;> omega))
                      replace hres := hres.st hs (by first | decide | (simp <;> omega))
                      replace h63 := h63.st hs (by first | decide | (simp <;> omega))
                      have hcs := hs
                      obtain ⟨hp0, hp1, hp2⟩ := hps hA
                      have hp3 := hp2 (by omega)
                      refine yS (by kernel_rfl : opAt F24.o19 0 = some (some 74, .move (.tmp 12), none)) rfl rfl (fun w' hS => val_move rfl) ?_
                      refine yS (by kernel_rfl : opAt F24.o19 1 = some (some 75, .binOp .lss 3 (.tmp 74) (.const (.int .i64 0)) 3, none)) rfl rfl (fun w' hS => val_F (val_lss rfl rfl) (by have := (hps hA).1; omega)) ?_
                      refine yS (by kernel_rfl : opAt F24.o19 2 = some (some 76, .move (.tmp 75), none)) rfl rfl (fun w' hS => val_move rfl) ?_
                      refine yS (by kernel_rfl : opAt F24.o19 3 = some (some 77, .move (.tmp 15), (some (2, false)))) rfl rfl (fun w' hS => val_move rfl) ?_
                      refine yS (by kernel_rfl : opAt F24.o19 4 = some (some 78, .move (.tmp 13), (some (2, false)))) rfl rfl (fun w' hS => val_move rfl) ?_
                      refine yS (by kernel_rfl : opAt F24.o19 5 = some (some 79, .binOp .lss 3 (.tmp 77) (.tmp 78) 3, (some (2, false)))) rfl rfl (fun w' hS => val_F (val_lss rfl rfl) hB) ?_
                      refine yS (by kernel_rfl : opAt F24.o19 6 = some (some 80, .pick (.tmp 76) (.const (.bool true)) (.tmp 79), none)) rfl rfl (fun w' hS => val_pick_f rfl rfl) ?_
                      refine yS (by kernel_rfl : opAt F24.o19 7 = some (some 81, .move (.tmp 80), none)) rfl rfl (fun w' hS => val_move rfl) ?_
                      refine yS (by kernel_rfl : opAt F24.o19 8 = some (some 82, .move (.tmp 15), (some (7, false)))) rfl rfl (fun w' hS => val_move rfl) ?_
                      refine yS (by kernel_rfl : opAt F24.o19 9 = some (some 83, .move (.tmp 13), (some (7, false)))) rfl rfl (fun w' hS => val_move rfl) ?_
                      refine yS (by kernel_rfl : opAt F24.o19 10 = some (some 84, .binOp .eql 3 (.tmp 82) (.tmp 83) 3, (some (7, false)))) rfl rfl (fun w' hS => val_T (val_eql rfl rfl) hC) ?_
                      refine yS (by kernel_rfl : opAt F24.o19 11 = some (some 85, .move (.tmp 84), (some (7, false)))) rfl rfl (fun w' hS => val_move rfl) ?_
                      refine yS (by kernel_rfl : opAt F24.o19 12 = some (some 86, .move (.tmp 2), (some (11, true)))) rfl rfl (fun w' hS => val_move rfl) ?_
                      refine yS (by kernel_rfl : opAt F24.o19 13 = some (some 87, .move (.tmp 14), (some (11, true)))) rfl rfl (fun w' hS => val_move rfl) ?_
                      refine iS (e := 3) (by kernel_rfl : opAt F24.o19 14 = some (some 88, .indexAddr 22 (.tmp 86) (.tmp 87), (some (11, true)))) rfl rfl hq rfl (by kernel_rfl) rfl (by omega) (by omega) ?_
                      intro b88 o88 h88
                      try simp only [Int.toNat_natCast] at h88
                      refine lS (by kernel_rfl : opAt F24.o19 15 = some (some 89, .load 3 (.tmp 88), (some (11, true)))) rfl rfl (fun w' hS => h88.stay hS (by decide)) h88 (by kernel_rfl) rfl rfl ?_
                      intro v89 g89
                      obtain rfl := rv_int.1 g89
                      refine yS (by kernel_rfl : opAt F24.o19 16 = some (some 90, .move (.tmp 2), (some (11, true)))) rfl rfl (fun w' hS => val_move rfl) ?_
                      refine yS (by kernel_rfl : opAt F24.o19 17 = some (some 91, .move (.tmp 12), (some (11, true)))) rfl rfl (fun w' hS => val_move rfl) ?_
                      refine iS (e := 3) (by kernel_rfl : opAt F24.o19 18 = some (some 92, .indexAddr 22 (.tmp 90) (.tmp 91), (some (11, true)))) rfl rfl hq rfl (by kernel_rfl) rfl (by omega) (by omega) ?_
                      intro b92 o92 h92
                      try simp only [Int.toNat_natCast] at h92
                      refine lS (by kernel_rfl : opAt F24.o19 19 = some (some 93, .load 3 (.tmp 92), (some (11, true)))) rfl rfl (fun w' hS => h92.stay hS (by decide)) h92 (by kernel_rfl) rfl rfl ?_
                      intro v93 g93
                      obtain rfl := rv_int.1 g93
                      rw [hp3]
                      refine yS (by kernel_rfl : opAt F24.o19 20 = some (some 94, .binOp .lss 3 (.tmp 89) (.tmp 93) 3, (some (11, true)))) rfl rfl (fun w' hS => val_lss rfl rfl) ?_
                      refine yS (by kernel_rfl : opAt F24.o19 21 = some (some 95, .pick (.tmp 85) (.tmp 94) (.const (.bool false)), (some (7, false)))) rfl rfl (fun w' hS => val_pick_t rfl rfl) ?_
                      refine yS (by kernel_rfl : opAt F24.o19 22 = some (some 96, .pick (.tmp 81) (.const (.bool true)) (.tmp 95), none)) rfl rfl (fun w' hS => val_pick_f rfl rfl) ?_
                      exact Sch.nil (hcut _ _ _ hcs rfl (by rw [← betB_some hA, cmp_lt]; rw [decide_eq_false hB, decide_eq_true hC, hqn]; rfl) (sub_skip rfl (sub_skip rfl (sub_skip rfl (sub_skip rfl (sub_skip rfl (sub_skip rfl (sub_skip rfl (sub_skip rfl (sub_skip rfl (sub_skip rfl (sub_skip rfl (sub_skip rfl (sub_skip rfl (sub_skip rfl (sub_skip rfl (sub_skip rfl (sub_skip rfl (sub_skip rfl (sub_skip rfl (sub_skip rfl (sub_skip rfl (sub_skip rfl (sub_skip rfl (Sub.refl _)))))))))))))))))))))))))
                    · skip
                      refine run_draw (id := 19) (ops := F24.o19) [] (C1) [(0, true), (1, true), (2, true), (3, true), (4, true), (5, true), (6, true), (7, true), (8, true), (9, true), (10, true), (11, true), (12, true), (13, true), (14, true), (15, true), (16, true), (17, true), (18, true), (19, true), (20, true), (21, true), (22, true)] Try_mixed (by kernel_rfl) (by kernel_rfl) (by kernel_rfl) ?_
                      intro w13 hs
                      replace hF := hF.st hs
                      replace hT := hT.trans hs (by simp)
                      replace hk := hk.st hs (by first | decide | (simp <;> omega))
                      replace hr := hr.st hs (by first | decide | (simp <;> omega))
                      replace hq := hq.st hs (by first | decide | (simp <;> omega))
                      replace hres := hres.st hs (by first | decide | (simp <;> omega))
                      replace h63 := h63.st hs (by first | decide | (simp <;> omega))
                      have hcs := hs
                      obtain ⟨hp0, hp1, hp2⟩ := hps hA
                      have hp3 := hp2 (by omega)
                      refine yS (by kernel_rfl : opAt F24.o19 0 = some (some 74, .move (.tmp 12), none)) rfl rfl (fun w' hS => val_move rfl) ?_
                      refine yS (by kernel_rfl : opAt F24.o19 1 = some (some 75, .binOp .lss 3 (.tmp 74) (.const (.int .i64 0)) 3, none)) rfl rfl (fun w' hS => val_F (val_lss rfl rfl) (by have := (hps hA).1; omega)) ?_
                      refine yS (by kernel_rfl : opAt F24.o19 2 = some (some 76, .move (.tmp 75), none)) rfl rfl (fun w' hS => val_move rfl) ?_
                      refine yS (by kernel_rfl : opAt F24.o19 3 = some (some 77, .move (.tmp 15), (some (2, false)))) rfl rfl (fun w' hS => val_move rfl) ?_
                      refine yS (by kernel_rfl : opAt F24.o19 4 = some (some 78, .move (.tmp 13), (some (2, false)))) rfl rfl (fun w' hS => val_move rfl) ?_
                      refine yS (by kernel_rfl : opAt F24.o19 5 = some (some 79, .binOp .lss 3 (.tmp 77) (.tmp 78) 3, (some (2, false)))) rfl rfl (fun w' hS => val_F (val_lss rfl rfl) hB) ?_
                      refine yS (by kernel_rfl : opAt F24.o19 6 = some (some 80, .pick (.tmp 76) (.const (.bool true)) (.tmp 79), none)) rfl rfl (fun w' hS => val_pick_f rfl rfl) ?_
                      refine yS (by kernel_rfl : opAt F24.o19 7 = some (some 81, .move (.tmp 80), none)) rfl rfl (fun w' hS => val_move rfl) ?_
                      refine yS (by kernel_rfl : opAt F24.o19 8 = some (some 82, .move (.tmp 15), (some (7, false)))) rfl rfl (fun w' hS => val_move rfl) ?_
                      refine yS (by kernel_rfl : opAt F24.o19 9 = some (some 83, .move (.tmp 13), (some (7, false)))) rfl rfl (fun w' hS => val_move rfl) ?_
                      refine yS (by kernel_rfl : opAt F24.o19 10 = some (some 84, .binOp .eql 3 (.tmp 82) (.tmp 83) 3, (some (7, false)))) rfl rfl (fun w' hS => val_F (val_eql rfl rfl) hC) ?_
                      refine yS (by kernel_rfl : opAt F24.o19 11 = some (some 85, .move (.tmp 84), (some (7, false)))) rfl rfl (fun w' hS => val_move rfl) ?_
                      refine pS (by kernel_rfl : opAt F24.o19 12 = some (some 86, .move (.tmp 2), (some (11, true)))) rfl rfl ?_
                      refine pS (by kernel_rfl : opAt F24.o19 13 = some (some 87, .move (.tmp 14), (some (11, true)))) rfl rfl ?_
                      refine pS (by kernel_rfl : opAt F24.o19 14 = some (some 88, .indexAddr 22 (.tmp 86) (.tmp 87), (some (11, true)))) rfl rfl ?_
                      refine pS (by kernel_rfl : opAt F24.o19 15 = some (some 89, .load 3 (.tmp 88), (some (11, true)))) rfl rfl ?_
                      refine pS (by kernel_rfl : opAt F24.o19 16 = some (some 90, .move (.tmp 2), (some (11, true)))) rfl rfl ?_
                      refine pS (by kernel_rfl : opAt F24.o19 17 = some (some 91, .move (.tmp 12), (some (11, true)))) rfl rfl ?_
                      refine pS (by kernel_rfl : opAt F24.o19 18 = some (some 92, .indexAddr 22 (.tmp 90) (.tmp 91), (some (11, true)))) rfl rfl ?_
                      refine pS (by kernel_rfl : opAt F24.o19 19 = some (some 93, .load 3 (.tmp 92), (some (11, true)))) rfl rfl ?_
                      refine pS (by kernel_rfl : opAt F24.o19 20 = some (some 94, .binOp .lss 3 (.tmp 89) (.tmp 93) 3, (some (11, true)))) rfl rfl ?_
                      refine yS (by kernel_rfl : opAt F24.o19 21 = some (some 95, .pick (.tmp 85) (.tmp 94) (.const (.bool false)), (some (7, false)))) rfl rfl (fun w' hS => val_pick_f rfl rfl) ?_
                      refine yS (by kernel_rfl : opAt F24.o19 22 = some (some 96, .pick (.tmp 81) (.const (.bool true)) (.tmp 95), none)) rfl rfl (fun w' hS => val_pick_f rfl rfl) ?_
                      exact Sch.nil (hcut _ _ _ hcs rfl (by rw [← betB_some hA, cmp_lt]; rw [decide_eq_false hB, decide_eq_false hC]; rfl) (sub_skip rfl (sub_skip rfl (sub_skip rfl (sub_skip rfl (sub_skip rfl (sub_skip rfl (sub_skip rfl (sub_skip rfl (sub_skip rfl (sub_skip rfl (sub_skip rfl (sub_skip rfl (sub_skip rfl (sub_skip rfl (sub_skip rfl (sub_skip rfl (sub_skip rfl (sub_skip rfl (sub_skip rfl (sub_skip rfl (sub_skip rfl (sub_skip rfl (sub_skip rfl (Sub.refl _)))))))))))))))))))))))))
                · skip
                  refine run_draw (id := 19) (ops := F24.o19) [] (C1) [(0, true), (1, true), (2, true), (3, true), (4, true), (5, true), (6, true), (7, true), (8, true), (9, true), (10, true), (11, true), (12, true), (13, true), (14, true), (15, true), (16, true), (17, true), (18, true), (19, true), (20, true), (21, true), (22, true)] Try_mixed (by kernel_rfl) (by kernel_rfl) (by kernel_rfl) ?_
                  intro w14 hs
                  replace hF := hF.st hs
                  replace hT := hT.trans hs (by simp)
                  replace hk := hk.st hs (by first | decide | (simp <;> omega))
                  replace hr := hr.st hs (by first | decide | (simp <;> omega))
                  replace hq := hq.st hs (by first | decide | (simp <;> omega))
                  replace hres := hres.st hs (by first | decide | (simp <;> omega))
                  replace h63 := h63.st hs (by first | decide | (simp <;> omega))
                  have hcs := hs
                  refine yS (by kernel_rfl : opAt F24.o19 0 = some (some 74, .move (.tmp 12), none)) rfl rfl (fun w' hS => val_move rfl) ?_
                  refine yS (by kernel_rfl : opAt F24.o19 1 = some (some 75, .binOp .lss 3 (.tmp 74) (.const (.int .i64 0)) 3, none)) rfl rfl (fun w' hS => val_T (val_lss rfl rfl) (pb_none hA)) ?_
                  refine yS (by kernel_rfl : opAt F24.o19 2 = some (some 76, .move (.tmp 75), none)) rfl rfl (fun w' hS => val_move rfl) ?_
                  refine pS (by kernel_rfl : opAt F24.o19 3 = some (some 77, .move (.tmp 15), (some (2, false)))) rfl rfl ?_
                  refine pS (by kernel_rfl : opAt F24.o19 4 = some (some 78, .move (.tmp 13), (some (2, false)))) rfl rfl ?_
                  refine pS (by kernel_rfl : opAt F24.o19 5 = some (some 79, .binOp .lss 3 (.tmp 77) (.tmp 78) 3, (some (2, false)))) rfl rfl ?_
                  refine yS (by kernel_rfl : opAt F24.o19 6 = some (some 80, .pick (.tmp 76) (.const (.bool true)) (.tmp 79), none)) rfl rfl (fun w' hS => val_pick_t rfl rfl) ?_
                  refine yS (by kernel_rfl : opAt F24.o19 7 = some (some 81, .move (.tmp 80), none)) rfl rfl (fun w' hS => val_move rfl) ?_
                  refine pS (by kernel_rfl : opAt F24.o19 8 = some (some 82, .move (.tmp 15), (some (7, false)))) rfl rfl ?_
                  refine pS (by kernel_rfl : opAt F24.o19 9 = some (some 83, .move (.tmp 13), (some (7, false)))) rfl rfl ?_
                  refine pS (by kernel_rfl : opAt F24.o19 10 = some (some 84, .binOp .eql 3 (.tmp 82) (.tmp 83) 3, (some (7, false)))) rfl rfl ?_
                  refine pS (by kernel_rfl : opAt F24.o19 11 = some (some 85, .move (.tmp 84), (some (7, false)))) rfl rfl ?_
                  refine pS (by kernel_rfl : opAt F24.o19 12 = some (some 86, .move (.tmp 2), (some (11, true)))) rfl rfl ?_
                  refine pS (by kernel_rfl : opAt F24.o19 13 = some (some 87, .move (.tmp 14), (some (11, true)))) rfl rfl ?_
                  refine pS (by kernel_rfl : opAt F24.o19 14 = some (some 88, .indexAddr 22 (.tmp 86) (.tmp 87), (some (11, true)))) rfl rfl ?_
                  refine pS (by kernel_rfl : opAt F24.o19 15 = some (some 89, .load 3 (.tmp 88), (some (11, true)))) rfl rfl ?_
                  refine pS (by kernel_rfl : opAt F24.o19 16 = some (some 90, .move (.tmp 2), (some (11, true)))) rfl rfl ?_
                  refine pS (by kernel_rfl : opAt F24.o19 17 = some (some 91, .move (.tmp 12), (some (11, true)))) rfl rfl ?_
                  refine pS (by kernel_rfl : opAt F24.o19 18 = some (some 92, .indexAddr 22 (.tmp 90) (.tmp 91), (some (11, true)))) rfl rfl ?_
                  refine pS (by kernel_rfl : opAt F24.o19 19 = some (some 93, .load 3 (.tmp 92), (some (11, true)))) rfl rfl ?_
                  refine pS (by kernel_rfl : opAt F24.o19 20 = some (some 94, .binOp .lss 3 (.tmp 89) (.tmp 93) 3, (some (11, true)))) rfl rfl ?_
                  refine pS (by kernel_rfl : opAt F24.o19 21 = some (some 95, .pick (.tmp 85) (.tmp 94) (.const (.bool false)), (some (7, false)))) rfl rfl ?_
                  refine yS (by kernel_rfl : opAt F24.o19 22 = some (some 96, .pick (.tmp 81) (.const (.bool true)) (.tmp 95), none)) rfl rfl (fun w' hS => val_pick_t rfl rfl) ?_
                  exact Sch.nil (hcut _ _ _ hcs rfl (by rw [betB_none hA]) (sub_skip rfl (sub_skip rfl (sub_skip rfl (sub_skip rfl (sub_skip rfl (sub_skip rfl (sub_skip rfl (sub_skip rfl (sub_skip rfl (sub_skip rfl (sub_skip rfl (sub_skip rfl (sub_skip rfl (sub_skip rfl (sub_skip rfl (sub_skip rfl (sub_skip rfl (sub_skip rfl (sub_skip rfl (sub_skip rfl (sub_skip rfl (sub_skip rfl (sub_skip rfl (Sub.refl _)))))))))))))))))))))))))
              intro w15 hs
              replace hF := hF.st hs
              replace hT := hT.trans hs (by simp)
              replace hk := hk.st hs (by first | decide | (simp <;> omega))
              replace hr := hr.st hs (by first | decide | (simp <;> omega))
              replace hq := hq.st hs (by first | decide | (simp <;> omega))
              replace hres := hres.st hs (by first | decide | (simp <;> omega))
              replace h63 := h63.st hs (by first | decide | (simp <;> omega))
              refine run_cond (x := F24.c75) (y := F24.c76) (o := .tmp 96) (by kernel_rfl) rfl (fun h96 => ?_) (fun h96 => ?_)
              · skip
                have hno := bestS_yes h66q h96
                refine run_plain (id := 20) (ops := F24.o20) [(0, true), (1, true), (2, true), (3, true)] (by kernel_rfl) (by kernel_rfl) ?_
                refine yS (by kernel_rfl : opAt F24.o20 0 = some (some 97, .move (.tmp 14), none)) rfl rfl (fun w' hS => val_move rfl) ?_
                refine yS (by kernel_rfl : opAt F24.o20 1 = some (some 98, .move (.tmp 15), none)) rfl rfl (fun w' hS => val_move rfl) ?_
                refine yS (by kernel_rfl : opAt F24.o20 2 = some (some 12, .assign (.tmp 97), none)) rfl rfl (fun w' hS => val_assign rfl) ?_
                refine yS (by kernel_rfl : opAt F24.o20 3 = some (some 13, .assign (.tmp 98), none)) rfl rfl (fun w' hS => val_assign rfl) ?_
                refine Sch.nil ?_
                refine run_inBlock ?_
                refine run_plain (id := 16) (ops := F24.o16) [(0, true), (1, true), (2, true)] (by kernel_rfl) (by kernel_rfl) ?_
                refine yS (by kernel_rfl : opAt F24.o16 0 = some (some 59, .move (.tmp 14), none)) rfl rfl (fun w' hS => val_move rfl) ?_
                refine yS (by kernel_rfl : opAt F24.o16 1 = some (some 60, .binOp .add 3 (.tmp 59) (.const (.int .i64 1)) 3, none)) rfl rfl (fun w' hS => val_addi rfl rfl (by omega) (by omega)) ?_
                refine yS (by kernel_rfl : opAt F24.o16 2 = some (some 14, .assign (.tmp 60), none)) rfl rfl (fun w' hS => val_assign rfl) ?_
                refine Sch.nil ?_
                refine kp (sub_cons 0 rfl rfl (sub_cons 1 rfl rfl (sub_cons 2 rfl rfl (sub_cons 3 rfl rfl (sub_cons 8 rfl rfl (sub_cons 12 rfl (eq_int (by simp only; rw [hno]; try rfl)) (sub_cons 13 rfl (eq_int (by simp only; rw [hno]; try rfl)) (sub_cons 14 rfl (eq_int (by simp)) (sub_nil _))))))))) (next2 (n + 1, C1) _ ⟨(by first | omega | (simp only; omega)), hF, hT, hk, hr, hq, hres⟩ (by first | omega | (simp only; omega)))
              · skip
                have hno := bestS_no h66q h96
                refine run_skip (by kernel_rfl) ?_
                refine run_inBlock ?_
                refine run_plain (id := 16) (ops := F24.o16) [(0, true), (1, true), (2, true)] (by kernel_rfl) (by kernel_rfl) ?_
                refine yS (by kernel_rfl : opAt F24.o16 0 = some (some 59, .move (.tmp 14), none)) rfl rfl (fun w' hS => val_move rfl) ?_
                refine yS (by kernel_rfl : opAt F24.o16 1 = some (some 60, .binOp .add 3 (.tmp 59) (.const (.int .i64 1)) 3, none)) rfl rfl (fun w' hS => val_addi rfl rfl (by omega) (by omega)) ?_
                refine yS (by kernel_rfl : opAt F24.o16 2 = some (some 14, .assign (.tmp 60), none)) rfl rfl (fun w' hS => val_assign rfl) ?_
                refine Sch.nil ?_
                refine kp (sub_cons 0 rfl rfl (sub_cons 1 rfl rfl (sub_cons 2 rfl rfl (sub_cons 3 rfl rfl (sub_cons 8 rfl rfl (sub_cons 12 rfl (eq_int (by simp only; rw [hno]; try rfl)) (sub_cons 13 rfl (eq_int (by simp only; rw [hno]; try rfl)) (sub_cons 14 rfl (eq_int (by simp)) (sub_nil _))))))))) (next2 (n + 1, C1) _ ⟨(by first | omega | (simp only; omega)), hF, hT, hk, hr, hq, hres⟩ (by first | omega | (simp only; omega)))
          · skip
            obtain rfl : n = ps.length := by omega
            refine run_exit (id := 2) (by kernel_rfl) rfl ?_
            refine run_seq (x := F24.c79) (y := F24.c86) (by kernel_rfl) ?_
            refine run_seq (x := F24.c80) (y := F24.c81) (by kernel_rfl) ?_
            refine run_plain (id := 21) (ops := F24.o21) [(0, true), (1, true)] (by kernel_rfl) (by kernel_rfl) ?_
            refine yS (by kernel_rfl : opAt F24.o21 0 = some (some 99, .move (.tmp 12), none)) rfl rfl (fun w' hS => val_move rfl) ?_
            refine yS (by kernel_rfl : opAt F24.o21 1 = some (some 100, .binOp .lss 3 (.tmp 99) (.const (.int .i64 0)) 3, none)) rfl rfl (fun w' hS => val_lss rfl rfl) ?_
            refine Sch.nil ?_
            refine run_if (x := F24.c82) (y := F24.c85) (o := .tmp 100) (by kernel_rfl) rfl (fun h100 => ?_) (fun h100 => ?_)
            · skip
              refine run_seq (x := F24.c83) (y := F24.c84) (by kernel_rfl) ?_
              refine run_plain (id := 22) (ops := F24.o22) [(0, true), (1, false), (2, true)] (by kernel_rfl) (by kernel_rfl) ?_
              refine yS (by kernel_rfl : opAt F24.o22 0 = some (some 101, .build 44 #[], none)) rfl rfl (fun w' hS => val_build (zs := [.slice none 0 0, .int .i64 0, .int .i64 0]) (ps := [(0, 1), (1, 1), (2, 1)]) (qs := []) (cs := [.slice none 0 0, .int .i64 0, .int .i64 0]) (by kernel_rfl) (by kernel_rfl) trivial rfl) ?_
              refine aN (by kernel_rfl : opAt F24.o22 1 = some (none, .store 44 (.tmp 8) (.tmp 101), none)) rfl (a_storeAll (vs := [.slice none 0 0, .int .i64 0, .int .i64 0]) (n := 3) rfl rfl (by kernel_rfl) rfl rfl (by intro u hu; simp only [List.mem_cons, List.not_mem_nil, or_false] at hu; rcases hu with rfl | rfl | rfl <;> first | rfl | exact rfl) hres rfl) ?_
              rintro _ w16 ⟨rfl, hs, hres⟩
              refine ⟨trivial, ?_⟩
              replace hF := hF.st hs
              replace hT := hT.trans hs (by simp)
              replace hk := hk.st hs (by first | decide | (simp <;> omega))
              replace hr := hr.st hs (by first | decide | (simp <;> omega))
              replace hq := hq.st hs (by first | decide | (simp <;> omega))
              refine yS (by kernel_rfl : opAt F24.o22 2 = some (some 9, .assign (.const (.int .i64 13)), none)) rfl rfl (fun w' hS => val_assign rfl) ?_
              refine Sch.nil ?_
              refine run_retC2 (by kernel_rfl) Try.func24 Try.results24 rfl rfl hres.at_ (by kernel_rfl) (by kernel_rfl) rfl ?_
              unfold chooseS
              rw [if_neg h23, if_neg (by omega), if_neg (by rw [hnb]; simpa using h53)]
              cases hbs : bestS (fS ks rs) (qS ps) budget ps.length with
              | none => exact ⟨_, rfl, hT.out1 (by decide), rv_nil⟩
              | some m => rw [hbs] at h100; simp [pb] at h100; omega
            · skip
              obtain ⟨m0, hm0⟩ : ∃ m0, bestS (fS ks rs) (qS ps) budget ps.length = some m0 := by
                cases hb : bestS (fS ks rs) (qS ps) budget ps.length with
                | none => rw [hb] at h100; simp [pb] at h100
                | some m => exact ⟨m, rfl⟩
              obtain ⟨ha0, hb0, hc0⟩ := (bestS_spec (fS ks rs) (qS ps) budget ps.length).1 m0 hm0
              rw [hm0, show pb (some m0) = (m0 : Int) from rfl, show pq (fS ks rs) (some m0) = fS ks rs m0 from rfl]
              have hqm : qS ps m0 = ps[m0] := by simp [qS, List.getD_eq_getElem?_getD, ha0]
              refine run_skip (by kernel_rfl) ?_
              refine run_seq (x := F24.c87) (y := F24.c88) (by kernel_rfl) ?_
              refine run_plain (id := 23) (ops := F24.o23) [(0, true), (1, true), (2, true), (3, false), (4, true), (5, true), (6, false), (7, false)] (by kernel_rfl) (by kernel_rfl) ?_
              refine yS (by kernel_rfl : opAt F24.o23 0 = some (some 102, .move (.tmp 2), none)) rfl rfl (fun w' hS => val_move rfl) ?_
              refine yS (by kernel_rfl : opAt F24.o23 1 = some (some 103, .move (.tmp 12), none)) rfl rfl (fun w' hS => val_move rfl) ?_
              refine iS (e := 3) (by kernel_rfl : opAt F24.o23 2 = some (some 104, .indexAddr 22 (.tmp 102) (.tmp 103), none)) rfl rfl hq rfl (by kernel_rfl) rfl (by omega) (by omega) ?_
              intro b104 o104 h104
              try simp only [Int.toNat_natCast] at h104
              refine lN (by kernel_rfl : opAt F24.o23 3 = some (some 105, .load 3 (.tmp 104), none)) rfl rfl trivial h104 (by kernel_rfl) rfl rfl ?_
              intro v105 g105
              obtain rfl := rv_int.1 g105
              rw [← hqm]
              refine yS (by kernel_rfl : opAt F24.o23 4 = some (some 106, .move (.tmp 13), none)) rfl rfl (fun w' hS => val_move rfl) ?_
              refine yS (by kernel_rfl : opAt F24.o23 5 = some (some 107, .build 44 #[(1, (.tmp 105)), (2, (.tmp 106))], none)) rfl rfl (fun w' hS => val_build (zs := [.slice none 0 0, .int .i64 0, .int .i64 0]) (ps := [(0, 1), (1, 1), (2, 1)]) (qs := [(1, [.int .i64 (qS ps m0)]), (2, [.int .i64 (fS ks rs m0)])]) (cs := [.slice none 0 0, .int .i64 (qS ps m0), .int .i64 (fS ks rs m0)]) (by kernel_rfl) (by kernel_rfl) ⟨rfl, ⟨_, rfl, rfl⟩, rfl, ⟨_, rfl, rfl⟩, trivial⟩ rfl) ?_
              refine aS (by kernel_rfl : opAt F24.o23 6 = some (some 17, .alloc 44, none)) rfl rfl (a_alloc (cs := [.slice none 0 0, .int .i64 0, .int .i64 0]) hF 4 (by kernel_rfl)) ?_
              rintro _ w17 ⟨Cw17, bw17, rfl, hs, hp, hF⟩
              refine ⟨trivial, ?_⟩
              replace hT := hT.trans hs (by simp)
              replace hk := hk.st hs (by first | decide | (simp <;> omega))
              replace hr := hr.st hs (by first | decide | (simp <;> omega))
              replace hq := hq.st hs (by first | decide | (simp <;> omega))
              replace hres := hres.st hs (by first | decide | (simp <;> omega))
              replace h104 := h104.st hs (by first | decide | (simp <;> omega))
              refine aN (by kernel_rfl : opAt F24.o23 7 = some (none, .store 44 (.tmp 17) (.tmp 107), none)) rfl (a_storeAll (vs := [.slice none 0 0, .int .i64 (qS ps m0), .int .i64 (fS ks rs m0)]) (n := 3) rfl rfl (by kernel_rfl) rfl rfl (by intro u hu; simp only [List.mem_cons, List.not_mem_nil, or_false] at hu; rcases hu with rfl | rfl | rfl <;> first | rfl | exact rfl) hp rfl) ?_
              rintro _ w18 ⟨rfl, hs, hp⟩
              refine ⟨trivial, ?_⟩
              replace hF := hF.st hs
              replace hT := hT.trans hs (by simp)
              replace hk := hk.st hs (by first | decide | (simp <;> omega))
              replace hr := hr.st hs (by first | decide | (simp <;> omega))
              replace hq := hq.st hs (by first | decide | (simp <;> omega))
              replace hres := hres.st hs (by first | decide | (simp <;> omega))
              replace h104 := h104.st hs (by first | decide | (simp <;> omega))
              refine Sch.nil ?_
              refine run_seq (x := F24.c89) (y := F24.c107) (by kernel_rfl) ?_
              refine run_seq (x := F24.c90) (y := F24.c91) (by kernel_rfl) ?_
              refine run_plain (id := 24) (ops := F24.o24) [(0, true)] (by kernel_rfl) (by kernel_rfl) ?_
              refine yS (by kernel_rfl : opAt F24.o24 0 = some (some 18, .assign (.const (.int .i64 0)), none)) rfl rfl (fun w' hS => val_assign rfl) ?_
              refine Sch.nil ?_
              refine run_block (x := F24.c92) (id := 4) (by kernel_rfl) ?_
              
              refine run_loop (ι := Nat × Value × (Nat → Nat)) (I := fun x w => x.1 ≤ ks.length ∧ Lim w x.2.2 ∧ Stp [2, 3, 4, 5, 6, 7, 8, 9] w₀ (col1 C) w x.2.2 ∧ RV w (Mc x.2.2) ks vk ∧ OwnB w x.2.2 3 bw1 (.cells [.slice none 0 0, .int .i64 0, .int .i64 0].toArray 44) ∧ OwnB w x.2.2 4 bw17 (.cells [x.2.1, .int .i64 (qS ps m0), .int .i64 (fS ks rs m0)].toArray 44) ∧ OwnL w x.2.2 5 3 x.2.1 (bitsL m0 x.1)) (e := fun x => [(0, vk), (8, .pointer (some ⟨bw1, 0, none⟩)), (12, .int .i64 (m0 : Int)), (17, .pointer (some ⟨bw17, 0, none⟩)), (18, .int .i64 x.1)]) (m := fun x => ks.length - x.1) (x₀ := (0, .slice none 0 0, Cw17)) (body := F24.c93) (by kernel_rfl) (sub_cons 0 rfl rfl (sub_cons 8 rfl rfl (sub_cons 12 rfl rfl (sub_cons 17 rfl rfl (sub_cons 18 rfl rfl (sub_nil _)))))) ?_ ?_
              · exact ⟨Nat.zero_le _, hF, hT, hk, hres, hp, OwnL.nil⟩
              intro ⟨i, vo, C1⟩ w19 hI next
              obtain ⟨hi, hF, hT, hk, hres, hp, ho⟩ := hI
              try simp only at hi hF hT hk hres hp ho
              have next3 := next
              clear next
              show Run _ _ _ _ [(0, vk), (8, .pointer (some ⟨bw1, 0, none⟩)), (12, .int .i64 (m0 : Int)), (17, .pointer (some ⟨bw17, 0, none⟩)), (18, .int .i64 i)] _ _
              have hbl := bitsL_len m0 i
              refine run_seq (x := F24.c94) (y := F24.c99) (by kernel_rfl) ?_
              refine run_seq (x := F24.c95) (y := F24.c96) (by kernel_rfl) ?_
              refine run_plain (id := 25) (ops := F24.o25) [(0, true), (1, true), (2, true), (3, true)] (by kernel_rfl) (by kernel_rfl) ?_
              refine yS (by kernel_rfl : opAt F24.o25 0 = some (some 108, .move (.tmp 18), none)) rfl rfl (fun w' hS => val_move rfl) ?_
              refine yS (by kernel_rfl : opAt F24.o25 1 = some (some 109, .move (.tmp 0), none)) rfl rfl (fun w' hS => val_move rfl) ?_
              refine yS (by kernel_rfl : opAt F24.o25 2 = some (some 110, .call { callee := .builtin .len, args := #[(.tmp 109)], argTypes := #[23] }, none)) rfl rfl (fun w' hS => hk.lenV rfl Try.underlying23 w' ) ?_
              refine yS (by kernel_rfl : opAt F24.o25 3 = some (some 111, .binOp .lss 3 (.tmp 108) (.tmp 110) 3, none)) rfl rfl (fun w' hS => val_lss rfl rfl) ?_
              refine Sch.nil ?_
              refine run_if (x := F24.c97) (y := F24.c98) (o := .tmp 111) (by kernel_rfl) rfl (fun h111 => ?_) (fun h111 => ?_)
              · skip
                have hil3 : i < ks.length := by omega
                refine run_skip (by kernel_rfl) ?_
                refine run_seq (x := F24.c100) (y := F24.c106) (by kernel_rfl) ?_
                refine run_block (x := F24.c101) (id := 5) (by kernel_rfl) ?_
                refine run_seq (x := F24.c102) (y := F24.c103) (by kernel_rfl) ?_
                refine run_plain (id := 27) (ops := F24.o27) [(0, true), (1, true), (2, true), (3, true), (4, true)] (by kernel_rfl) (by kernel_rfl) ?_
                refine yS (by kernel_rfl : opAt F24.o27 0 = some (some 114, .move (.tmp 12), none)) rfl rfl (fun w' hS => val_move rfl) ?_
                refine yS (by kernel_rfl : opAt F24.o27 1 = some (some 115, .move (.tmp 18), none)) rfl rfl (fun w' hS => val_move rfl) ?_
                refine yS (by kernel_rfl : opAt F24.o27 2 = some (some 116, .binOp .shr 3 (.tmp 114) (.tmp 115) 3, none)) rfl rfl (fun w' hS => val_shrE (r := ((m0 / 2 ^ i : Nat) : Int)) rfl rfl (by omega) (shrN (by omega))) ?_
                refine yS (by kernel_rfl : opAt F24.o27 3 = some (some 117, .binOp .and 3 (.tmp 116) (.const (.int .i64 1)) 3, none)) rfl rfl (fun w' hS => val_andE (r := ((m0 / 2 ^ i &&& 1 : Nat) : Int)) rfl rfl (bits_and (n := 1) (Nat.lt_of_le_of_lt (Nat.div_le_self _ _) (by omega)) (by decide))) ?_
                refine yS (by kernel_rfl : opAt F24.o27 4 = some (some 118, .binOp .eql 3 (.tmp 117) (.const (.int .i64 1)) 3, none)) rfl rfl (fun w' hS => val_eql rfl rfl) ?_
                refine Sch.nil ?_
                refine run_if (x := F24.c104) (y := F24.c105) (o := .tmp 118) (by kernel_rfl) rfl (fun h118 => ?_) (fun h118 => ?_)
                · skip
                  have hb := bitsL_succ m0 i
                  rw [if_pos ((bit_is _ _).1 h118)] at hb
                  refine run_plain (id := 28) (ops := F24.o28) [(0, true), (1, false), (2, true), (3, false), (4, false), (5, true), (6, false)] (by kernel_rfl) (by kernel_rfl) ?_
                  refine yS (by kernel_rfl : opAt F24.o28 0 = some (some 119, .fieldAddr 44 (.tmp 17) 0, none)) rfl rfl (fun w' hS => val_fieldAddr (off := 0) (by kernel_rfl) rfl) ?_
                  refine nS (by kernel_rfl : opAt F24.o28 1 = some (some 120, .load 22 (.tmp 119), none)) rfl rfl trivial (val_loadOwn hp.at_ (by kernel_rfl) rfl rfl) ?_
                  refine yS (by kernel_rfl : opAt F24.o28 2 = some (some 121, .move (.tmp 18), none)) rfl rfl (fun w' hS => val_move rfl) ?_
                  refine aS (by kernel_rfl : opAt F24.o28 3 = some (some 122, .buildSlice 22 1 #[(0, (.tmp 121))], none)) rfl rfl (a_buildSlice (ys := ([(i : Int)] : List Int)) (e := 3) (bytes := 8) hF (by kernel_rfl) rfl (by decide) (by decide) ⟨rfl, ⟨_, rfl, rv_int.2 rfl⟩, trivial⟩) ?_
                  rintro v122 w20 ⟨hs, g122, hF⟩
                  refine ⟨trivial, ?_⟩
                  replace hT := hT.trans hs (by simp)
                  replace hk := hk.st hs (by first | decide | (simp <;> omega))
                  replace hres := hres.st hs (by first | decide | (simp <;> omega))
                  replace hp := hp.st hs (by first | decide | (simp <;> omega))
                  replace ho := ho.st hs (by first | decide | (simp <;> omega)) (by first | decide | (simp <;> omega))
                  refine aS (by kernel_rfl : opAt F24.o28 4 = some (some 123, .call { callee := .builtin .append, args := #[(.tmp 120), (.tmp 122)], argTypes := #[22, 22] }, none)) rfl rfl (a_append (e := 3) (bytes := 8) hF (by decide) rfl rfl (by kernel_rfl) (by decide) ho g122 (by simp; omega) (by simp; omega)) ?_
                  rintro v123 w21 ⟨Cw21, hs, ho, hF⟩
                  refine ⟨trivial, ?_⟩
                  replace hT := hT.trans hs (by simp)
                  replace hk := hk.st hs (by first | decide | (simp <;> omega))
                  replace hres := hres.st hs (by first | decide | (simp <;> omega))
                  replace hp := hp.st hs (by first | decide | (simp <;> omega))
                  replace g122 := g122.st hs (by first | decide | (simp <;> omega))
                  refine yS (by kernel_rfl : opAt F24.o28 5 = some (some 124, .fieldAddr 44 (.tmp 17) 0, none)) rfl rfl (fun w' hS => val_fieldAddr (off := 0) (by kernel_rfl) rfl) ?_
                  refine aN (by kernel_rfl : opAt F24.o28 6 = some (none, .store 22 (.tmp 124) (.tmp 123), none)) rfl (a_store1 rfl rfl (by kernel_rfl) ho.one.1 ho.one.2 hp (by simp)) ?_
                  rintro _ w22 ⟨rfl, hs, hp⟩
                  refine ⟨trivial, ?_⟩
                  replace hF := hF.st hs
                  replace hT := hT.trans hs (by simp)
                  replace hk := hk.st hs (by first | decide | (simp <;> omega))
                  replace hres := hres.st hs (by first | decide | (simp <;> omega))
                  replace ho := ho.st hs (by first | decide | (simp <;> omega)) (by first | decide | (simp <;> omega))
                  replace g122 := g122.st hs (by first | decide | (simp <;> omega))
                  refine Sch.nil ?_
                  refine run_inBlock ?_
                  refine run_plain (id := 26) (ops := F24.o26) [(0, true), (1, true), (2, true)] (by kernel_rfl) (by kernel_rfl) ?_
                  refine yS (by kernel_rfl : opAt F24.o26 0 = some (some 112, .move (.tmp 18), none)) rfl rfl (fun w' hS => val_move rfl) ?_
                  refine yS (by kernel_rfl : opAt F24.o26 1 = some (some 113, .binOp .add 3 (.tmp 112) (.const (.int .i64 1)) 3, none)) rfl rfl (fun w' hS => val_addi rfl rfl (by omega) (by omega)) ?_
                  refine yS (by kernel_rfl : opAt F24.o26 2 = some (some 18, .assign (.tmp 113), none)) rfl rfl (fun w' hS => val_assign rfl) ?_
                  refine Sch.nil ?_
                  refine kp (sub_cons 0 rfl rfl (sub_cons 8 rfl rfl (sub_cons 12 rfl rfl (sub_cons 17 rfl rfl (sub_cons 18 rfl (eq_int (by simp)) (sub_nil _)))))) (next3 (i + 1, v123, Cw21) _ ⟨(by first | omega | (simp only; omega)), hF, hT, hk, hres, hp, (by simp only; rw [hb]; exact ho)⟩ (by first | omega | (simp only; omega)))
                · skip
                  have hb := bitsL_succ m0 i
                  rw [if_neg (fun e => h118 ((bit_is _ _).2 e))] at hb
                  refine run_skip (by kernel_rfl) ?_
                  refine run_inBlock ?_
                  refine run_plain (id := 26) (ops := F24.o26) [(0, true), (1, true), (2, true)] (by kernel_rfl) (by kernel_rfl) ?_
                  refine yS (by kernel_rfl : opAt F24.o26 0 = some (some 112, .move (.tmp 18), none)) rfl rfl (fun w' hS => val_move rfl) ?_
                  refine yS (by kernel_rfl : opAt F24.o26 1 = some (some 113, .binOp .add 3 (.tmp 112) (.const (.int .i64 1)) 3, none)) rfl rfl (fun w' hS => val_addi rfl rfl (by omega) (by omega)) ?_
                  refine yS (by kernel_rfl : opAt F24.o26 2 = some (some 18, .assign (.tmp 113), none)) rfl rfl (fun w' hS => val_assign rfl) ?_
                  refine Sch.nil ?_
                  refine kp (sub_cons 0 rfl rfl (sub_cons 8 rfl rfl (sub_cons 12 rfl rfl (sub_cons 17 rfl rfl (sub_cons 18 rfl (eq_int (by simp)) (sub_nil _)))))) (next3 (i + 1, vo, C1) _ ⟨(by first | omega | (simp only; omega)), hF, hT, hk, hres, hp, (by simp only; rw [hb]; exact ho)⟩ (by first | omega | (simp only; omega)))
              · skip
                obtain rfl : i = ks.length := by omega
                refine run_exit (id := 4) (by kernel_rfl) rfl ?_
                refine run_seq (x := F24.c108) (y := F24.c109) (by kernel_rfl) ?_
                refine run_plain (id := 29) (ops := F24.o29) [(0, false), (1, false), (2, true)] (by kernel_rfl) (by kernel_rfl) ?_
                refine nS (by kernel_rfl : opAt F24.o29 0 = some (some 125, .load 44 (.tmp 17), none)) rfl rfl trivial (val_loadOwnAgg (n := 3) hp.at_ (by kernel_rfl) (by kernel_rfl) rfl rfl rfl) ?_
                refine aN (by kernel_rfl : opAt F24.o29 1 = some (none, .store 44 (.tmp 8) (.tmp 125), none)) rfl (a_storeAll (vs := [vo, .int .i64 (qS ps m0), .int .i64 (fS ks rs m0)]) (n := 3) rfl rfl (by kernel_rfl) rfl rfl (by intro u hu; simp only [List.mem_cons, List.not_mem_nil, or_false] at hu; rcases hu with rfl | rfl | rfl <;> first | rfl | exact ho.one.2) hres rfl) ?_
                rintro _ w23 ⟨rfl, hs, hres⟩
                refine ⟨trivial, ?_⟩
                replace hF := hF.st hs
                replace hT := hT.trans hs (by simp)
                replace hk := hk.st hs (by first | decide | (simp <;> omega))
                replace hp := hp.st hs (by first | decide | (simp <;> omega))
                replace ho := ho.st hs (by first | decide | (simp <;> omega)) (by first | decide | (simp <;> omega))
                refine yS (by kernel_rfl : opAt F24.o29 2 = some (some 9, .assign (.const (.int .i64 0)), none)) rfl rfl (fun w' hS => val_assign rfl) ?_
                refine Sch.nil ?_
                refine run_retC2 (by kernel_rfl) Try.func24 Try.results24 rfl rfl hres.at_ (by kernel_rfl) (by kernel_rfl) rfl ?_
                unfold chooseS
                rw [if_neg h23, if_neg (by omega), if_neg (by rw [hnb]; simpa using h53), hm0]
                rw [bitsL_any (m := 8) (show m0 < 2 ^ ks.length by omega) (show m0 < 2 ^ 8 by omega)] at ho
                exact ⟨_, rfl, hT.out1 (by decide), ho.out hT hF0 (Mc_col1 C) (fun b _ => col1_lt C (by decide) b) (by have := bitsL_len m0 8; omega)⟩
end Go.Proofs.Ytpmokjccfaakfaa

