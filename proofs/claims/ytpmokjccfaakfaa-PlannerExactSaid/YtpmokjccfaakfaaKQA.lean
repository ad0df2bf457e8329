/- Steps through functions of the program. -/
import Derived.Test.YtpmokjccfaakfaaKQ9
set_option linter.unusedVariables false
set_option linter.unusedSimpArgs false
set_option maxRecDepth 100000
set_option maxHeartbeats 400000
namespace Go.Proofs.Ytpmokjccfaakfaa
open Go.K Go.K.Rep

namespace F23
noncomputable def c0 : Code := bodyOf Try.f23
noncomputable def c1 : Code := cl c0
noncomputable def o0 : Array Oper := rops c1
noncomputable def c2 : Code := cr c0
noncomputable def c3 : Code := cl c2
noncomputable def c4 : Code := cl c3
noncomputable def o1 : Array Oper := rops c4
noncomputable def c5 : Code := cr c3
noncomputable def c6 : Code := cl c5
noncomputable def o2 : Array Oper := rops c6
noncomputable def c7 : Code := cr c5
noncomputable def c8 : Code := cl c7
noncomputable def c9 : Code := cl c8
noncomputable def o3 : Array Oper := rops c9
noncomputable def c10 : Code := cr c8
noncomputable def c11 : Code := cr c7
noncomputable def c12 : Code := cr c2
noncomputable def c13 : Code := cl c12
noncomputable def c14 : Code := cl c13
noncomputable def c15 : Code := cl c14
noncomputable def o4 : Array Oper := rops c15
noncomputable def c16 : Code := cr c14
noncomputable def c17 : Code := cl c16
noncomputable def c18 : Code := cl c17
noncomputable def o5 : Array Oper := rops c18
noncomputable def c19 : Code := cr c17
noncomputable def c20 : Code := cr c16
noncomputable def c21 : Code := cl c20
noncomputable def o6 : Array Oper := rops c21
noncomputable def c22 : Code := cr c20
noncomputable def c23 : Code := cl c22
noncomputable def c24 : Code := cl c23
noncomputable def o7 : Array Oper := rops c24
noncomputable def c25 : Code := cr c23
noncomputable def c26 : Code := cr c22
noncomputable def c27 : Code := cr c12
noncomputable def c28 : Code := cl c27
noncomputable def o8 : Array Oper := rops c28
noncomputable def c29 : Code := cr c27
noncomputable def c30 : Code := cl c29
noncomputable def o9 : Array Oper := rops c30
noncomputable def c31 : Code := cr c29
noncomputable def c32 : Code := cl c31
noncomputable def c33 : Code := cl c32
noncomputable def o10 : Array Oper := rops c33
noncomputable def c34 : Code := cr c32
noncomputable def c35 : Code := cl c34
noncomputable def c36 : Code := cl c35
noncomputable def c37 : Code := cl c36
noncomputable def o11 : Array Oper := rops c37
noncomputable def c38 : Code := cr c36
noncomputable def c39 : Code := cl c38
noncomputable def c40 : Code := cl c39
noncomputable def c41 : Code := cr c39
noncomputable def c42 : Code := cr c38
noncomputable def c43 : Code := cl c42
noncomputable def c44 : Code := cl c43
noncomputable def c45 : Code := cl c44
noncomputable def o12 : Array Oper := rops c45
noncomputable def c46 : Code := cr c44
noncomputable def c47 : Code := cl c46
noncomputable def c48 : Code := cl c47
noncomputable def o13 : Array Oper := rops c48
noncomputable def c49 : Code := cr c47
noncomputable def c50 : Code := cl c49
noncomputable def c51 : Code := cr c49
noncomputable def c52 : Code := cr c46
noncomputable def c53 : Code := cl c52
noncomputable def o14 : Array Oper := rops c53
noncomputable def c54 : Code := cr c52
noncomputable def c55 : Code := cl c54
noncomputable def o15 : Array Oper := rops c55
noncomputable def c56 : Code := cr c54
noncomputable def c57 : Code := cl c56
noncomputable def o16 : Array Oper := rops c57
noncomputable def c58 : Code := cr c56
noncomputable def c59 : Code := cr c42
noncomputable def o17 : Array Oper := rops c59
noncomputable def c60 : Code := cr c31
noncomputable def c61 : Code := cl c60
noncomputable def c62 : Code := cl c61
noncomputable def o18 : Array Oper := rops c62
noncomputable def c63 : Code := cr c61
noncomputable def c64 : Code := cl c63
noncomputable def c65 : Code := cl c64
noncomputable def o19 : Array Oper := rops c65
noncomputable def c66 : Code := cr c64
noncomputable def c67 : Code := cr c63
noncomputable def c68 : Code := cr c60
noncomputable def c69 : Code := cl c68
noncomputable def o20 : Array Oper := rops c69
noncomputable def c70 : Code := cr c68
end F23
/-- 'Choose'. -/
theorem choose_ok {w₀ : World} {C : Nat → Nat} {ks : List Key} {rs ps : List Int} {vk vr vq : Value} {budget : Int} (hF : Lim w₀ C) (hk : RV w₀ (Mc C) ks vk) (hr : RV w₀ (Mc C) rs vr) (hq : RV w₀ (Mc C) ps vq) (hs0 : KeysSm ks) :
    Calls Try.prog 23 #[vk, vr, vq, .int .i64 budget] w₀ (Ret fun v w' => ∃ u, v = .tuple #[.agg #[u, .int .i64 (chooseS ks rs ps budget).1.pairs, .int .i64 (chooseS ks rs ps budget).1.missed], .int .i64 (chooseS ks rs ps budget).2] ∧ Stp [] w₀ C w' C ∧ RV w' (Mc C) (chooseS ks rs ps budget).1.keys u) := by
  have hF0 := hF
  have hT := Stp.refl [2, 3, 4, 5, 6, 7, 8, 9] w₀ (col1 C)
  replace hF := hF.col1
  replace hk : RV w₀ (Mc (col1 C)) ks vk := by rw [Mc_col1]; exact hk
  replace hr : RV w₀ (Mc (col1 C)) rs vr := by rw [Mc_col1]; exact hr
  replace hq : RV w₀ (Mc (col1 C)) ps vq := by rw [Mc_col1]; exact hq
  refine calls_start (c := F23.c0) (N := 83) [vk, vr, vq, .int .i64 budget] Try.func23 (by kernel_rfl) (by kernel_rfl) (by kernel_rfl) ?_
  show Run _ _ _ _ [(0, vk), (1, vr), (2, vq), (3, .int .i64 budget)] _ _
  refine run_seq (x := F23.c1) (y := F23.c2) (by kernel_rfl) ?_
  refine run_plain (id := 0) (ops := F23.o0) [(0, false), (1, true)] (by kernel_rfl) (by kernel_rfl) ?_
  refine aS (by kernel_rfl : opAt F23.o0 0 = some (some 8, .alloc 44, none)) rfl rfl (a_alloc (cs := [.slice none 0 0, .int .i64 0, .int .i64 0]) hF 3 (by kernel_rfl)) ?_
  rintro _ w1 ⟨Cw1, bw1, rfl, hs, hres, hF⟩
  refine ⟨trivial, ?_⟩
  replace hT := hT.trans hs (by simp)
  replace hk := hk.st hs (by first | decide | (simp <;> omega))
  replace hr := hr.st hs (by first | decide | (simp <;> omega))
  replace hq := hq.st hs (by first | decide | (simp <;> omega))
  refine yS (by kernel_rfl : opAt F23.o0 1 = some (some 9, .assign (.const (.int .i64 0)), none)) rfl rfl (fun w' hS => val_assign rfl) ?_
  refine Sch.nil ?_
  refine run_seq (x := F23.c3) (y := F23.c12) (by kernel_rfl) ?_
  refine run_seq (x := F23.c4) (y := F23.c5) (by kernel_rfl) ?_
  refine run_plain (id := 1) (ops := F23.o1) [(0, true), (1, true), (2, false), (3, true)] (by kernel_rfl) (by kernel_rfl) ?_
  refine yS (by kernel_rfl : opAt F23.o1 0 = some (some 17, .move (.tmp 0), none)) rfl rfl (fun w' hS => val_move rfl) ?_
  refine yS (by kernel_rfl : opAt F23.o1 1 = some (some 18, .move (.tmp 1), none)) rfl rfl (fun w' hS => val_move rfl) ?_
  refine cS (by kernel_rfl : opAt F23.o1 2 = some (some 19, .call { callee := .value (.func 17), args := #[(.tmp 17), (.tmp 18)], argTypes := #[23, 22] }, none)) rfl rfl (ent Try.call17 rfl) (check_ok hF hk hr hs0) ?_
  rintro vw2 w2 ⟨rfl, hs⟩
  refine ⟨trivial, ?_⟩
  replace hF := hF.st hs
  replace hT := hT.trans hs (by simp)
  replace hk := hk.st hs (by first | decide | (simp <;> omega))
  replace hr := hr.st hs (by first | decide | (simp <;> omega))
  replace hq := hq.st hs (by first | decide | (simp <;> omega))
  replace hres := hres.st hs (by first | decide | (simp <;> omega))
  refine yS (by kernel_rfl : opAt F23.o1 3 = some (some 10, .assign (.tmp 19), none)) rfl rfl (fun w' hS => val_assign rfl) ?_
  refine Sch.nil ?_
  refine run_seq (x := F23.c6) (y := F23.c7) (by kernel_rfl) ?_
  refine run_plain (id := 2) (ops := F23.o2) [(0, true), (1, true)] (by kernel_rfl) (by kernel_rfl) ?_
  refine yS (by kernel_rfl : opAt F23.o2 0 = some (some 20, .move (.tmp 10), none)) rfl rfl (fun w' hS => val_move rfl) ?_
  refine yS (by kernel_rfl : opAt F23.o2 1 = some (some 21, .binOp .neq 37 (.tmp 20) (.const (.int .i64 0)) 37, none)) rfl rfl (fun w' hS => val_neq rfl rfl) ?_
  refine Sch.nil ?_
  refine run_if (x := F23.c8) (y := F23.c11) (o := .tmp 21) (by kernel_rfl) rfl (fun h21 => ?_) (fun h21 => ?_)
  · skip
    refine run_seq (x := F23.c9) (y := F23.c10) (by kernel_rfl) ?_
    refine run_plain (id := 3) (ops := F23.o3) [(0, true), (1, true), (2, false), (3, true)] (by kernel_rfl) (by kernel_rfl) ?_
    refine yS (by kernel_rfl : opAt F23.o3 0 = some (some 22, .build 44 #[], none)) rfl rfl (fun w' hS => val_build (zs := [.slice none 0 0, .int .i64 0, .int .i64 0]) (ps := [(0, 1), (1, 1), (2, 1)]) (qs := []) (cs := [.slice none 0 0, .int .i64 0, .int .i64 0]) (by kernel_rfl) (by kernel_rfl) trivial rfl) ?_
    refine yS (by kernel_rfl : opAt F23.o3 1 = some (some 23, .move (.tmp 10), none)) rfl rfl (fun w' hS => val_move rfl) ?_
    refine aN (by kernel_rfl : opAt F23.o3 2 = some (none, .store 44 (.tmp 8) (.tmp 22), none)) rfl (a_storeAll (vs := [.slice none 0 0, .int .i64 0, .int .i64 0]) (n := 3) rfl rfl (by kernel_rfl) rfl rfl (by intro u hu; simp only [List.mem_cons, List.not_mem_nil, or_false] at hu; rcases hu with rfl | rfl | rfl <;> first | rfl | exact rfl) hres rfl) ?_
    rintro _ w3 ⟨rfl, hs, hres⟩
    refine ⟨trivial, ?_⟩
    replace hF := hF.st hs
    replace hT := hT.trans hs (by simp)
    replace hk := hk.st hs (by first | decide | (simp <;> omega))
    replace hr := hr.st hs (by first | decide | (simp <;> omega))
    replace hq := hq.st hs (by first | decide | (simp <;> omega))
    refine yS (by kernel_rfl : opAt F23.o3 3 = some (some 9, .assign (.tmp 23), none)) rfl rfl (fun w' hS => val_assign rfl) ?_
    refine Sch.nil ?_
    refine run_retC2 (by kernel_rfl) Try.func23 Try.results23 rfl rfl hres.at_ (by kernel_rfl) (by kernel_rfl) rfl ?_
    unfold chooseS
    rw [if_pos h21]
    exact ⟨_, rfl, hT.out1 (by decide), rv_nil⟩
  · skip
    have hz : checkP ks rs = 0 := by simpa using h21
    obtain ⟨h8, h10, hrl, hrs⟩ := checkP_zero hz
    obtain ⟨z, hz2, hz256⟩ : ∃ z : Nat, z = 2 ^ ks.length ∧ z ≤ 256 := ⟨_, rfl, Nat.pow_le_pow_right (n := 2) (by decide) h8⟩
    have hql := hq.le
    refine run_skip (by kernel_rfl) ?_
    refine run_seq (x := F23.c13) (y := F23.c27) (by kernel_rfl) ?_
    refine run_block (x := F23.c14) (id := 0) (by kernel_rfl) ?_
    refine run_seq (x := F23.c15) (y := F23.c16) (by kernel_rfl) ?_
    refine run_plain (id := 4) (ops := F23.o4) [(0, true), (1, true), (2, true), (3, true), (4, true), (5, true), (6, true)] (by kernel_rfl) (by kernel_rfl) ?_
    refine yS (by kernel_rfl : opAt F23.o4 0 = some (some 25, .move (.tmp 2), none)) rfl rfl (fun w' hS => val_move rfl) ?_
    refine yS (by kernel_rfl : opAt F23.o4 1 = some (some 26, .call { callee := .builtin .len, args := #[(.tmp 25)], argTypes := #[22] }, none)) rfl rfl (fun w' hS => hq.lenV rfl Try.underlying22 w' ) ?_
    refine yS (by kernel_rfl : opAt F23.o4 2 = some (some 27, .move (.tmp 0), none)) rfl rfl (fun w' hS => val_move rfl) ?_
    refine yS (by kernel_rfl : opAt F23.o4 3 = some (some 28, .call { callee := .builtin .len, args := #[(.tmp 27)], argTypes := #[23] }, none)) rfl rfl (fun w' hS => hk.lenV rfl Try.underlying23 w' ) ?_
    refine yS (by kernel_rfl : opAt F23.o4 4 = some (some 29, .binOp .shl 3 (.const (.int .i64 1)) (.tmp 28) 3, none)) rfl rfl (fun w' hS => val_shlE (r := (z : Int)) rfl rfl (by omega) (by rw [hz2]; exact shl1N (by omega))) ?_
    refine yS (by kernel_rfl : opAt F23.o4 5 = some (some 30, .binOp .neq 3 (.tmp 26) (.tmp 29) 3, none)) rfl rfl (fun w' hS => val_neq rfl rfl) ?_
    refine yS (by kernel_rfl : opAt F23.o4 6 = some (some 24, .assign (.tmp 30), none)) rfl rfl (fun w' hS => val_assign rfl) ?_
    refine Sch.nil ?_
    refine run_if (x := F23.c17) (y := F23.c20) (o := .tmp 24) (by kernel_rfl) rfl (fun h24 => ?_) (fun h24 => ?_)
    · skip
      refine run_seq (x := F23.c18) (y := F23.c19) (by kernel_rfl) ?_
      refine run_plain (id := 5) (ops := F23.o5) [(0, true), (1, false), (2, true)] (by kernel_rfl) (by kernel_rfl) ?_
      refine yS (by kernel_rfl : opAt F23.o5 0 = some (some 31, .build 44 #[], none)) rfl rfl (fun w' hS => val_build (zs := [.slice none 0 0, .int .i64 0, .int .i64 0]) (ps := [(0, 1), (1, 1), (2, 1)]) (qs := []) (cs := [.slice none 0 0, .int .i64 0, .int .i64 0]) (by kernel_rfl) (by kernel_rfl) trivial rfl) ?_
      refine aN (by kernel_rfl : opAt F23.o5 1 = some (none, .store 44 (.tmp 8) (.tmp 31), none)) rfl (a_storeAll (vs := [.slice none 0 0, .int .i64 0, .int .i64 0]) (n := 3) rfl rfl (by kernel_rfl) rfl rfl (by intro u hu; simp only [List.mem_cons, List.not_mem_nil, or_false] at hu; rcases hu with rfl | rfl | rfl <;> first | rfl | exact rfl) hres rfl) ?_
      rintro _ w4 ⟨rfl, hs, hres⟩
      refine ⟨trivial, ?_⟩
      replace hF := hF.st hs
      replace hT := hT.trans hs (by simp)
      replace hk := hk.st hs (by first | decide | (simp <;> omega))
      replace hr := hr.st hs (by first | decide | (simp <;> omega))
      replace hq := hq.st hs (by first | decide | (simp <;> omega))
      refine yS (by kernel_rfl : opAt F23.o5 2 = some (some 9, .assign (.const (.int .i64 8)), none)) rfl rfl (fun w' hS => val_assign rfl) ?_
      refine Sch.nil ?_
      refine run_retC2 (by kernel_rfl) Try.func23 Try.results23 rfl rfl hres.at_ (by kernel_rfl) (by kernel_rfl) rfl ?_
      unfold chooseS
      rw [if_neg h21, if_pos (by omega)]
      exact ⟨_, rfl, hT.out1 (by decide), rv_nil⟩
    · skip
      have hpl : ps.length = z := by omega
      refine run_seq (x := F23.c21) (y := F23.c22) (by kernel_rfl) ?_
      refine run_cut 32 (decide (budget < 0 ∨ ps.any badQ = true)) (Cw1) ?_ ?_
      · intro hcut
        by_cases hA : budget < 0
        · skip
          refine run_plain (id := 6) (ops := F23.o6) [(0, true), (1, true), (2, true), (3, true), (4, false), (5, true), (6, true)] (by kernel_rfl) (by kernel_rfl) ?_
          have hcs := Stp.reflF hF
          refine yS (by kernel_rfl : opAt F23.o6 0 = some (some 33, .move (.tmp 3), none)) rfl rfl (fun w' hS => val_move rfl) ?_
          refine yS (by kernel_rfl : opAt F23.o6 1 = some (some 34, .binOp .lss 3 (.tmp 33) (.const (.int .i64 0)) 3, none)) rfl rfl (fun w' hS => val_T (val_lss rfl rfl) hA) ?_
          refine yS (by kernel_rfl : opAt F23.o6 2 = some (some 35, .move (.tmp 34), none)) rfl rfl (fun w' hS => val_move rfl) ?_
          refine pS (by kernel_rfl : opAt F23.o6 3 = some (some 36, .move (.tmp 2), (some (2, false)))) rfl rfl ?_
          refine pW (by kernel_rfl : opAt F23.o6 4 = some (some 37, .call { callee := .value (.func 33), args := #[(.tmp 36), (.func 39)], argTypes := #[22, 54] }, (some (2, false)))) rfl rfl trivial ?_
          refine yS (by kernel_rfl : opAt F23.o6 5 = some (some 38, .pick (.tmp 35) (.const (.bool true)) (.tmp 37), none)) rfl rfl (fun w' hS => val_pick_t rfl rfl) ?_
          refine yS (by kernel_rfl : opAt F23.o6 6 = some (some 32, .assign (.tmp 38), none)) rfl rfl (fun w' hS => val_assign rfl) ?_
          exact Sch.nil (hcut _ _ _ hcs rfl (by rw [decide_eq_true (Or.inl hA)]) (sub_skip rfl (sub_skip rfl (sub_skip rfl (sub_skip rfl (sub_skip rfl (sub_skip rfl (sub_skip rfl (Sub.refl _)))))))))
        · skip
          refine run_plain (id := 6) (ops := F23.o6) [(0, true), (1, true), (2, true), (3, true), (4, false), (5, true), (6, true)] (by kernel_rfl) (by kernel_rfl) ?_
          have hcs := Stp.reflF hF
          refine yS (by kernel_rfl : opAt F23.o6 0 = some (some 33, .move (.tmp 3), none)) rfl rfl (fun w' hS => val_move rfl) ?_
          refine yS (by kernel_rfl : opAt F23.o6 1 = some (some 34, .binOp .lss 3 (.tmp 33) (.const (.int .i64 0)) 3, none)) rfl rfl (fun w' hS => val_F (val_lss rfl rfl) hA) ?_
          refine yS (by kernel_rfl : opAt F23.o6 2 = some (some 35, .move (.tmp 34), none)) rfl rfl (fun w' hS => val_move rfl) ?_
          refine yS (by kernel_rfl : opAt F23.o6 3 = some (some 36, .move (.tmp 2), (some (2, false)))) rfl rfl (fun w' hS => val_move rfl) ?_
          refine cS (by kernel_rfl : opAt F23.o6 4 = some (some 37, .call { callee := .value (.func 33), args := #[(.tmp 36), (.func 39)], argTypes := #[22, 54] }, (some (2, false)))) rfl rfl (ent Try.call33 rfl) (containsFunc_ok (fun args w => Try.call39 args w) badQ_ok hq) ?_
          rintro vw5 w5 ⟨rfl, rfl⟩
          refine ⟨trivial, ?_⟩
          refine yS (by kernel_rfl : opAt F23.o6 5 = some (some 38, .pick (.tmp 35) (.const (.bool true)) (.tmp 37), none)) rfl rfl (fun w' hS => val_pick_f rfl rfl) ?_
          refine yS (by kernel_rfl : opAt F23.o6 6 = some (some 32, .assign (.tmp 38), none)) rfl rfl (fun w' hS => val_assign rfl) ?_
          exact Sch.nil (hcut _ _ _ hcs rfl (by congr 1; cases ps.any badQ <;> simp [hA]) (sub_skip rfl (sub_skip rfl (sub_skip rfl (sub_skip rfl (sub_skip rfl (sub_skip rfl (sub_skip rfl (Sub.refl _)))))))))
      intro w6 hs
      replace hF := hF.st hs
      replace hT := hT.trans hs (by simp)
      replace hk := hk.st hs (by first | decide | (simp <;> omega))
      replace hr := hr.st hs (by first | decide | (simp <;> omega))
      replace hq := hq.st hs (by first | decide | (simp <;> omega))
      replace hres := hres.st hs (by first | decide | (simp <;> omega))
      refine run_if (x := F23.c23) (y := F23.c26) (o := .tmp 32) (by kernel_rfl) rfl (fun h32 => ?_) (fun h32 => ?_)
      · skip
        refine run_seq (x := F23.c24) (y := F23.c25) (by kernel_rfl) ?_
        refine run_plain (id := 7) (ops := F23.o7) [(0, true), (1, false), (2, true)] (by kernel_rfl) (by kernel_rfl) ?_
        refine yS (by kernel_rfl : opAt F23.o7 0 = some (some 39, .build 44 #[], none)) rfl rfl (fun w' hS => val_build (zs := [.slice none 0 0, .int .i64 0, .int .i64 0]) (ps := [(0, 1), (1, 1), (2, 1)]) (qs := []) (cs := [.slice none 0 0, .int .i64 0, .int .i64 0]) (by kernel_rfl) (by kernel_rfl) trivial rfl) ?_
        refine aN (by kernel_rfl : opAt F23.o7 1 = some (none, .store 44 (.tmp 8) (.tmp 39), none)) rfl (a_storeAll (vs := [.slice none 0 0, .int .i64 0, .int .i64 0]) (n := 3) rfl rfl (by kernel_rfl) rfl rfl (by intro u hu; simp only [List.mem_cons, List.not_mem_nil, or_false] at hu; rcases hu with rfl | rfl | rfl <;> first | rfl | exact rfl) hres rfl) ?_
        rintro _ w7 ⟨rfl, hs, hres⟩
        refine ⟨trivial, ?_⟩
        replace hF := hF.st hs
        replace hT := hT.trans hs (by simp)
        replace hk := hk.st hs (by first | decide | (simp <;> omega))
        replace hr := hr.st hs (by first | decide | (simp <;> omega))
        replace hq := hq.st hs (by first | decide | (simp <;> omega))
        refine yS (by kernel_rfl : opAt F23.o7 2 = some (some 9, .assign (.const (.int .i64 2)), none)) rfl rfl (fun w' hS => val_assign rfl) ?_
        refine Sch.nil ?_
        refine run_retC2 (by kernel_rfl) Try.func23 Try.results23 rfl rfl hres.at_ (by kernel_rfl) (by kernel_rfl) rfl ?_
        unfold chooseS
        rw [if_neg h21, if_neg (by omega), if_pos h32]
        exact ⟨_, rfl, hT.out1 (by decide), rv_nil⟩
      · skip
        refine run_skip (by kernel_rfl) ?_
        refine run_inBlock ?_
        refine run_seq (x := F23.c28) (y := F23.c29) (by kernel_rfl) ?_
        refine run_plain (id := 8) (ops := F23.o8) [(0, true), (1, false), (2, true)] (by kernel_rfl) (by kernel_rfl) ?_
        refine yS (by kernel_rfl : opAt F23.o8 0 = some (some 40, .move (.tmp 0), none)) rfl rfl (fun w' hS => val_move rfl) ?_
        refine cS (by kernel_rfl : opAt F23.o8 1 = some (some 41, .call { callee := .value (.func 37), args := #[(.tmp 40)], argTypes := #[23] }, none)) rfl rfl (ent Try.call37 rfl) (sets_ok hF hk hs0 h10) ?_
        rintro vset w8 ⟨hs, hS0⟩
        refine ⟨trivial, ?_⟩
        replace hF := hF.st hs
        replace hT := hT.trans hs (by simp)
        replace hk := hk.st hs (by first | decide | (simp <;> omega))
        replace hr := hr.st hs (by first | decide | (simp <;> omega))
        replace hq := hq.st hs (by first | decide | (simp <;> omega))
        replace hres := hres.st hs (by first | decide | (simp <;> omega))
        refine yS (by kernel_rfl : opAt F23.o8 2 = some (some 11, .assign (.tmp 41), none)) rfl rfl (fun w' hS => val_assign rfl) ?_
        refine Sch.nil ?_
        refine run_seq (x := F23.c30) (y := F23.c31) (by kernel_rfl) ?_
        refine run_plain (id := 9) (ops := F23.o9) [(0, true), (1, false), (2, false), (3, true)] (by kernel_rfl) (by kernel_rfl) ?_
        refine yS (by kernel_rfl : opAt F23.o9 0 = some (some 42, .build 44 #[], none)) rfl rfl (fun w' hS => val_build (zs := [.slice none 0 0, .int .i64 0, .int .i64 0]) (ps := [(0, 1), (1, 1), (2, 1)]) (qs := []) (cs := [.slice none 0 0, .int .i64 0, .int .i64 0]) (by kernel_rfl) (by kernel_rfl) trivial rfl) ?_
        refine aS (by kernel_rfl : opAt F23.o9 1 = some (some 12, .alloc 44, none)) rfl rfl (a_alloc (cs := [.slice none 0 0, .int .i64 0, .int .i64 0]) hF 4 (by kernel_rfl)) ?_
        rintro _ w9 ⟨Cw9, bw9, rfl, hs, hb, hF⟩
        refine ⟨trivial, ?_⟩
        replace hT := hT.trans hs (by simp)
        replace hk := hk.st hs (by first | decide | (simp <;> omega))
        replace hr := hr.st hs (by first | decide | (simp <;> omega))
        replace hq := hq.st hs (by first | decide | (simp <;> omega))
        replace hres := hres.st hs (by first | decide | (simp <;> omega))
        replace hS0 := hS0.st hs (by first | decide | (simp <;> omega))
        refine aN (by kernel_rfl : opAt F23.o9 2 = some (none, .store 44 (.tmp 12) (.tmp 42), none)) rfl (a_storeAll (vs := [.slice none 0 0, .int .i64 0, .int .i64 0]) (n := 3) rfl rfl (by kernel_rfl) rfl rfl (by intro u hu; simp only [List.mem_cons, List.not_mem_nil, or_false] at hu; rcases hu with rfl | rfl | rfl <;> first | rfl | exact rfl) hb rfl) ?_
        rintro _ w10 ⟨rfl, hs, hb⟩
        refine ⟨trivial, ?_⟩
        replace hF := hF.st hs
        replace hT := hT.trans hs (by simp)
        replace hk := hk.st hs (by first | decide | (simp <;> omega))
        replace hr := hr.st hs (by first | decide | (simp <;> omega))
        replace hq := hq.st hs (by first | decide | (simp <;> omega))
        replace hres := hres.st hs (by first | decide | (simp <;> omega))
        replace hS0 := hS0.st hs (by first | decide | (simp <;> omega))
        refine yS (by kernel_rfl : opAt F23.o9 3 = some (some 13, .assign (.const (.bool false)), none)) rfl rfl (fun w' hS => val_assign rfl) ?_
        refine Sch.nil ?_
        refine run_seq (x := F23.c32) (y := F23.c60) (by kernel_rfl) ?_
        refine run_seq (x := F23.c33) (y := F23.c34) (by kernel_rfl) ?_
        refine run_plain (id := 10) (ops := F23.o10) [(0, true), (1, true), (2, true)] (by kernel_rfl) (by kernel_rfl) ?_
        refine yS (by kernel_rfl : opAt F23.o10 0 = some (some 43, .move (.tmp 2), none)) rfl rfl (fun w' hS => val_move rfl) ?_
        refine yS (by kernel_rfl : opAt F23.o10 1 = some (some 44, .call { callee := .builtin .len, args := #[(.tmp 43)], argTypes := #[22] }, none)) rfl rfl (fun w' hS => hq.lenV rfl Try.underlying22 w' ) ?_
        refine yS (by kernel_rfl : opAt F23.o10 2 = some (some 45, .move (.const (.int .i64 0)), none)) rfl rfl (fun w' hS => val_move rfl) ?_
        refine Sch.nil ?_
        refine run_block (x := F23.c35) (id := 1) (by kernel_rfl) ?_
        
        refine run_loop (ι := Nat × Value × (Nat → Nat)) (I := fun x w => x.1 ≤ ps.length ∧ Lim w x.2.2 ∧ Stp [2, 3, 4, 5, 6, 7, 8, 9] w₀ (col1 C) w x.2.2 ∧ RV w (Mc x.2.2) rs vr ∧ RV w (Mc x.2.2) ps vq ∧ RV w (Mc x.2.2) ((setsS ks).map fun z : Nat => (z : Int)) vset ∧ OwnB w x.2.2 3 bw1 (.cells [.slice none 0 0, .int .i64 0, .int .i64 0].toArray 44) ∧ OwnB w x.2.2 4 bw9 (.cells [x.2.1, .int .i64 (pq (qS ps) (bestS (fS ks rs) (qS ps) budget x.1)), .int .i64 (pq (fS ks rs) (bestS (fS ks rs) (qS ps) budget x.1))].toArray 44) ∧ RV w (Mc x.2.2) (pk (bestS (fS ks rs) (qS ps) budget x.1)) x.2.1) (e := fun x => [(1, vr), (3, .int .i64 budget), (8, .pointer (some ⟨bw1, 0, none⟩)), (11, vset), (12, .pointer (some ⟨bw9, 0, none⟩)), (13, .bool (decide ((bestS (fS ks rs) (qS ps) budget x.1).isSome = true))), (43, vq), (44, .int .i64 ps.length), (45, .int .i64 x.1)]) (m := fun x => ps.length - x.1) (x₀ := (0, .slice none 0 0, Cw9)) (body := F23.c36) (by kernel_rfl) (sub_cons 1 rfl rfl (sub_cons 3 rfl rfl (sub_cons 8 rfl rfl (sub_cons 11 rfl rfl (sub_cons 12 rfl rfl (sub_cons 13 rfl rfl (sub_cons 43 rfl rfl (sub_cons 44 rfl rfl (sub_cons 45 rfl rfl (sub_nil _)))))))))) ?_ ?_
        · exact ⟨Nat.zero_le _, hF, hT, hr, hq, hS0, hres, hb, rv_nil⟩
        intro ⟨n, vb, C1⟩ w11 hI next
        obtain ⟨hn, hF, hT, hr, hq, hS0, hres, hb, hvb⟩ := hI
        try simp only at hn hF hT hr hq hS0 hres hb hvb
        have next1 := next
        clear next
        show Run _ _ _ _ [(1, vr), (3, .int .i64 budget), (8, .pointer (some ⟨bw1, 0, none⟩)), (11, vset), (12, .pointer (some ⟨bw9, 0, none⟩)), (13, .bool (decide ((bestS (fS ks rs) (qS ps) budget n).isSome = true))), (43, vq), (44, .int .i64 ps.length), (45, .int .i64 n)] _ _
        have hbl : (bestS (fS ks rs) (qS ps) budget n).isSome = true ∨ ¬ (bestS (fS ks rs) (qS ps) budget n).isSome = true := Classical.em _
        refine run_seq (x := F23.c37) (y := F23.c38) (by kernel_rfl) ?_
        refine run_plain (id := 11) (ops := F23.o11) [(0, true)] (by kernel_rfl) (by kernel_rfl) ?_
        refine yS (by kernel_rfl : opAt F23.o11 0 = some (some 46, .binOp .lss 3 (.tmp 45) (.tmp 44) 3, none)) rfl rfl (fun w' hS => val_lss rfl rfl) ?_
        refine Sch.nil ?_
        refine run_seq (x := F23.c39) (y := F23.c42) (by kernel_rfl) ?_
        refine run_if (x := F23.c40) (y := F23.c41) (o := .tmp 46) (by kernel_rfl) rfl (fun h46 => ?_) (fun h46 => ?_)
        · skip
          have hnl : n < ps.length := by omega
          have hqn : qS ps n = ps[n] := by simp [qS, List.getD_eq_getElem?_getD, hnl]
          refine run_skip (by kernel_rfl) ?_
          refine run_seq (x := F23.c43) (y := F23.c59) (by kernel_rfl) ?_
          refine run_block (x := F23.c44) (id := 2) (by kernel_rfl) ?_
          refine run_seq (x := F23.c45) (y := F23.c46) (by kernel_rfl) ?_
          refine run_plain (id := 12) (ops := F23.o12) [(0, true), (1, true), (2, false), (3, true), (4, true)] (by kernel_rfl) (by kernel_rfl) ?_
          refine yS (by kernel_rfl : opAt F23.o12 0 = some (some 47, .move (.tmp 45), none)) rfl rfl (fun w' hS => val_move rfl) ?_
          refine iS (e := 3) (by kernel_rfl : opAt F23.o12 1 = some (some 48, .indexAddr 22 (.tmp 43) (.tmp 45), none)) rfl rfl hq rfl (by kernel_rfl) rfl (by omega) (by omega) ?_
          intro b48 o48 h48
          try simp only [Int.toNat_natCast] at h48
          refine lN (by kernel_rfl : opAt F23.o12 2 = some (some 49, .load 3 (.tmp 48), none)) rfl rfl trivial h48 (by kernel_rfl) rfl rfl ?_
          intro v49 g49
          obtain rfl := rv_int.1 g49
          refine yS (by kernel_rfl : opAt F23.o12 3 = some (some 14, .assign (.tmp 47), none)) rfl rfl (fun w' hS => val_assign rfl) ?_
          refine yS (by kernel_rfl : opAt F23.o12 4 = some (some 15, .assign (.tmp 49), none)) rfl rfl (fun w' hS => val_assign rfl) ?_
          refine Sch.nil ?_
          refine run_seq (x := F23.c47) (y := F23.c52) (by kernel_rfl) ?_
          refine run_seq (x := F23.c48) (y := F23.c49) (by kernel_rfl) ?_
          refine run_plain (id := 13) (ops := F23.o13) [(0, true), (1, true), (2, true)] (by kernel_rfl) (by kernel_rfl) ?_
          refine yS (by kernel_rfl : opAt F23.o13 0 = some (some 50, .move (.tmp 15), none)) rfl rfl (fun w' hS => val_move rfl) ?_
          refine yS (by kernel_rfl : opAt F23.o13 1 = some (some 51, .move (.tmp 3), none)) rfl rfl (fun w' hS => val_move rfl) ?_
          refine yS (by kernel_rfl : opAt F23.o13 2 = some (some 52, .binOp .gtr 3 (.tmp 50) (.tmp 51) 3, none)) rfl rfl (fun w' hS => val_gtr rfl rfl) ?_
          refine Sch.nil ?_
          refine run_if (x := F23.c50) (y := F23.c51) (o := .tmp 52) (by kernel_rfl) rfl (fun h52 => ?_) (fun h52 => ?_)
          · skip
            have hno := bestS_over (f := fS ks rs) (q := qS ps) (budget := budget) (n := n) (by rw [hqn]; exact h52)
            refine run_exit (id := 2) (by kernel_rfl) rfl ?_
            refine run_plain (id := 17) (ops := F23.o17) [(0, true), (1, true)] (by kernel_rfl) (by kernel_rfl) ?_
            refine yS (by kernel_rfl : opAt F23.o17 0 = some (some 78, .binOp .add 3 (.tmp 45) (.const (.int .i64 1)) 3, none)) rfl rfl (fun w' hS => val_addi rfl rfl (by omega) (by omega)) ?_
            refine yS (by kernel_rfl : opAt F23.o17 1 = some (some 45, .move (.tmp 78), none)) rfl rfl (fun w' hS => val_move rfl) ?_
            refine Sch.nil ?_
            refine kp (sub_cons 1 rfl rfl (sub_cons 3 rfl rfl (sub_cons 8 rfl rfl (sub_cons 11 rfl rfl (sub_cons 12 rfl rfl (sub_cons 13 rfl (eq_bool (by simp only; rw [hno])) (sub_cons 43 rfl rfl (sub_cons 44 rfl rfl (sub_cons 45 rfl (eq_int (by simp)) (sub_nil _)))))))))) (next1 (n + 1, vb, C1) _ ⟨(by first | omega | (simp only; omega)), hF, hT, hr, hq, hS0, hres, (by simp only; rw [hno]; exact hb), (by simp only; rw [hno]; exact hvb)⟩ (by first | omega | (simp only; omega)))
          · skip
            have h52q : ¬ budget < qS ps n := by rw [hqn]; exact h52
            refine run_skip (by kernel_rfl) ?_
            refine run_seq (x := F23.c53) (y := F23.c54) (by kernel_rfl) ?_
            refine run_plain (id := 14) (ops := F23.o14) [(0, true), (1, true), (2, true), (3, true), (4, true), (5, false), (6, false), (7, false), (8, false)] (by kernel_rfl) (by kernel_rfl) ?_
            refine yS (by kernel_rfl : opAt F23.o14 0 = some (some 53, .move (.tmp 14), none)) rfl rfl (fun w' hS => val_move rfl) ?_
            refine yS (by kernel_rfl : opAt F23.o14 1 = some (some 54, .move (.tmp 15), none)) rfl rfl (fun w' hS => val_move rfl) ?_
            refine yS (by kernel_rfl : opAt F23.o14 2 = some (some 55, .move (.tmp 11), none)) rfl rfl (fun w' hS => val_move rfl) ?_
            refine yS (by kernel_rfl : opAt F23.o14 3 = some (some 56, .move (.tmp 1), none)) rfl rfl (fun w' hS => val_move rfl) ?_
            refine yS (by kernel_rfl : opAt F23.o14 4 = some (some 57, .move (.tmp 14), none)) rfl rfl (fun w' hS => val_move rfl) ?_
            refine cS (by kernel_rfl : opAt F23.o14 5 = some (some 58, .call { callee := .value (.func 36), args := #[(.tmp 55), (.tmp 56), (.tmp 57)], argTypes := #[22, 22, 3] }, none)) rfl rfl (ent Try.call36 rfl) (missedS_ok (mask := n) hF hS0 hr hrs (by omega) (setsS_lt h10) (by omega) (by rw [setsS, List.length_map]; omega)) ?_
            rintro vw12 w12 ⟨rfl, hs⟩
            refine ⟨trivial, ?_⟩
            replace hF := hF.st hs
            replace hT := hT.trans hs (by simp)
            replace hr := hr.st hs (by first | decide | (simp <;> omega))
            replace hq := hq.st hs (by first | decide | (simp <;> omega))
            replace hS0 := hS0.st hs (by first | decide | (simp <;> omega))
            replace hres := hres.st hs (by first | decide | (simp <;> omega))
            replace hb := hb.st hs (by first | decide | (simp <;> omega))
            replace hvb := hvb.st hs (by first | decide | (simp <;> omega))
            replace h48 := h48.st hs (by first | decide | (simp <;> omega))
            rw [show missS (setsS ks) rs n = fS ks rs n from rfl, ← hqn]
            refine cS (by kernel_rfl : opAt F23.o14 6 = some (some 59, .call { callee := .value (.func 40), args := #[(.tmp 53), (.tmp 54), (.tmp 58)], argTypes := #[3, 3, 3] }, none)) rfl rfl (ent Try.call40 rfl) (plan_ok (mask := n) (q := qS ps n) (m := fS ks rs n) hF (by omega)) ?_
            rintro vw13 w13 ⟨up, rfl, hs, hup⟩
            refine ⟨trivial, ?_⟩
            replace hF := hF.st hs
            replace hT := hT.trans hs (by simp)
            replace hr := hr.st hs (by first | decide | (simp <;> omega))
            replace hq := hq.st hs (by first | decide | (simp <;> omega))
            replace hS0 := hS0.st hs (by first | decide | (simp <;> omega))
            replace hres := hres.st hs (by first | decide | (simp <;> omega))
            replace hb := hb.st hs (by first | decide | (simp <;> omega))
            replace hvb := hvb.st hs (by first | decide | (simp <;> omega))
            replace h48 := h48.st hs (by first | decide | (simp <;> omega))
            refine aS (by kernel_rfl : opAt F23.o14 7 = some (some 16, .alloc 44, none)) rfl rfl (a_alloc (cs := [.slice none 0 0, .int .i64 0, .int .i64 0]) hF 6 (by kernel_rfl)) ?_
            rintro _ w14 ⟨Cw14, bw14, rfl, hs, hp, hF⟩
            refine ⟨trivial, ?_⟩
            replace hT := hT.trans hs (by simp)
            replace hr := hr.st hs (by first | decide | (simp <;> omega))
            replace hq := hq.st hs (by first | decide | (simp <;> omega))
            replace hS0 := hS0.st hs (by first | decide | (simp <;> omega))
            replace hres := hres.st hs (by first | decide | (simp <;> omega))
            replace hb := hb.st hs (by first | decide | (simp <;> omega))
            replace hvb := hvb.st hs (by first | decide | (simp <;> omega))
            replace h48 := h48.st hs (by first | decide | (simp <;> omega))
            replace hup := hup.st hs (by first | decide | (simp <;> omega))
            refine aN (by kernel_rfl : opAt F23.o14 8 = some (none, .store 44 (.tmp 16) (.tmp 59), none)) rfl (a_storeAll (vs := [up, .int .i64 (qS ps n), .int .i64 (fS ks rs n)]) (n := 3) rfl rfl (by kernel_rfl) rfl rfl (by intro u hu; simp only [List.mem_cons, List.not_mem_nil, or_false] at hu; rcases hu with rfl | rfl | rfl <;> first | rfl | exact (hup.one rfl).2) hp rfl) ?_
            rintro _ w15 ⟨rfl, hs, hp⟩
            refine ⟨trivial, ?_⟩
            replace hF := hF.st hs
            replace hT := hT.trans hs (by simp)
            replace hr := hr.st hs (by first | decide | (simp <;> omega))
            replace hq := hq.st hs (by first | decide | (simp <;> omega))
            replace hS0 := hS0.st hs (by first | decide | (simp <;> omega))
            replace hres := hres.st hs (by first | decide | (simp <;> omega))
            replace hb := hb.st hs (by first | decide | (simp <;> omega))
            replace hvb := hvb.st hs (by first | decide | (simp <;> omega))
            replace h48 := h48.st hs (by first | decide | (simp <;> omega))
            replace hup := hup.st hs (by first | decide | (simp <;> omega))
            refine Sch.nil ?_
            refine run_seq (x := F23.c55) (y := F23.c56) (by kernel_rfl) ?_
            refine run_cut 76 (betB (fS ks rs) (qS ps) (bestS (fS ks rs) (qS ps) budget n) n) (Cw14) ?_ ?_
            · intro hcut
              by_cases hA : (bestS (fS ks rs) (qS ps) budget n).isSome = true
              · skip
                refine run_draw (id := 15) (ops := F23.o15) [] (Cw14) [(0, true), (1, true), (2, true), (3, true), (4, true), (5, true), (6, true), (8, true), (9, true), (10, true), (11, true), (7, false), (12, false), (13, false), (14, false), (15, true), (16, true)] Try_mixed (by kernel_rfl) (by kernel_rfl) (by kernel_rfl) ?_
                intro w16 hs
                replace hF := hF.st hs
                replace hT := hT.trans hs (by simp)
                replace hr := hr.st hs (by first | decide | (simp <;> omega))
                replace hq := hq.st hs (by first | decide | (simp <;> omega))
                replace hS0 := hS0.st hs (by first | decide | (simp <;> omega))
                replace hres := hres.st hs (by first | decide | (simp <;> omega))
                replace hb := hb.st hs (by first | decide | (simp <;> omega))
                replace hvb := hvb.st hs (by first | decide | (simp <;> omega))
                replace h48 := h48.st hs (by first | decide | (simp <;> omega))
                replace hup := hup.st hs (by first | decide | (simp <;> omega))
                replace hp := hp.st hs (by first | decide | (simp <;> omega))
                have hcs := hs
                have hR := Stp.refl [] w16 (Cw14)
                refine yS (by kernel_rfl : opAt F23.o15 0 = some (some 60, .move (.tmp 13), none)) rfl rfl (fun w' hS => val_move rfl) ?_
                refine yS (by kernel_rfl : opAt F23.o15 1 = some (some 61, .unOp .not 4 (.tmp 60), none)) rfl rfl (fun w' hS => val_F (val_notd rfl) (fun e => e hA)) ?_
                refine yS (by kernel_rfl : opAt F23.o15 2 = some (some 62, .move (.tmp 61), none)) rfl rfl (fun w' hS => val_move rfl) ?_
                refine yS (by kernel_rfl : opAt F23.o15 3 = some (some 63, .fieldAddr 44 (.tmp 16) 2, (some (2, false)))) rfl rfl (fun w' hS => val_fieldAddr (off := 2) (by kernel_rfl) rfl) ?_
                refine yS (by kernel_rfl : opAt F23.o15 4 = some (some 64, .load 3 (.tmp 63), (some (2, false)))) rfl rfl (fun w' hS => val_loadOwn (hp.stay hS (by decide)) (by kernel_rfl) rfl rfl) ?_
                refine yS (by kernel_rfl : opAt F23.o15 5 = some (some 65, .fieldAddr 44 (.tmp 12) 2, (some (2, false)))) rfl rfl (fun w' hS => val_fieldAddr (off := 2) (by kernel_rfl) rfl) ?_
                refine yS (by kernel_rfl : opAt F23.o15 6 = some (some 66, .load 3 (.tmp 65), (some (2, false)))) rfl rfl (fun w' hS => val_loadOwn (hb.stay hS (by decide)) (by kernel_rfl) rfl rfl) ?_
                refine yS (by kernel_rfl : opAt F23.o15 8 = some (some 68, .fieldAddr 44 (.tmp 16) 1, (some (2, false)))) rfl rfl (fun w' hS => val_fieldAddr (off := 1) (by kernel_rfl) rfl) ?_
                refine yS (by kernel_rfl : opAt F23.o15 9 = some (some 69, .load 3 (.tmp 68), (some (2, false)))) rfl rfl (fun w' hS => val_loadOwn (hp.stay hS (by decide)) (by kernel_rfl) rfl rfl) ?_
                refine yS (by kernel_rfl : opAt F23.o15 10 = some (some 70, .fieldAddr 44 (.tmp 12) 1, (some (2, false)))) rfl rfl (fun w' hS => val_fieldAddr (off := 1) (by kernel_rfl) rfl) ?_
                refine yS (by kernel_rfl : opAt F23.o15 11 = some (some 71, .load 3 (.tmp 70), (some (2, false)))) rfl rfl (fun w' hS => val_loadOwn (hb.stay hS (by decide)) (by kernel_rfl) rfl rfl) ?_
                refine cS (by kernel_rfl : opAt F23.o15 7 = some (some 67, .call { callee := .value (.func 30), args := #[(.tmp 64), (.tmp 66)], argTypes := #[3, 3] }, (some (2, false)))) rfl rfl (ent Try.call30 rfl) (cmpI_ok _ _ _) ?_
                rintro vw17 w17 ⟨rfl, rfl⟩
                refine ⟨hR.ext, ?_⟩
                refine cS (by kernel_rfl : opAt F23.o15 12 = some (some 72, .call { callee := .value (.func 30), args := #[(.tmp 69), (.tmp 71)], argTypes := #[3, 3] }, (some (2, false)))) rfl rfl (ent Try.call30 rfl) (cmpI_ok _ _ _) ?_
                rintro vw18 w18 ⟨rfl, rfl⟩
                refine ⟨hR.ext, ?_⟩
                refine aS (by kernel_rfl : opAt F23.o15 13 = some (some 73, .buildSlice 22 2 #[(0, (.tmp 67)), (1, (.tmp 72))], (some (2, false)))) rfl rfl (a_buildSlice (ys := ([cmpI (fS ks rs n) (pq (fS ks rs) (bestS (fS ks rs) (qS ps) budget n)), cmpI (qS ps n) (pq (qS ps) (bestS (fS ks rs) (qS ps) budget n))] : List Int)) (e := 3) (bytes := 8) hF (by kernel_rfl) rfl (by decide) (by decide) ⟨rfl, ⟨_, rfl, rv_int.2 rfl⟩, rfl, ⟨_, rfl, rv_int.2 rfl⟩, trivial⟩) ?_
                rintro v73 w19 ⟨hs, g73, hF⟩
                refine ⟨(hR.trans hs (by simp)).ext, ?_⟩
                replace hT := hT.trans hs (by simp)
                replace hr := hr.st hs (by first | decide | (simp <;> omega))
                replace hq := hq.st hs (by first | decide | (simp <;> omega))
                replace hS0 := hS0.st hs (by first | decide | (simp <;> omega))
                replace hres := hres.st hs (by first | decide | (simp <;> omega))
                replace hb := hb.st hs (by first | decide | (simp <;> omega))
                replace hvb := hvb.st hs (by first | decide | (simp <;> omega))
                replace h48 := h48.st hs (by first | decide | (simp <;> omega))
                replace hup := hup.st hs (by first | decide | (simp <;> omega))
                replace hp := hp.st hs (by first | decide | (simp <;> omega))
                replace hcs := hcs.trans hs (by simp)
                replace hR := hR.trans hs (by simp)
                refine cS (by kernel_rfl : opAt F23.o15 14 = some (some 74, .call { callee := .value (.func 29), args := #[(.tmp 73)], argTypes := #[22] }, (some (2, false)))) rfl rfl (ent Try.call29 rfl) (orI_ok g73) ?_
                rintro vw20 w20 ⟨rfl, rfl⟩
                refine ⟨hR.ext, ?_⟩
                refine yS (by kernel_rfl : opAt F23.o15 15 = some (some 75, .binOp .lss 3 (.tmp 74) (.const (.int .i64 0)) 3, (some (2, false)))) rfl rfl (fun w' hS => val_lss rfl rfl) ?_
                refine yS (by kernel_rfl : opAt F23.o15 16 = some (some 76, .pick (.tmp 62) (.const (.bool true)) (.tmp 75), none)) rfl rfl (fun w' hS => val_pick_f rfl rfl) ?_
                exact Sch.nil (hcut _ _ _ hcs rfl (by rw [betB_some hA]) (sub_skip rfl (sub_skip rfl (sub_skip rfl (sub_skip rfl (sub_skip rfl (sub_skip rfl (sub_skip rfl (sub_skip rfl (sub_skip rfl (sub_skip rfl (sub_skip rfl (sub_skip rfl (sub_skip rfl (sub_skip rfl (sub_skip rfl (sub_skip rfl (sub_skip rfl (Sub.refl _)))))))))))))))))))
              · skip
                refine run_draw (id := 15) (ops := F23.o15) [] (Cw14) [(0, true), (1, true), (2, true), (3, true), (4, true), (5, true), (6, true), (8, true), (9, true), (10, true), (11, true), (7, false), (12, false), (13, false), (14, false), (15, true), (16, true)] Try_mixed (by kernel_rfl) (by kernel_rfl) (by kernel_rfl) ?_
                intro w21 hs
                replace hF := hF.st hs
                replace hT := hT.trans hs (by simp)
                replace hr := hr.st hs (by first | decide | (simp <;> omega))
                replace hq := hq.st hs (by first | decide | (simp <;> omega))
                replace hS0 := hS0.st hs (by first | decide | (simp <;> omega))
                replace hres := hres.st hs (by first | decide | (simp <;> omega))
                replace hb := hb.st hs (by first | decide | (simp <;> omega))
                replace hvb := hvb.st hs (by first | decide | (simp <;> omega))
                replace h48 := h48.st hs (by first | decide | (simp <;> omega))
                replace hup := hup.st hs (by first | decide | (simp <;> omega))
                replace hp := hp.st hs (by first | decide | (simp <;> omega))
                have hcs := hs
                have hR := Stp.refl [] w21 (Cw14)
                refine yS (by kernel_rfl : opAt F23.o15 0 = some (some 60, .move (.tmp 13), none)) rfl rfl (fun w' hS => val_move rfl) ?_
                refine yS (by kernel_rfl : opAt F23.o15 1 = some (some 61, .unOp .not 4 (.tmp 60), none)) rfl rfl (fun w' hS => val_T (val_notd rfl) hA) ?_
                refine yS (by kernel_rfl : opAt F23.o15 2 = some (some 62, .move (.tmp 61), none)) rfl rfl (fun w' hS => val_move rfl) ?_
                refine pS (by kernel_rfl : opAt F23.o15 3 = some (some 63, .fieldAddr 44 (.tmp 16) 2, (some (2, false)))) rfl rfl ?_
                refine pS (by kernel_rfl : opAt F23.o15 4 = some (some 64, .load 3 (.tmp 63), (some (2, false)))) rfl rfl ?_
                refine pS (by kernel_rfl : opAt F23.o15 5 = some (some 65, .fieldAddr 44 (.tmp 12) 2, (some (2, false)))) rfl rfl ?_
                refine pS (by kernel_rfl : opAt F23.o15 6 = some (some 66, .load 3 (.tmp 65), (some (2, false)))) rfl rfl ?_
                refine pS (by kernel_rfl : opAt F23.o15 8 = some (some 68, .fieldAddr 44 (.tmp 16) 1, (some (2, false)))) rfl rfl ?_
                refine pS (by kernel_rfl : opAt F23.o15 9 = some (some 69, .load 3 (.tmp 68), (some (2, false)))) rfl rfl ?_
                refine pS (by kernel_rfl : opAt F23.o15 10 = some (some 70, .fieldAddr 44 (.tmp 12) 1, (some (2, false)))) rfl rfl ?_
                refine pS (by kernel_rfl : opAt F23.o15 11 = some (some 71, .load 3 (.tmp 70), (some (2, false)))) rfl rfl ?_
                refine pW (by kernel_rfl : opAt F23.o15 7 = some (some 67, .call { callee := .value (.func 30), args := #[(.tmp 64), (.tmp 66)], argTypes := #[3, 3] }, (some (2, false)))) rfl rfl hR.ext ?_
                refine pW (by kernel_rfl : opAt F23.o15 12 = some (some 72, .call { callee := .value (.func 30), args := #[(.tmp 69), (.tmp 71)], argTypes := #[3, 3] }, (some (2, false)))) rfl rfl hR.ext ?_
                refine pW (by kernel_rfl : opAt F23.o15 13 = some (some 73, .buildSlice 22 2 #[(0, (.tmp 67)), (1, (.tmp 72))], (some (2, false)))) rfl rfl hR.ext ?_
                refine pW (by kernel_rfl : opAt F23.o15 14 = some (some 74, .call { callee := .value (.func 29), args := #[(.tmp 73)], argTypes := #[22] }, (some (2, false)))) rfl rfl hR.ext ?_
                refine pS (by kernel_rfl : opAt F23.o15 15 = some (some 75, .binOp .lss 3 (.tmp 74) (.const (.int .i64 0)) 3, (some (2, false)))) rfl rfl ?_
                refine yS (by kernel_rfl : opAt F23.o15 16 = some (some 76, .pick (.tmp 62) (.const (.bool true)) (.tmp 75), none)) rfl rfl (fun w' hS => val_pick_t rfl rfl) ?_
                exact Sch.nil (hcut _ _ _ hcs rfl (by rw [betB_none hA]) (sub_skip rfl (sub_skip rfl (sub_skip rfl (sub_skip rfl (sub_skip rfl (sub_skip rfl (sub_skip rfl (sub_skip rfl (sub_skip rfl (sub_skip rfl (sub_skip rfl (sub_skip rfl (sub_skip rfl (sub_skip rfl (sub_skip rfl (sub_skip rfl (sub_skip rfl (Sub.refl _)))))))))))))))))))
            intro w22 hs
            replace hF := hF.st hs
            replace hT := hT.trans hs (by simp)
            replace hr := hr.st hs (by first | decide | (simp <;> omega))
            replace hq := hq.st hs (by first | decide | (simp <;> omega))
            replace hS0 := hS0.st hs (by first | decide | (simp <;> omega))
            replace hres := hres.st hs (by first | decide | (simp <;> omega))
            replace hb := hb.st hs (by first | decide | (simp <;> omega))
            replace hvb := hvb.st hs (by first | decide | (simp <;> omega))
            replace h48 := h48.st hs (by first | decide | (simp <;> omega))
            replace hup := hup.st hs (by first | decide | (simp <;> omega))
            replace hp := hp.st hs (by first | decide | (simp <;> omega))
            refine run_cond (x := F23.c57) (y := F23.c58) (o := .tmp 76) (by kernel_rfl) rfl (fun h76 => ?_) (fun h76 => ?_)
            · skip
              have hno := bestS_yes h52q h76
              refine run_plain (id := 16) (ops := F23.o16) [(0, false), (1, false), (2, true)] (by kernel_rfl) (by kernel_rfl) ?_
              refine nS (by kernel_rfl : opAt F23.o16 0 = some (some 77, .load 44 (.tmp 16), none)) rfl rfl trivial (val_loadOwnAgg (n := 3) hp.at_ (by kernel_rfl) (by kernel_rfl) rfl rfl rfl) ?_
              refine aN (by kernel_rfl : opAt F23.o16 1 = some (none, .store 44 (.tmp 12) (.tmp 77), none)) rfl (a_storeAll (vs := [up, .int .i64 (qS ps n), .int .i64 (fS ks rs n)]) (n := 3) rfl rfl (by kernel_rfl) rfl rfl (by intro u hu; simp only [List.mem_cons, List.not_mem_nil, or_false] at hu; rcases hu with rfl | rfl | rfl <;> first | rfl | exact (hup.one rfl).2) hb rfl) ?_
              rintro _ w23 ⟨rfl, hs, hb⟩
              refine ⟨trivial, ?_⟩
              replace hF := hF.st hs
              replace hT := hT.trans hs (by simp)
              replace hr := hr.st hs (by first | decide | (simp <;> omega))
              replace hq := hq.st hs (by first | decide | (simp <;> omega))
              replace hS0 := hS0.st hs (by first | decide | (simp <;> omega))
              replace hres := hres.st hs (by first | decide | (simp <;> omega))
              replace hvb := hvb.st hs (by first | decide | (simp <;> omega))
              replace h48 := h48.st hs (by first | decide | (simp <;> omega))
              replace hup := hup.st hs (by first | decide | (simp <;> omega))
              replace hp := hp.st hs (by first | decide | (simp <;> omega))
              refine yS (by kernel_rfl : opAt F23.o16 2 = some (some 13, .assign (.const (.bool true)), none)) rfl rfl (fun w' hS => val_assign rfl) ?_
              refine Sch.nil ?_
              refine run_inBlock ?_
              refine run_plain (id := 17) (ops := F23.o17) [(0, true), (1, true)] (by kernel_rfl) (by kernel_rfl) ?_
              refine yS (by kernel_rfl : opAt F23.o17 0 = some (some 78, .binOp .add 3 (.tmp 45) (.const (.int .i64 1)) 3, none)) rfl rfl (fun w' hS => val_addi rfl rfl (by omega) (by omega)) ?_
              refine yS (by kernel_rfl : opAt F23.o17 1 = some (some 45, .move (.tmp 78), none)) rfl rfl (fun w' hS => val_move rfl) ?_
              refine Sch.nil ?_
              refine kp (sub_cons 1 rfl rfl (sub_cons 3 rfl rfl (sub_cons 8 rfl rfl (sub_cons 11 rfl rfl (sub_cons 12 rfl rfl (sub_cons 13 rfl (eq_bool (by simp only; rw [hno]; rfl)) (sub_cons 43 rfl rfl (sub_cons 44 rfl rfl (sub_cons 45 rfl (eq_int (by simp)) (sub_nil _)))))))))) (next1 (n + 1, up, Cw14) _ ⟨(by first | omega | (simp only; omega)), hF, hT, hr, hq, hS0, hres, (by simp only; rw [hno]; exact hb), (by simp only; rw [hno]; exact hup)⟩ (by first | omega | (simp only; omega)))
            · skip
              have hno := bestS_no h52q h76
              refine run_skip (by kernel_rfl) ?_
              refine run_inBlock ?_
              refine run_plain (id := 17) (ops := F23.o17) [(0, true), (1, true)] (by kernel_rfl) (by kernel_rfl) ?_
              refine yS (by kernel_rfl : opAt F23.o17 0 = some (some 78, .binOp .add 3 (.tmp 45) (.const (.int .i64 1)) 3, none)) rfl rfl (fun w' hS => val_addi rfl rfl (by omega) (by omega)) ?_
              refine yS (by kernel_rfl : opAt F23.o17 1 = some (some 45, .move (.tmp 78), none)) rfl rfl (fun w' hS => val_move rfl) ?_
              refine Sch.nil ?_
              refine kp (sub_cons 1 rfl rfl (sub_cons 3 rfl rfl (sub_cons 8 rfl rfl (sub_cons 11 rfl rfl (sub_cons 12 rfl rfl (sub_cons 13 rfl (eq_bool (by simp only; rw [hno])) (sub_cons 43 rfl rfl (sub_cons 44 rfl rfl (sub_cons 45 rfl (eq_int (by simp)) (sub_nil _)))))))))) (next1 (n + 1, vb, Cw14) _ ⟨(by first | omega | (simp only; omega)), hF, hT, hr, hq, hS0, hres, (by simp only; rw [hno]; exact hb), (by simp only; rw [hno]; exact hvb)⟩ (by first | omega | (simp only; omega)))
        · skip
          obtain rfl : n = ps.length := by omega
          refine run_exit (id := 1) (by kernel_rfl) rfl ?_
          refine run_seq (x := F23.c61) (y := F23.c68) (by kernel_rfl) ?_
          refine run_seq (x := F23.c62) (y := F23.c63) (by kernel_rfl) ?_
          refine run_plain (id := 18) (ops := F23.o18) [(0, true), (1, true)] (by kernel_rfl) (by kernel_rfl) ?_
          refine yS (by kernel_rfl : opAt F23.o18 0 = some (some 79, .move (.tmp 13), none)) rfl rfl (fun w' hS => val_move rfl) ?_
          refine yS (by kernel_rfl : opAt F23.o18 1 = some (some 80, .unOp .not 4 (.tmp 79), none)) rfl rfl (fun w' hS => val_notd rfl) ?_
          refine Sch.nil ?_
          refine run_if (x := F23.c64) (y := F23.c67) (o := .tmp 80) (by kernel_rfl) rfl (fun h80 => ?_) (fun h80 => ?_)
          · skip
            refine run_seq (x := F23.c65) (y := F23.c66) (by kernel_rfl) ?_
            refine run_plain (id := 19) (ops := F23.o19) [(0, true), (1, false), (2, true)] (by kernel_rfl) (by kernel_rfl) ?_
            refine yS (by kernel_rfl : opAt F23.o19 0 = some (some 81, .build 44 #[], none)) rfl rfl (fun w' hS => val_build (zs := [.slice none 0 0, .int .i64 0, .int .i64 0]) (ps := [(0, 1), (1, 1), (2, 1)]) (qs := []) (cs := [.slice none 0 0, .int .i64 0, .int .i64 0]) (by kernel_rfl) (by kernel_rfl) trivial rfl) ?_
            refine aN (by kernel_rfl : opAt F23.o19 1 = some (none, .store 44 (.tmp 8) (.tmp 81), none)) rfl (a_storeAll (vs := [.slice none 0 0, .int .i64 0, .int .i64 0]) (n := 3) rfl rfl (by kernel_rfl) rfl rfl (by intro u hu; simp only [List.mem_cons, List.not_mem_nil, or_false] at hu; rcases hu with rfl | rfl | rfl <;> first | rfl | exact rfl) hres rfl) ?_
            rintro _ w24 ⟨rfl, hs, hres⟩
            refine ⟨trivial, ?_⟩
            replace hF := hF.st hs
            replace hT := hT.trans hs (by simp)
            replace hr := hr.st hs (by first | decide | (simp <;> omega))
            replace hq := hq.st hs (by first | decide | (simp <;> omega))
            replace hS0 := hS0.st hs (by first | decide | (simp <;> omega))
            replace hb := hb.st hs (by first | decide | (simp <;> omega))
            replace hvb := hvb.st hs (by first | decide | (simp <;> omega))
            refine yS (by kernel_rfl : opAt F23.o19 2 = some (some 9, .assign (.const (.int .i64 13)), none)) rfl rfl (fun w' hS => val_assign rfl) ?_
            refine Sch.nil ?_
            refine run_retC2 (by kernel_rfl) Try.func23 Try.results23 rfl rfl hres.at_ (by kernel_rfl) (by kernel_rfl) rfl ?_
            unfold chooseS
            rw [if_neg h21, if_neg (by omega), if_neg h32]
            cases hbs : bestS (fS ks rs) (qS ps) budget ps.length with
            | none => exact ⟨_, rfl, hT.out1 (by decide), rv_nil⟩
            | some m => rw [hbs] at h80; simp at h80
          · skip
            refine run_skip (by kernel_rfl) ?_
            refine run_seq (x := F23.c69) (y := F23.c70) (by kernel_rfl) ?_
            refine run_plain (id := 20) (ops := F23.o20) [(0, false), (1, false), (2, true)] (by kernel_rfl) (by kernel_rfl) ?_
            refine nS (by kernel_rfl : opAt F23.o20 0 = some (some 82, .load 44 (.tmp 12), none)) rfl rfl trivial (val_loadOwnAgg (n := 3) hb.at_ (by kernel_rfl) (by kernel_rfl) rfl rfl rfl) ?_
            refine aN (by kernel_rfl : opAt F23.o20 1 = some (none, .store 44 (.tmp 8) (.tmp 82), none)) rfl (a_storeAll (vs := [vb, .int .i64 (pq (qS ps) (bestS (fS ks rs) (qS ps) budget ps.length)), .int .i64 (pq (fS ks rs) (bestS (fS ks rs) (qS ps) budget ps.length))]) (n := 3) rfl rfl (by kernel_rfl) rfl rfl (by intro u hu; simp only [List.mem_cons, List.not_mem_nil, or_false] at hu; rcases hu with rfl | rfl | rfl <;> first | rfl | exact (hvb.one rfl).2) hres rfl) ?_
            rintro _ w25 ⟨rfl, hs, hres⟩
            refine ⟨trivial, ?_⟩
            replace hF := hF.st hs
            replace hT := hT.trans hs (by simp)
            replace hr := hr.st hs (by first | decide | (simp <;> omega))
            replace hq := hq.st hs (by first | decide | (simp <;> omega))
            replace hS0 := hS0.st hs (by first | decide | (simp <;> omega))
            replace hb := hb.st hs (by first | decide | (simp <;> omega))
            replace hvb := hvb.st hs (by first | decide | (simp <;> omega))
            refine yS (by kernel_rfl : opAt F23.o20 2 = some (some 9, .assign (.const (.int .i64 0)), none)) rfl rfl (fun w' hS => val_assign rfl) ?_
            refine Sch.nil ?_
            refine run_retC2 (by kernel_rfl) Try.func23 Try.results23 rfl rfl hres.at_ (by kernel_rfl) (by kernel_rfl) rfl ?_
            unfold chooseS
            rw [if_neg h21, if_neg (by omega), if_neg h32]
            cases hbs : bestS (fS ks rs) (qS ps) budget ps.length with
            | none => rw [hbs] at h80; simp at h80
            | some m =>
              rw [hbs] at hvb
              exact ⟨_, rfl, hT.out1 (by decide), hvb.out hT hF0 (Mc_col1 C)⟩
end Go.Proofs.Ytpmokjccfaakfaa

