/- Steps through functions of the program. -/
import Derived.Test.YtfmdkdfhnkennaaKC5
import Derived.Test.YtfmdkdfhnkennaaKComp2
set_option linter.unusedVariables false
set_option linter.unusedSimpArgs false
set_option maxRecDepth 100000
set_option maxHeartbeats 400000
namespace Go.Proofs.Ytfmdkdfhnkennaa
open Go.K Go.K.Rep

namespace F19
noncomputable def c0 : Code := bodyOf Try.f19
noncomputable def c1 : Code := cl c0
noncomputable def o0 : Array Oper := rops c1
noncomputable def c2 : Code := cr c0
noncomputable def c3 : Code := cl c2
noncomputable def c4 : Code := cl c3
noncomputable def o1 : Array Oper := rops c4
noncomputable def c5 : Code := cr c3
noncomputable def c6 : Code := cl c5
noncomputable def o2 : Array Oper := rops c6
noncomputable def c7 : Code := cr c5
noncomputable def c8 : Code := cl c7
noncomputable def c9 : Code := cl c8
noncomputable def o3 : Array Oper := rops c9
noncomputable def c10 : Code := cr c8
noncomputable def c11 : Code := cr c7
noncomputable def c12 : Code := cr c2
noncomputable def c13 : Code := cl c12
noncomputable def o4 : Array Oper := rops c13
noncomputable def c14 : Code := cr c12
noncomputable def c15 : Code := cl c14
noncomputable def o5 : Array Oper := rops c15
noncomputable def c16 : Code := cr c14
noncomputable def c17 : Code := cl c16
noncomputable def o6 : Array Oper := rops c17
noncomputable def c18 : Code := cr c16
noncomputable def c19 : Code := cl c18
noncomputable def c20 : Code := cl c19
noncomputable def o7 : Array Oper := rops c20
noncomputable def c21 : Code := cr c19
noncomputable def c22 : Code := cl c21
noncomputable def c23 : Code := cl c22
noncomputable def c24 : Code := cl c23
noncomputable def o8 : Array Oper := rops c24
noncomputable def c25 : Code := cr c23
noncomputable def c26 : Code := cl c25
noncomputable def c27 : Code := cl c26
noncomputable def c28 : Code := cr c26
noncomputable def c29 : Code := cr c25
noncomputable def c30 : Code := cl c29
noncomputable def c31 : Code := cl c30
noncomputable def c32 : Code := cl c31
noncomputable def o9 : Array Oper := rops c32
noncomputable def c33 : Code := cr c31
noncomputable def c34 : Code := cl c33
noncomputable def o10 : Array Oper := rops c34
noncomputable def c35 : Code := cr c33
noncomputable def c36 : Code := cl c35
noncomputable def o11 : Array Oper := rops c36
noncomputable def c37 : Code := cr c35
noncomputable def c38 : Code := cl c37
noncomputable def c39 : Code := cl c38
noncomputable def o12 : Array Oper := rops c39
noncomputable def c40 : Code := cr c38
noncomputable def c41 : Code := cl c40
noncomputable def c42 : Code := cl c41
noncomputable def o13 : Array Oper := rops c42
noncomputable def c43 : Code := cr c41
noncomputable def c44 : Code := cl c43
noncomputable def o14 : Array Oper := rops c44
noncomputable def c45 : Code := cr c43
noncomputable def o15 : Array Oper := rops c45
noncomputable def c46 : Code := cr c40
noncomputable def c47 : Code := cr c37
noncomputable def o16 : Array Oper := rops c47
noncomputable def c48 : Code := cr c29
noncomputable def o17 : Array Oper := rops c48
noncomputable def c49 : Code := cr c18
noncomputable def c50 : Code := cl c49
noncomputable def o18 : Array Oper := rops c50
noncomputable def c51 : Code := cr c49
end F19
/-- 'Of'. -/
theorem of_ok {w₀ : World} {C : Nat → Nat} {l : List Bond} {vl : Value} (hF : Lim w₀ C) (hl : RV w₀ (Mc C) l vl) (hlen : l.length ≤ 100000) :
    Calls Try.prog 19 #[vl] w₀ (Ret fun v w' => ∃ u, v = .tuple #[u, .int .i64 (checkS l)] ∧ Stp [] w₀ C w' C ∧ (checkS l ≠ 0 → u = .slice none 0 0) ∧ RV w' (Mc C) (if checkS l = 0 then partsS l else []) u) := by
  have hF0 := hF
  have hT := Stp.refl [2, 3, 4, 5, 6, 7, 8, 9] w₀ (col1 C)
  replace hF := hF.col1
  replace hl : RV w₀ (Mc (col1 C)) l vl := by rw [Mc_col1]; exact hl
  refine calls_start (c := F19.c0) (N := 59) [vl] Try.func19 (by kernel_rfl) (by kernel_rfl) (by kernel_rfl) ?_
  show Run _ _ _ _ [(0, vl)] _ _
  refine run_seq (x := F19.c1) (y := F19.c2) (by kernel_rfl) ?_
  refine run_plain (id := 0) (ops := F19.o0) [(0, true), (1, true)] (by kernel_rfl) (by kernel_rfl) ?_
  refine yS (by kernel_rfl : opAt F19.o0 0 = some (some 2, .assign (.const (.slice none 0 0)), none)) rfl rfl (fun w' hS => val_assign rfl) ?_
  refine yS (by kernel_rfl : opAt F19.o0 1 = some (some 3, .assign (.const (.int .i64 0)), none)) rfl rfl (fun w' hS => val_assign rfl) ?_
  refine Sch.nil ?_
  refine run_seq (x := F19.c3) (y := F19.c12) (by kernel_rfl) ?_
  refine run_seq (x := F19.c4) (y := F19.c5) (by kernel_rfl) ?_
  refine run_plain (id := 1) (ops := F19.o1) [(0, true), (1, false), (2, true)] (by kernel_rfl) (by kernel_rfl) ?_
  refine yS (by kernel_rfl : opAt F19.o1 0 = some (some 13, .move (.tmp 0), none)) rfl rfl (fun w' hS => val_move rfl) ?_
  refine cS (by kernel_rfl : opAt F19.o1 1 = some (some 14, .call { callee := .value (.func 14), args := #[(.tmp 13)], argTypes := #[23] }, none)) rfl rfl (ent Try.call14 rfl) (check_ok hF hl) ?_
  rintro vw1 w1 ⟨rfl, hs⟩
  refine ⟨trivial, ?_⟩
  replace hF := hF.st hs
  replace hT := hT.trans hs (by simp)
  replace hl := hl.st hs (by first | decide | (simp <;> omega))
  refine yS (by kernel_rfl : opAt F19.o1 2 = some (some 4, .assign (.tmp 14), none)) rfl rfl (fun w' hS => val_assign rfl) ?_
  refine Sch.nil ?_
  refine run_seq (x := F19.c6) (y := F19.c7) (by kernel_rfl) ?_
  refine run_plain (id := 2) (ops := F19.o2) [(0, true), (1, true)] (by kernel_rfl) (by kernel_rfl) ?_
  refine yS (by kernel_rfl : opAt F19.o2 0 = some (some 15, .move (.tmp 4), none)) rfl rfl (fun w' hS => val_move rfl) ?_
  refine yS (by kernel_rfl : opAt F19.o2 1 = some (some 16, .binOp .neq 35 (.tmp 15) (.const (.int .i64 0)) 35, none)) rfl rfl (fun w' hS => val_neq rfl rfl) ?_
  refine Sch.nil ?_
  refine run_if (x := F19.c8) (y := F19.c11) (o := .tmp 16) (by kernel_rfl) rfl (fun h16 => ?_) (fun h16 => ?_)
  · skip
    refine run_seq (x := F19.c9) (y := F19.c10) (by kernel_rfl) ?_
    refine run_plain (id := 3) (ops := F19.o3) [(0, true), (1, true), (2, true)] (by kernel_rfl) (by kernel_rfl) ?_
    refine yS (by kernel_rfl : opAt F19.o3 0 = some (some 17, .move (.tmp 4), none)) rfl rfl (fun w' hS => val_move rfl) ?_
    refine yS (by kernel_rfl : opAt F19.o3 1 = some (some 2, .assign (.const (.slice none 0 0)), none)) rfl rfl (fun w' hS => val_assign rfl) ?_
    refine yS (by kernel_rfl : opAt F19.o3 2 = some (some 3, .assign (.tmp 17), none)) rfl rfl (fun w' hS => val_assign rfl) ?_
    refine Sch.nil ?_
    refine run_ret2 (by kernel_rfl) Try.func19 Try.results19 rfl rfl ?_
    exact ⟨_, rfl, hT.out1 (by decide), fun _ => rfl, by rw [if_neg h16]; exact rv_nil⟩
  · skip
    have hck : checkS l = 0 := Classical.not_not.1 h16
    have hl4 := checkS_len hck
    have hrl2 := refsS_len l
    refine run_skip (by kernel_rfl) ?_
    refine run_seq (x := F19.c13) (y := F19.c14) (by kernel_rfl) ?_
    refine run_plain (id := 4) (ops := F19.o4) [(0, true), (1, false), (2, true)] (by kernel_rfl) (by kernel_rfl) ?_
    refine yS (by kernel_rfl : opAt F19.o4 0 = some (some 18, .move (.tmp 0), none)) rfl rfl (fun w' hS => val_move rfl) ?_
    refine cS (by kernel_rfl : opAt F19.o4 1 = some (some 19, .call { callee := .value (.func 38), args := #[(.tmp 18)], argTypes := #[23] }, none)) rfl rfl (ent Try.call38 rfl) (grown_ok hF hl hlen 4 (by decide)) ?_
    rintro vw2 w2 ⟨Cg, bf, uf, df, rfl, hs, hF, hm, hf, hdom⟩
    refine ⟨trivial, ?_⟩
    replace hT := hT.trans hs (by simp)
    replace hl := hl.st hs (by first | decide | (simp <;> omega))
    refine yS (by kernel_rfl : opAt F19.o4 2 = some (some 5, .assign (.tmp 19), none)) rfl rfl (fun w' hS => val_assign rfl) ?_
    refine Sch.nil ?_
    refine run_seq (x := F19.c15) (y := F19.c16) (by kernel_rfl) ?_
    refine run_plain (id := 5) (ops := F19.o5) [(0, false), (1, true)] (by kernel_rfl) (by kernel_rfl) ?_
    refine aS (by kernel_rfl : opAt F19.o5 0 = some (some 20, .makeMap 69 none, none)) rfl rfl (a_makeMap hF 5 kvC vvN) ?_
    rintro _ wm ⟨Cm, ba, rfl, hs, hat, hF⟩
    refine ⟨trivial, ?_⟩
    replace hT := hT.trans hs (by simp)
    replace hl := hl.st hs (by first | decide | (simp <;> omega))
    replace hm := hm.st hs (by first | decide | (simp <;> omega))
    refine yS (by kernel_rfl : opAt F19.o5 1 = some (some 6, .assign (.tmp 20), none)) rfl rfl (fun w' hS => val_assign rfl) ?_
    refine Sch.nil ?_
    refine run_seq (x := F19.c17) (y := F19.c18) (by kernel_rfl) ?_
    refine run_plain (id := 6) (ops := F19.o6) [(0, true)] (by kernel_rfl) (by kernel_rfl) ?_
    refine yS (by kernel_rfl : opAt F19.o6 0 = some (some 7, .assign (.const (.slice none 0 0)), none)) rfl rfl (fun w' hS => val_assign rfl) ?_
    refine Sch.nil ?_
    refine run_seq (x := F19.c19) (y := F19.c49) (by kernel_rfl) ?_
    refine run_seq (x := F19.c20) (y := F19.c21) (by kernel_rfl) ?_
    refine run_plain (id := 7) (ops := F19.o7) [(0, true), (1, false), (2, true), (3, true)] (by kernel_rfl) (by kernel_rfl) ?_
    refine yS (by kernel_rfl : opAt F19.o7 0 = some (some 21, .move (.tmp 0), none)) rfl rfl (fun w' hS => val_move rfl) ?_
    refine cS (by kernel_rfl : opAt F19.o7 1 = some (some 22, .call { callee := .value (.func 17), args := #[(.tmp 21)], argTypes := #[23] }, none)) rfl rfl (ent Try.call17 rfl) (refs_ok hF hl hlen) ?_
    rintro vR w3 ⟨hs, hrs⟩
    refine ⟨trivial, ?_⟩
    replace hF := hF.st hs
    replace hT := hT.trans hs (by simp)
    replace hl := hl.st hs (by first | decide | (simp <;> omega))
    replace hm := hm.st hs (by first | decide | (simp <;> omega))
    replace hat := hat.st hs (by first | decide | (simp <;> omega))
    refine yS (by kernel_rfl : opAt F19.o7 2 = some (some 23, .call { callee := .builtin .len, args := #[(.tmp 22)], argTypes := #[38] }, none)) rfl rfl (fun w' hS => hrs.lenV rfl Try.underlying38 w' ) ?_
    refine yS (by kernel_rfl : opAt F19.o7 3 = some (some 24, .move (.const (.int .i64 0)), none)) rfl rfl (fun w' hS => val_move rfl) ?_
    refine Sch.nil ?_
    refine run_block (x := F19.c22) (id := 0) (by kernel_rfl) ?_
    replace hT : Stp ([2, 3, 4, 5, 6, 7, 8, 9] ++ List.range' 10 (2 * l.length + 1)) w₀ (col1 C) _ _ := hT.mono (by intro c hc; exact List.mem_append_left _ hc)
    refine run_loop (ι := Nat × (List (Couple × Couple)) × (List (Couple × Nat)) × Value × (Nat → Value) × (Nat → Nat)) (I := fun x w => x.1 ≤ (refsS l).length ∧ Frst x.2.1 (rhoS l) df ∧ Dom x.2.1 (refsS l) ∧ AtIs x.2.2.1 ((firstsS (rhoS l) ((refsS l).take x.1)).map (rhoS l)) ∧ Lim w x.2.2.2.2.2 ∧ Stp ([2, 3, 4, 5, 6, 7, 8, 9] ++ List.range' 10 (2 * l.length + 1)) w₀ (col1 C) w x.2.2.2.2.2 ∧ RV w (Mc x.2.2.2.2.2) (refsS l) vR ∧ OwnM w x.2.2.2.2.2 4 bf kvC kvC x.2.1 ∧ OwnM w x.2.2.2.2.2 5 ba kvC vvN x.2.2.1 ∧ OwnL w x.2.2.2.2.2 3 38 x.2.2.2.1 (svsF x.2.2.2.2.1 (firstsS (rhoS l) ((refsS l).take x.1)).length) ∧ (∀ i, i < (firstsS (rhoS l) ((refsS l).take x.1)).length → OwnL w x.2.2.2.2.2 (10 + i) 25 (x.2.2.2.2.1 i) ((groupS (rhoS l) ((refsS l).take x.1)).getD i []))) (e := fun x => [(5, .map (some bf)), (6, .map (some ba)), (7, x.2.2.2.1), (22, vR), (23, .int .i64 (refsS l).length), (24, .int .i64 x.1)]) (m := fun x => (refsS l).length - x.1) (x₀ := (0, uf, [], .slice none 0 0, fun _ => .slice none 0 0, Cm)) (body := F19.c23) (by kernel_rfl) (sub_cons 5 rfl rfl (sub_cons 6 rfl rfl (sub_cons 7 rfl rfl (sub_cons 22 rfl rfl (sub_cons 23 rfl rfl (sub_cons 24 rfl rfl (sub_nil _))))))) ?_ ?_
    · exact ⟨Nat.zero_le _, hf, hdom, AtIs.nil, hF, hT, hrs, hm, hat, OwnL.nil, fun i hi => by simp [firstsS] at hi⟩
    intro ⟨k, uf, ua, vo, vf, C1⟩ w4 hI next
    obtain ⟨hk, hf, hdom, hai, hF, hT, hrs, hm, hat, ho, hin⟩ := hI
    try simp only at hk hf hdom hai hF hT hrs hm hat ho hin
    have next1 := next
    clear next
    show Run _ _ _ _ [(5, .map (some bf)), (6, .map (some ba)), (7, vo), (22, vR), (23, .int .i64 (refsS l).length), (24, .int .i64 k)] _ _
    have hns := (firsts_sub (rhoS l) ((refsS l).take k)).length_le
    rw [List.length_take] at hns
    obtain ⟨n, hn⟩ : ∃ n, n = (firstsS (rhoS l) ((refsS l).take k)).length := ⟨_, rfl⟩
    rw [← hn] at ho hin hns
    have hsl := svsF_len vf n
    refine run_seq (x := F19.c24) (y := F19.c25) (by kernel_rfl) ?_
    refine run_plain (id := 8) (ops := F19.o8) [(0, true)] (by kernel_rfl) (by kernel_rfl) ?_
    refine yS (by kernel_rfl : opAt F19.o8 0 = some (some 25, .binOp .lss 3 (.tmp 24) (.tmp 23) 3, none)) rfl rfl (fun w' hS => val_lss rfl rfl) ?_
    refine Sch.nil ?_
    refine run_seq (x := F19.c26) (y := F19.c29) (by kernel_rfl) ?_
    refine run_if (x := F19.c27) (y := F19.c28) (o := .tmp 25) (by kernel_rfl) rfl (fun h25 => ?_) (fun h25 => ?_)
    · skip
      have hkl : k < (refsS l).length := by omega
      have hinR := hdom ((refsS l)[k]'hkl) (List.getElem_mem hkl)
      have htk := List.take_succ_eq_append_getElem hkl
      refine run_skip (by kernel_rfl) ?_
      refine run_seq (x := F19.c30) (y := F19.c48) (by kernel_rfl) ?_
      refine run_block (x := F19.c31) (id := 1) (by kernel_rfl) ?_
      refine run_seq (x := F19.c32) (y := F19.c33) (by kernel_rfl) ?_
      refine run_plain (id := 9) (ops := F19.o9) [(0, true), (1, false), (2, false), (3, false)] (by kernel_rfl) (by kernel_rfl) ?_
      refine iS (e := 25) (by kernel_rfl : opAt F19.o9 0 = some (some 26, .indexAddr 38 (.tmp 22) (.tmp 24), none)) rfl rfl hrs rfl (by kernel_rfl) rfl (by omega) (by omega) ?_
      intro b26 o26 h26
      try simp only [Int.toNat_natCast] at h26
      refine lNA (by kernel_rfl : opAt F19.o9 1 = some (some 27, .load 25 (.tmp 26), none)) rfl rfl trivial h26 (by kernel_rfl) (by kernel_rfl) rfl rfl ?_
      intro v27 g27
      obtain rfl := rv_couple.1 g27
      refine aS (by kernel_rfl : opAt F19.o9 2 = some (some 9, .alloc 25, none)) rfl rfl (a_alloc (cs := [.int .i64 0, .int .i64 0]) hF 6 (by kernel_rfl)) ?_
      rintro _ w5 ⟨Cw5, bw5, rfl, hs, hx, hF⟩
      refine ⟨trivial, ?_⟩
      replace hT := hT.trans hs (by simp)
      replace hrs := hrs.st hs (by first | decide | (simp <;> omega))
      replace hm := hm.st hs (by first | decide | (simp <;> omega))
      replace hat := hat.st hs (by first | decide | (simp <;> omega))
      replace ho := ho.st hs (by first | decide | (simp <;> omega)) (by first | decide | (simp <;> omega))
      replace hin := fun k hk => (hin k hk).st hs (by simp <;> omega) (by simp <;> omega)
      replace h26 := h26.st hs (by first | decide | (simp <;> omega))
      refine aN (by kernel_rfl : opAt F19.o9 3 = some (none, .store 25 (.tmp 9) (.tmp 27), none)) rfl (a_storeAll (vs := encR ((refsS l)[k]'hkl)) (n := 2) rfl rfl (by kernel_rfl) rfl rfl (by intro u hu; simp only [encR, List.mem_cons, List.not_mem_nil, or_false] at hu; rcases hu with rfl | rfl <;> rfl) hx rfl) ?_
      rintro _ w6 ⟨rfl, hs, hx⟩
      refine ⟨trivial, ?_⟩
      replace hF := hF.st hs
      replace hT := hT.trans hs (by simp)
      replace hrs := hrs.st hs (by first | decide | (simp <;> omega))
      replace hm := hm.st hs (by first | decide | (simp <;> omega))
      replace hat := hat.st hs (by first | decide | (simp <;> omega))
      replace ho := ho.st hs (by first | decide | (simp <;> omega)) (by first | decide | (simp <;> omega))
      replace hin := fun k hk => (hin k hk).st hs (by simp <;> omega) (by simp <;> omega)
      replace h26 := h26.st hs (by first | decide | (simp <;> omega))
      refine Sch.nil ?_
      refine run_seq (x := F19.c34) (y := F19.c35) (by kernel_rfl) ?_
      refine run_plain (id := 10) (ops := F19.o10) [(0, true), (1, false), (2, false), (3, false), (4, false)] (by kernel_rfl) (by kernel_rfl) ?_
      refine yS (by kernel_rfl : opAt F19.o10 0 = some (some 28, .move (.tmp 5), none)) rfl rfl (fun w' hS => val_move rfl) ?_
      refine nS (by kernel_rfl : opAt F19.o10 1 = some (some 29, .load 25 (.tmp 9), none)) rfl rfl trivial (val_loadOwnAgg (n := 2) (vs := encR ((refsS l)[k]'hkl)) hx.at_ (by kernel_rfl) (by kernel_rfl) rfl rfl rfl) ?_
      refine cS (by kernel_rfl : opAt F19.o10 2 = some (some 30, .call { callee := .value (.func 39), args := #[(.tmp 28), (.tmp 29)], argTypes := #[67, 25] }, none)) rfl rfl (ent Try.call39 rfl) (root_ok (r := (refsS l)[k]'hkl) hF (by decide) hm hf hinR) ?_
      rintro vw7 w7 ⟨rfl, hs, u2, hm, hf, hra, hda, _⟩
      refine ⟨trivial, ?_⟩
      replace hF := hF.st hs
      replace hT := hT.trans hs (by simp)
      replace hrs := hrs.st hs (by first | decide | (simp <;> omega))
      replace hat := hat.st hs (by first | decide | (simp <;> omega))
      replace ho := ho.st hs (by first | decide | (simp <;> omega)) (by first | decide | (simp <;> omega))
      replace hin := fun k hk => (hin k hk).st hs (by simp <;> omega) (by simp <;> omega)
      replace h26 := h26.st hs (by first | decide | (simp <;> omega))
      replace hx := hx.st hs (by first | decide | (simp <;> omega))
      refine aS (by kernel_rfl : opAt F19.o10 3 = some (some 10, .alloc 25, none)) rfl rfl (a_alloc (cs := [.int .i64 0, .int .i64 0]) hF 7 (by kernel_rfl)) ?_
      rintro _ w8 ⟨Cw8, bw8, rfl, hs, hy, hF⟩
      refine ⟨trivial, ?_⟩
      replace hT := hT.trans hs (by simp)
      replace hrs := hrs.st hs (by first | decide | (simp <;> omega))
      replace hm := hm.st hs (by first | decide | (simp <;> omega))
      replace hat := hat.st hs (by first | decide | (simp <;> omega))
      replace ho := ho.st hs (by first | decide | (simp <;> omega)) (by first | decide | (simp <;> omega))
      replace hin := fun k hk => (hin k hk).st hs (by simp <;> omega) (by simp <;> omega)
      replace h26 := h26.st hs (by first | decide | (simp <;> omega))
      replace hx := hx.st hs (by first | decide | (simp <;> omega))
      refine aN (by kernel_rfl : opAt F19.o10 4 = some (none, .store 25 (.tmp 10) (.tmp 30), none)) rfl (a_storeAll (vs := encR (rhoS l ((refsS l)[k]'hkl))) (n := 2) rfl rfl (by kernel_rfl) rfl rfl (by intro u hu; simp only [encR, List.mem_cons, List.not_mem_nil, or_false] at hu; rcases hu with rfl | rfl <;> rfl) hy rfl) ?_
      rintro _ w9 ⟨rfl, hs, hy⟩
      refine ⟨trivial, ?_⟩
      replace hF := hF.st hs
      replace hT := hT.trans hs (by simp)
      replace hrs := hrs.st hs (by first | decide | (simp <;> omega))
      replace hm := hm.st hs (by first | decide | (simp <;> omega))
      replace hat := hat.st hs (by first | decide | (simp <;> omega))
      replace ho := ho.st hs (by first | decide | (simp <;> omega)) (by first | decide | (simp <;> omega))
      replace hin := fun k hk => (hin k hk).st hs (by simp <;> omega) (by simp <;> omega)
      replace h26 := h26.st hs (by first | decide | (simp <;> omega))
      replace hx := hx.st hs (by first | decide | (simp <;> omega))
      refine Sch.nil ?_
      refine run_seq (x := F19.c36) (y := F19.c37) (by kernel_rfl) ?_
      by_cases hA : (mget ua (rhoS l ((refsS l)[k]'hkl))).isSome = true
      · skip
        refine run_plain (id := 11) (ops := F19.o11) [(0, true), (1, false), (2, false), (3, true), (4, true), (5, true), (6, true), (7, true)] (by kernel_rfl) (by kernel_rfl) ?_
        refine yS (by kernel_rfl : opAt F19.o11 0 = some (some 32, .move (.tmp 6), none)) rfl rfl (fun w' hS => val_move rfl) ?_
        refine nS (by kernel_rfl : opAt F19.o11 1 = some (some 33, .load 25 (.tmp 10), none)) rfl rfl trivial (val_loadOwnAgg (n := 2) (vs := encR (rhoS l ((refsS l)[k]'hkl))) hy.at_ (by kernel_rfl) (by kernel_rfl) rfl rfl rfl) ?_
        obtain ⟨i0, hi0e⟩ := Option.isSome_iff_exists.1 hA
        obtain ⟨hi0l, hi0v⟩ := hai.lt hi0e
        simp only [List.length_map, List.getElem_map] at hi0l hi0v
        have hi0 : i0 < n := by rw [hn]; exact hi0l
        refine nS (by kernel_rfl : opAt F19.o11 2 = some (some 34, .lookup 69 (.tmp 32) (.tmp 33) true, none)) rfl rfl trivial (val_is (hat.lookupOk (z0 := (0 : Nat)) (k := rhoS l ((refsS l)[k]'hkl)) Try.underlying69 (keyOK_couple Try.underlying25 (by decide) (by decide) (by kernel_rfl) Try.underlying3) Try.zeroValue3 rfl rfl) (show _ = Value.tuple #[.int .i64 ((i0 : Nat) : Int), .bool true] from by rw [hi0e]; rfl)) ?_
        refine yS (by kernel_rfl : opAt F19.o11 3 = some (some 31, .move (.tmp 34), none)) rfl rfl (fun w' hS => val_move rfl) ?_
        refine yS (by kernel_rfl : opAt F19.o11 4 = some (some 35, .extract (.tmp 31) 0, none)) rfl rfl (fun w' hS => val_extract rfl rfl) ?_
        refine yS (by kernel_rfl : opAt F19.o11 5 = some (some 36, .extract (.tmp 31) 1, none)) rfl rfl (fun w' hS => val_extract rfl rfl) ?_
        refine yS (by kernel_rfl : opAt F19.o11 6 = some (some 11, .assign (.tmp 35), none)) rfl rfl (fun w' hS => val_assign rfl) ?_
        refine yS (by kernel_rfl : opAt F19.o11 7 = some (some 12, .assign (.tmp 36), none)) rfl rfl (fun w' hS => val_assign rfl) ?_
        refine Sch.nil ?_
        refine run_seq (x := F19.c38) (y := F19.c47) (by kernel_rfl) ?_
        refine run_seq (x := F19.c39) (y := F19.c40) (by kernel_rfl) ?_
        refine run_plain (id := 12) (ops := F19.o12) [(0, true), (1, true)] (by kernel_rfl) (by kernel_rfl) ?_
        refine yS (by kernel_rfl : opAt F19.o12 0 = some (some 37, .move (.tmp 12), none)) rfl rfl (fun w' hS => val_move rfl) ?_
        refine yS (by kernel_rfl : opAt F19.o12 1 = some (some 38, .unOp .not 4 (.tmp 37), none)) rfl rfl (fun w' hS => val_not rfl) ?_
        refine Sch.nil ?_
        refine run_cond (x := F19.c41) (y := F19.c46) (o := .tmp 38) (b := false) (by kernel_rfl) rfl (fun h => by cases h) (fun _ => ?_)
        refine run_skip (by kernel_rfl) ?_
        refine run_draw (id := 16) (ops := F19.o16) [10 + i0] (Cw8) [(0, true), (1, true), (2, true), (3, true), (4, true), (5, true), (6, true), (7, false), (8, false), (9, true), (10, false)] Try_mixed (by kernel_rfl) (by kernel_rfl) (by kernel_rfl) ?_
        intro w10 hs
        replace hF := hF.st hs
        replace hT := hT.trans hs (by simp)
        replace hrs := hrs.st hs (by first | decide | (simp <;> omega))
        replace hm := hm.st hs (by first | decide | (simp <;> omega))
        replace hat := hat.st hs (by first | decide | (simp <;> omega))
        replace ho := ho.st hs (by first | decide | (simp <;> omega)) (by first | decide | (simp <;> omega))
        replace hin := fun k hk => (hin k hk).st hs (by simp <;> omega) (by simp <;> omega)
        replace h26 := h26.st hs (by first | decide | (simp <;> omega))
        replace hx := hx.st hs (by first | decide | (simp <;> omega))
        replace hy := hy.st hs (by first | decide | (simp <;> omega))
        have hR := Stp.refl [10 + i0] w10 (Cw8)
        refine yS (by kernel_rfl : opAt F19.o16 0 = some (some 47, .move (.tmp 7), none)) rfl rfl (fun w' hS => val_move rfl) ?_
        refine yS (by kernel_rfl : opAt F19.o16 1 = some (some 48, .move (.tmp 11), none)) rfl rfl (fun w' hS => val_move rfl) ?_
        refine yS (by kernel_rfl : opAt F19.o16 2 = some (some 49, .move (.tmp 7), none)) rfl rfl (fun w' hS => val_move rfl) ?_
        refine yS (by kernel_rfl : opAt F19.o16 3 = some (some 50, .move (.tmp 11), none)) rfl rfl (fun w' hS => val_move rfl) ?_
        refine oI (e' := 38) (by kernel_rfl : opAt F19.o16 4 = some (some 51, .indexAddr 26 (.tmp 49) (.tmp 50), none)) rfl rfl ho rfl (by kernel_rfl) rfl (by omega) (by omega) ?_
        intro g51 hg51
        try simp only [Int.toNat_natCast]
        refine oS (I := [10 + i0]) (by kernel_rfl : opAt F19.o16 5 = some (some 52, .load 38 (.tmp 51), none)) rfl rfl ho hg51 (fun w' hS => ho.stay hg51 hS (by first | decide | (simp <;> omega))) (by omega) (by kernel_rfl) rfl rfl ?_
        intro v52 g52
        try simp only [Int.toNat_natCast] at g52
        obtain ⟨e52, _⟩ := rv_sv.1 g52
        rw [svsF_get] at e52
        subst e52
        have hgl := (hin i0 hi0).own.len
        have hgn : ((groupS (rhoS l) ((refsS l).take k)).getD i0 []).length ≤ (refsS l).length := getD_group_len _ _ _ (by rw [List.length_take]; omega)
        refine yS (by kernel_rfl : opAt F19.o16 6 = some (some 53, .load 25 (.tmp 9), none)) rfl rfl (fun w' hS => val_loadOwnAgg (n := 2) (vs := encR ((refsS l)[k]'hkl)) (hx.stay hS (by simp <;> omega)) (by kernel_rfl) (by kernel_rfl) rfl rfl rfl) ?_
        refine aS (by kernel_rfl : opAt F19.o16 7 = some (some 54, .buildSlice 38 1 #[(0, (.tmp 53))], none)) rfl rfl (a_buildSlice (ys := ([(refsS l)[k]'hkl] : List Couple)) (e := 25) (bytes := 16) hF (by kernel_rfl) rfl (by decide) (by decide) ⟨rfl, ⟨_, rfl, rv_couple.2 rfl⟩, trivial⟩) ?_
        rintro v54 w11 ⟨hs, g54, hF⟩
        refine ⟨(hR.trans hs (by simp)).ext, ?_⟩
        replace hT := hT.trans hs (by simp)
        replace hrs := hrs.st hs (by first | decide | (simp <;> omega))
        replace hm := hm.st hs (by first | decide | (simp <;> omega))
        replace hat := hat.st hs (by first | decide | (simp <;> omega))
        replace ho := ho.st hs (by first | decide | (simp <;> omega)) (by first | decide | (simp <;> omega))
        replace hin := fun k hk => (hin k hk).st hs (by simp <;> omega) (by simp <;> omega)
        replace h26 := h26.st hs (by first | decide | (simp <;> omega))
        replace hx := hx.st hs (by first | decide | (simp <;> omega))
        replace hy := hy.st hs (by first | decide | (simp <;> omega))
        replace hR := hR.trans hs (by simp)
        refine aS (by kernel_rfl : opAt F19.o16 8 = some (some 55, .call { callee := .builtin .append, args := #[(.tmp 52), (.tmp 54)], argTypes := #[38, 38] }, none)) rfl rfl (a_append (e := 25) (bytes := 16) hF (by omega) rfl rfl (by kernel_rfl) (by decide) (hin i0 hi0) g54 (by simp only [List.length_cons, List.length_nil]; omega) (by simp only [List.length_cons, List.length_nil]; omega)) ?_
        rintro v55 w12 ⟨Cw12, hs, h55, hF⟩
        refine ⟨(hR.trans hs (by simp)).ext, ?_⟩
        replace hT := hT.trans hs (by simp <;> omega)
        replace hrs := hrs.st hs (by first | decide | (simp <;> omega))
        replace hm := hm.st hs (by first | decide | (simp <;> omega))
        replace hat := hat.st hs (by first | decide | (simp <;> omega))
        replace ho := ho.st hs (by first | decide | (simp <;> omega)) (by first | decide | (simp <;> omega))
        replace h26 := h26.st hs (by first | decide | (simp <;> omega))
        replace hx := hx.st hs (by first | decide | (simp <;> omega))
        replace hy := hy.st hs (by first | decide | (simp <;> omega))
        replace hR := hR.trans hs (by simp <;> omega)
        replace g54 := g54.st hs (by first | decide | (simp <;> omega))
        replace hin := fun k hk (hne : k ≠ i0) => (hin k hk).st hs (by simp <;> omega) (by simp <;> omega)
        refine oI (e' := 38) (by kernel_rfl : opAt F19.o16 9 = some (some 56, .indexAddr 26 (.tmp 47) (.tmp 48), none)) rfl rfl ho rfl (by kernel_rfl) rfl (by omega) (by omega) ?_
        intro g56 hg56
        try simp only [Int.toNat_natCast]
        refine Sch.free rfl ?_
        refine aN (by kernel_rfl : opAt F19.o16 10 = some (none, .store 38 (.tmp 56) (.tmp 55), none)) rfl (a_storeO ho hg56 (by omega) rfl rfl (by kernel_rfl) (rv_sv.2 ⟨rfl, h55.one.2⟩)) ?_
        rintro _ w13 ⟨rfl, hs, ho⟩
        refine ⟨trivial, ?_⟩
        replace hF := hF.st hs
        replace hT := hT.trans hs (by simp)
        replace hrs := hrs.st hs (by first | decide | (simp <;> omega))
        replace hm := hm.st hs (by first | decide | (simp <;> omega))
        replace hat := hat.st hs (by first | decide | (simp <;> omega))
        replace h26 := h26.st hs (by first | decide | (simp <;> omega))
        replace hx := hx.st hs (by first | decide | (simp <;> omega))
        replace hy := hy.st hs (by first | decide | (simp <;> omega))
        replace g54 := g54.st hs (by first | decide | (simp <;> omega))
        replace h55 := h55.st hs (by first | decide | (simp <;> omega)) (by first | decide | (simp <;> omega))
        replace hin := fun k hk hne => (hin k hk hne).st hs (by simp <;> omega) (by simp <;> omega)
        refine Sch.nil ?_
        refine run_inBlock ?_
        refine run_plain (id := 17) (ops := F19.o17) [(0, true), (1, true)] (by kernel_rfl) (by kernel_rfl) ?_
        refine yS (by kernel_rfl : opAt F19.o17 0 = some (some 57, .binOp .add 3 (.tmp 24) (.const (.int .i64 1)) 3, none)) rfl rfl (fun w' hS => val_addi rfl rfl (by omega) (by omega)) ?_
        refine yS (by kernel_rfl : opAt F19.o17 1 = some (some 24, .move (.tmp 57), none)) rfl rfl (fun w' hS => val_move rfl) ?_
        refine Sch.nil ?_
        obtain ⟨hst1, hst2⟩ := groupS_stepO (f := rhoS l) (r := (refsS l)[k]'hkl) hi0l hi0v
        rw [← htk] at hst1 hst2
        have hst3 : (firstsS (rhoS l) ((refsS l).take (k + 1))).length = n := by rw [hst1]; exact hn.symm
        refine kp (sub_cons 5 rfl rfl (sub_cons 6 rfl rfl (sub_cons 7 rfl rfl (sub_cons 22 rfl rfl (sub_cons 23 rfl rfl (sub_cons 24 rfl (eq_int (by simp)) (sub_nil _))))))) (next1 (k + 1, u2, ua, vo, updV vf i0 v55, Cw12) _ ⟨(by first | omega | (simp only; omega)), (by first | omega | (simp only; omega)), (fun s hs => hda _ (hdom s hs)), (by simp only; rw [hst1]; exact hai), hF, hT, hrs, hm, hat, (by simp only; rw [hst3, ← svsF_set]; exact ho), (fun i hi => by
            simp only at hi ⊢
            rw [hst3] at hi
            rw [hst2]
            by_cases e : i = i0
            · subst e; simp only [updV, if_pos]; exact h55
            · simp only [updV, if_neg e]; have := hin i hi e; simpa only [updV, if_neg e] using this)⟩ (by first | omega | (simp only; omega)))
      · skip
        refine run_plain (id := 11) (ops := F19.o11) [(0, true), (1, false), (2, false), (3, true), (4, true), (5, true), (6, true), (7, true)] (by kernel_rfl) (by kernel_rfl) ?_
        refine yS (by kernel_rfl : opAt F19.o11 0 = some (some 32, .move (.tmp 6), none)) rfl rfl (fun w' hS => val_move rfl) ?_
        refine nS (by kernel_rfl : opAt F19.o11 1 = some (some 33, .load 25 (.tmp 10), none)) rfl rfl trivial (val_loadOwnAgg (n := 2) (vs := encR (rhoS l ((refsS l)[k]'hkl))) hy.at_ (by kernel_rfl) (by kernel_rfl) rfl rfl rfl) ?_
        have hno : mget ua (rhoS l ((refsS l)[k]'hkl)) = none := by simpa using hA
        refine nS (by kernel_rfl : opAt F19.o11 2 = some (some 34, .lookup 69 (.tmp 32) (.tmp 33) true, none)) rfl rfl trivial (val_is (hat.lookupOk (z0 := (0 : Nat)) (k := rhoS l ((refsS l)[k]'hkl)) Try.underlying69 (keyOK_couple Try.underlying25 (by decide) (by decide) (by kernel_rfl) Try.underlying3) Try.zeroValue3 rfl rfl) (show _ = Value.tuple #[.int .i64 ((0 : Nat) : Int), .bool false] from by rw [hno]; rfl)) ?_
        refine yS (by kernel_rfl : opAt F19.o11 3 = some (some 31, .move (.tmp 34), none)) rfl rfl (fun w' hS => val_move rfl) ?_
        refine yS (by kernel_rfl : opAt F19.o11 4 = some (some 35, .extract (.tmp 31) 0, none)) rfl rfl (fun w' hS => val_extract rfl rfl) ?_
        refine yS (by kernel_rfl : opAt F19.o11 5 = some (some 36, .extract (.tmp 31) 1, none)) rfl rfl (fun w' hS => val_extract rfl rfl) ?_
        refine yS (by kernel_rfl : opAt F19.o11 6 = some (some 11, .assign (.tmp 35), none)) rfl rfl (fun w' hS => val_assign rfl) ?_
        refine yS (by kernel_rfl : opAt F19.o11 7 = some (some 12, .assign (.tmp 36), none)) rfl rfl (fun w' hS => val_assign rfl) ?_
        refine Sch.nil ?_
        refine run_seq (x := F19.c38) (y := F19.c47) (by kernel_rfl) ?_
        refine run_seq (x := F19.c39) (y := F19.c40) (by kernel_rfl) ?_
        refine run_plain (id := 12) (ops := F19.o12) [(0, true), (1, true)] (by kernel_rfl) (by kernel_rfl) ?_
        refine yS (by kernel_rfl : opAt F19.o12 0 = some (some 37, .move (.tmp 12), none)) rfl rfl (fun w' hS => val_move rfl) ?_
        refine yS (by kernel_rfl : opAt F19.o12 1 = some (some 38, .unOp .not 4 (.tmp 37), none)) rfl rfl (fun w' hS => val_not rfl) ?_
        refine Sch.nil ?_
        refine run_cond (x := F19.c41) (y := F19.c46) (o := .tmp 38) (b := true) (by kernel_rfl) rfl (fun _ => ?_) (fun h => by cases h)
        refine run_seq (x := F19.c42) (y := F19.c43) (by kernel_rfl) ?_
        refine run_plain (id := 13) (ops := F19.o13) [(0, true), (1, true), (2, true)] (by kernel_rfl) (by kernel_rfl) ?_
        refine yS (by kernel_rfl : opAt F19.o13 0 = some (some 39, .move (.tmp 7), none)) rfl rfl (fun w' hS => val_move rfl) ?_
        refine yS (by kernel_rfl : opAt F19.o13 1 = some (some 40, .call { callee := .builtin .len, args := #[(.tmp 39)], argTypes := #[26] }, none)) rfl rfl (fun w' hS => ho.lenV rfl Try.underlying26 w' ) ?_
        refine yS (by kernel_rfl : opAt F19.o13 2 = some (some 11, .assign (.tmp 40), none)) rfl rfl (fun w' hS => val_assign rfl) ?_
        refine Sch.nil ?_
        refine run_seq (x := F19.c44) (y := F19.c45) (by kernel_rfl) ?_
        refine run_plain (id := 14) (ops := F19.o14) [(0, true), (1, false), (2, true), (3, false)] (by kernel_rfl) (by kernel_rfl) ?_
        refine yS (by kernel_rfl : opAt F19.o14 0 = some (some 41, .move (.tmp 6), none)) rfl rfl (fun w' hS => val_move rfl) ?_
        refine nS (by kernel_rfl : opAt F19.o14 1 = some (some 42, .load 25 (.tmp 10), none)) rfl rfl trivial (val_loadOwnAgg (n := 2) (vs := encR (rhoS l ((refsS l)[k]'hkl))) hy.at_ (by kernel_rfl) (by kernel_rfl) rfl rfl rfl) ?_
        refine yS (by kernel_rfl : opAt F19.o14 2 = some (some 43, .move (.tmp 11), none)) rfl rfl (fun w' hS => val_move rfl) ?_
        refine aN (by kernel_rfl : opAt F19.o14 3 = some (none, .mapUpdate 69 (.tmp 41) (.tmp 42) (.tmp 43), none)) rfl (a_mapUpdate (k := rhoS l ((refsS l)[k]'hkl)) (u := (svsF vf n).length) hat Try.underlying69 (keyOK_couple Try.underlying25 (by decide) (by decide) (by kernel_rfl) Try.underlying3) rfl rfl rfl) ?_
        rintro _ w14 ⟨rfl, hs, hat⟩
        refine ⟨trivial, ?_⟩
        replace hF := hF.st hs
        replace hT := hT.trans hs (by simp)
        replace hrs := hrs.st hs (by first | decide | (simp <;> omega))
        replace hm := hm.st hs (by first | decide | (simp <;> omega))
        replace ho := ho.st hs (by first | decide | (simp <;> omega)) (by first | decide | (simp <;> omega))
        replace hin := fun k hk => (hin k hk).st hs (by simp <;> omega) (by simp <;> omega)
        replace h26 := h26.st hs (by first | decide | (simp <;> omega))
        replace hx := hx.st hs (by first | decide | (simp <;> omega))
        replace hy := hy.st hs (by first | decide | (simp <;> omega))
        refine Sch.nil ?_
        refine run_plain (id := 15) (ops := F19.o15) [(0, true), (1, false), (2, false), (3, true)] (by kernel_rfl) (by kernel_rfl) ?_
        refine yS (by kernel_rfl : opAt F19.o15 0 = some (some 44, .move (.tmp 7), none)) rfl rfl (fun w' hS => val_move rfl) ?_
        refine aS (by kernel_rfl : opAt F19.o15 1 = some (some 45, .buildSlice 26 1 #[(0, (.const (.slice none 0 0)))], none)) rfl rfl (a_buildSlice (ys := ([⟨.slice none 0 0⟩] : List Sv)) (e := 38) (bytes := 24) hF (by kernel_rfl) rfl (by decide) (by decide) ⟨rfl, ⟨_, rfl, rv_sv.2 ⟨rfl, rfl⟩⟩, trivial⟩) ?_
        rintro v45 w15 ⟨hs, g45, hF⟩
        refine ⟨trivial, ?_⟩
        replace hT := hT.trans hs (by simp)
        replace hrs := hrs.st hs (by first | decide | (simp <;> omega))
        replace hm := hm.st hs (by first | decide | (simp <;> omega))
        replace hat := hat.st hs (by first | decide | (simp <;> omega))
        replace ho := ho.st hs (by first | decide | (simp <;> omega)) (by first | decide | (simp <;> omega))
        replace hin := fun k hk => (hin k hk).st hs (by simp <;> omega) (by simp <;> omega)
        replace h26 := h26.st hs (by first | decide | (simp <;> omega))
        replace hx := hx.st hs (by first | decide | (simp <;> omega))
        replace hy := hy.st hs (by first | decide | (simp <;> omega))
        refine aS (by kernel_rfl : opAt F19.o15 2 = some (some 46, .call { callee := .builtin .append, args := #[(.tmp 44), (.tmp 45)], argTypes := #[26, 26] }, none)) rfl rfl (a_append (e := 38) (bytes := 24) hF (by decide) rfl rfl (by kernel_rfl) (by decide) ho g45 (by simp only [List.length_cons, List.length_nil]; omega) (by simp only [List.length_cons, List.length_nil]; omega)) ?_
        rintro v46 w16 ⟨Cw16, hs, ho, hF⟩
        refine ⟨trivial, ?_⟩
        replace hT := hT.trans hs (by simp)
        replace hrs := hrs.st hs (by first | decide | (simp <;> omega))
        replace hm := hm.st hs (by first | decide | (simp <;> omega))
        replace hat := hat.st hs (by first | decide | (simp <;> omega))
        replace hin := fun k hk => (hin k hk).st hs (by simp <;> omega) (by simp <;> omega)
        replace h26 := h26.st hs (by first | decide | (simp <;> omega))
        replace hx := hx.st hs (by first | decide | (simp <;> omega))
        replace hy := hy.st hs (by first | decide | (simp <;> omega))
        replace g45 := g45.st hs (by first | decide | (simp <;> omega))
        rw [svsF_snoc] at ho
        have hin2 : ∀ i, i < n + 1 → OwnL _ _ (10 + i) 25 (updV vf n (.slice none 0 0) i) ((groupS (rhoS l) ((refsS l).take k)).getD i []) := fun i hi => by
          by_cases e : i = n
          · subst e; simp only [updV, if_pos]; rw [groupS_none (by omega)]; exact OwnL.nil
          · simp only [updV, if_neg e]; exact hin i (by omega)
        clear hin
        have hin := hin2; clear hin2
        have hi0 : n < n + 1 := Nat.lt_succ_self n
        have hsl2 := svsF_len (updV vf n (.slice none 0 0)) (n + 1)
        rw [hsl]
        refine yS (by kernel_rfl : opAt F19.o15 3 = some (some 7, .assign (.tmp 46), none)) rfl rfl (fun w' hS => val_assign rfl) ?_
        refine Sch.nil ?_
        refine run_draw (id := 16) (ops := F19.o16) [10 + n] (Cw16) [(0, true), (1, true), (2, true), (3, true), (4, true), (5, true), (6, true), (7, false), (8, false), (9, true), (10, false)] Try_mixed (by kernel_rfl) (by kernel_rfl) (by kernel_rfl) ?_
        intro w17 hs
        replace hF := hF.st hs
        replace hT := hT.trans hs (by simp)
        replace hrs := hrs.st hs (by first | decide | (simp <;> omega))
        replace hm := hm.st hs (by first | decide | (simp <;> omega))
        replace hat := hat.st hs (by first | decide | (simp <;> omega))
        replace ho := ho.st hs (by first | decide | (simp <;> omega)) (by first | decide | (simp <;> omega))
        replace hin := fun k hk => (hin k hk).st hs (by simp <;> omega) (by simp <;> omega)
        replace h26 := h26.st hs (by first | decide | (simp <;> omega))
        replace hx := hx.st hs (by first | decide | (simp <;> omega))
        replace hy := hy.st hs (by first | decide | (simp <;> omega))
        replace g45 := g45.st hs (by first | decide | (simp <;> omega))
        have hR := Stp.refl [10 + n] w17 (Cw16)
        refine yS (by kernel_rfl : opAt F19.o16 0 = some (some 47, .move (.tmp 7), none)) rfl rfl (fun w' hS => val_move rfl) ?_
        refine yS (by kernel_rfl : opAt F19.o16 1 = some (some 48, .move (.tmp 11), none)) rfl rfl (fun w' hS => val_move rfl) ?_
        refine yS (by kernel_rfl : opAt F19.o16 2 = some (some 49, .move (.tmp 7), none)) rfl rfl (fun w' hS => val_move rfl) ?_
        refine yS (by kernel_rfl : opAt F19.o16 3 = some (some 50, .move (.tmp 11), none)) rfl rfl (fun w' hS => val_move rfl) ?_
        refine oI (e' := 38) (by kernel_rfl : opAt F19.o16 4 = some (some 51, .indexAddr 26 (.tmp 49) (.tmp 50), none)) rfl rfl ho rfl (by kernel_rfl) rfl (by omega) (by omega) ?_
        intro g51 hg51
        try simp only [Int.toNat_natCast]
        refine oS (I := [10 + n]) (by kernel_rfl : opAt F19.o16 5 = some (some 52, .load 38 (.tmp 51), none)) rfl rfl ho hg51 (fun w' hS => ho.stay hg51 hS (by first | decide | (simp <;> omega))) (by omega) (by kernel_rfl) rfl rfl ?_
        intro v52 g52
        try simp only [Int.toNat_natCast] at g52
        obtain ⟨e52, _⟩ := rv_sv.1 g52
        rw [svsF_get] at e52
        subst e52
        have hgl := (hin n hi0).own.len
        have hgn : ((groupS (rhoS l) ((refsS l).take k)).getD n []).length ≤ (refsS l).length := getD_group_len _ _ _ (by rw [List.length_take]; omega)
        refine yS (by kernel_rfl : opAt F19.o16 6 = some (some 53, .load 25 (.tmp 9), none)) rfl rfl (fun w' hS => val_loadOwnAgg (n := 2) (vs := encR ((refsS l)[k]'hkl)) (hx.stay hS (by simp <;> omega)) (by kernel_rfl) (by kernel_rfl) rfl rfl rfl) ?_
        refine aS (by kernel_rfl : opAt F19.o16 7 = some (some 54, .buildSlice 38 1 #[(0, (.tmp 53))], none)) rfl rfl (a_buildSlice (ys := ([(refsS l)[k]'hkl] : List Couple)) (e := 25) (bytes := 16) hF (by kernel_rfl) rfl (by decide) (by decide) ⟨rfl, ⟨_, rfl, rv_couple.2 rfl⟩, trivial⟩) ?_
        rintro v54 w18 ⟨hs, g54, hF⟩
        refine ⟨(hR.trans hs (by simp)).ext, ?_⟩
        replace hT := hT.trans hs (by simp)
        replace hrs := hrs.st hs (by first | decide | (simp <;> omega))
        replace hm := hm.st hs (by first | decide | (simp <;> omega))
        replace hat := hat.st hs (by first | decide | (simp <;> omega))
        replace ho := ho.st hs (by first | decide | (simp <;> omega)) (by first | decide | (simp <;> omega))
        replace hin := fun k hk => (hin k hk).st hs (by simp <;> omega) (by simp <;> omega)
        replace h26 := h26.st hs (by first | decide | (simp <;> omega))
        replace hx := hx.st hs (by first | decide | (simp <;> omega))
        replace hy := hy.st hs (by first | decide | (simp <;> omega))
        replace g45 := g45.st hs (by first | decide | (simp <;> omega))
        replace hR := hR.trans hs (by simp)
        refine aS (by kernel_rfl : opAt F19.o16 8 = some (some 55, .call { callee := .builtin .append, args := #[(.tmp 52), (.tmp 54)], argTypes := #[38, 38] }, none)) rfl rfl (a_append (e := 25) (bytes := 16) hF (by omega) rfl rfl (by kernel_rfl) (by decide) (hin n hi0) g54 (by simp only [List.length_cons, List.length_nil]; omega) (by simp only [List.length_cons, List.length_nil]; omega)) ?_
        rintro v55 w19 ⟨Cw19, hs, h55, hF⟩
        refine ⟨(hR.trans hs (by simp)).ext, ?_⟩
        replace hT := hT.trans hs (by simp <;> omega)
        replace hrs := hrs.st hs (by first | decide | (simp <;> omega))
        replace hm := hm.st hs (by first | decide | (simp <;> omega))
        replace hat := hat.st hs (by first | decide | (simp <;> omega))
        replace ho := ho.st hs (by first | decide | (simp <;> omega)) (by first | decide | (simp <;> omega))
        replace h26 := h26.st hs (by first | decide | (simp <;> omega))
        replace hx := hx.st hs (by first | decide | (simp <;> omega))
        replace hy := hy.st hs (by first | decide | (simp <;> omega))
        replace g45 := g45.st hs (by first | decide | (simp <;> omega))
        replace hR := hR.trans hs (by simp <;> omega)
        replace g54 := g54.st hs (by first | decide | (simp <;> omega))
        replace hin := fun k hk (hne : k ≠ n) => (hin k hk).st hs (by simp <;> omega) (by simp <;> omega)
        refine oI (e' := 38) (by kernel_rfl : opAt F19.o16 9 = some (some 56, .indexAddr 26 (.tmp 47) (.tmp 48), none)) rfl rfl ho rfl (by kernel_rfl) rfl (by omega) (by omega) ?_
        intro g56 hg56
        try simp only [Int.toNat_natCast]
        refine Sch.free rfl ?_
        refine aN (by kernel_rfl : opAt F19.o16 10 = some (none, .store 38 (.tmp 56) (.tmp 55), none)) rfl (a_storeO ho hg56 (by omega) rfl rfl (by kernel_rfl) (rv_sv.2 ⟨rfl, h55.one.2⟩)) ?_
        rintro _ w20 ⟨rfl, hs, ho⟩
        refine ⟨trivial, ?_⟩
        replace hF := hF.st hs
        replace hT := hT.trans hs (by simp)
        replace hrs := hrs.st hs (by first | decide | (simp <;> omega))
        replace hm := hm.st hs (by first | decide | (simp <;> omega))
        replace hat := hat.st hs (by first | decide | (simp <;> omega))
        replace h26 := h26.st hs (by first | decide | (simp <;> omega))
        replace hx := hx.st hs (by first | decide | (simp <;> omega))
        replace hy := hy.st hs (by first | decide | (simp <;> omega))
        replace g45 := g45.st hs (by first | decide | (simp <;> omega))
        replace g54 := g54.st hs (by first | decide | (simp <;> omega))
        replace h55 := h55.st hs (by first | decide | (simp <;> omega)) (by first | decide | (simp <;> omega))
        replace hin := fun k hk hne => (hin k hk hne).st hs (by simp <;> omega) (by simp <;> omega)
        refine Sch.nil ?_
        refine run_inBlock ?_
        refine run_plain (id := 17) (ops := F19.o17) [(0, true), (1, true)] (by kernel_rfl) (by kernel_rfl) ?_
        refine yS (by kernel_rfl : opAt F19.o17 0 = some (some 57, .binOp .add 3 (.tmp 24) (.const (.int .i64 1)) 3, none)) rfl rfl (fun w' hS => val_addi rfl rfl (by omega) (by omega)) ?_
        refine yS (by kernel_rfl : opAt F19.o17 1 = some (some 24, .move (.tmp 57), none)) rfl rfl (fun w' hS => val_move rfl) ?_
        refine Sch.nil ?_
        obtain ⟨hst1, hst2⟩ := groupS_stepN (f := rhoS l) (xs := ((refsS l).take k)) (r := (refsS l)[k]'hkl) (fun q hq e => hai.none hno (List.mem_map.2 ⟨q, hq, e⟩)) hn
        rw [← htk] at hst1 hst2
        have hst3 : (firstsS (rhoS l) ((refsS l).take (k + 1))).length = (n + 1) := by rw [hst1]; rw [List.length_append, ← hn]; rfl
        refine kp (sub_cons 5 rfl rfl (sub_cons 6 rfl rfl (sub_cons 7 rfl rfl (sub_cons 22 rfl rfl (sub_cons 23 rfl rfl (sub_cons 24 rfl (eq_int (by simp)) (sub_nil _))))))) (next1 (k + 1, u2, mput ua (rhoS l ((refsS l)[k]'hkl)) (svsF vf n).length, v46, updV (updV vf n (.slice none 0 0)) n v55, Cw19) _ ⟨(by first | omega | (simp only; omega)), (by first | omega | (simp only; omega)), (fun s hs => hda _ (hdom s hs)), (by
            have := hai.new hno
            simp only; rw [hst1, List.map_append, svsF_len, hn]; simpa using this), hF, hT, hrs, hm, hat, (by simp only; rw [hst3, ← svsF_set]; exact ho), (fun i hi => by
            simp only at hi ⊢
            rw [hst3] at hi
            rw [hst2]
            by_cases e : i = n
            · subst e; simp only [updV, if_pos]; exact h55
            · simp only [updV, if_neg e]; have := hin i hi e; simpa only [updV, if_neg e] using this)⟩ (by first | omega | (simp only; omega)))
    · skip
      have hkl : k = (refsS l).length := by omega
      subst hkl
      rw [List.take_length] at hn hin hai
      refine run_exit (id := 0) (by kernel_rfl) rfl ?_
      refine run_seq (x := F19.c50) (y := F19.c51) (by kernel_rfl) ?_
      refine run_plain (id := 18) (ops := F19.o18) [(0, true), (1, true), (2, true)] (by kernel_rfl) (by kernel_rfl) ?_
      refine yS (by kernel_rfl : opAt F19.o18 0 = some (some 58, .move (.tmp 7), none)) rfl rfl (fun w' hS => val_move rfl) ?_
      refine yS (by kernel_rfl : opAt F19.o18 1 = some (some 2, .assign (.tmp 58), none)) rfl rfl (fun w' hS => val_assign rfl) ?_
      refine yS (by kernel_rfl : opAt F19.o18 2 = some (some 3, .assign (.const (.int .i64 0)), none)) rfl rfl (fun w' hS => val_assign rfl) ?_
      refine Sch.nil ?_
      refine run_ret2 (by kernel_rfl) Try.func19 Try.results19 rfl rfl ?_
      rw [hck]
      have hgl : (partsS l).length = n := by unfold partsS; rw [groupS_length, hn]
      rw [← hgl] at ho
      refine ⟨_, rfl, hT.out1 big_ge, fun e => absurd rfl e, ?_⟩
      rw [if_pos rfl]
      refine rv_lists (vf := vf) (ho.out hT hF0 (Mc_col1 C) (fun b _ => col1_lt C (by decide) b) (by rw [svsF_len]; omega)) fun i hi => ?_
      exact (hin i (by omega)).out hT hF0 (Mc_col1 C) (fun b _ => col1_lt C (by omega) b) (Nat.le_trans (getD_group_len (rhoS l) (refsS l) i (Nat.le_refl _)) (by omega))
end Go.Proofs.Ytfmdkdfhnkennaa

