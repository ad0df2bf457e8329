/- Steps through functions of the program. -/
import Derived.Test.YtpmokjccfaakfaaKQA
import Derived.Test.YtpmokjccfaakfaaKPlan2
set_option linter.unusedVariables false
set_option linter.unusedSimpArgs false
set_option maxRecDepth 100000
set_option maxHeartbeats 400000
namespace Go.Proofs.Ytpmokjccfaakfaa
open Go.K Go.K.Rep

namespace F12
noncomputable def c0 : Code := bodyOf Try.f12
noncomputable def c1 : Code := cl c0
noncomputable def o0 : Array Oper := rops c1
noncomputable def c2 : Code := cr c0
noncomputable def c3 : Code := cl c2
noncomputable def o1 : Array Oper := rops c3
noncomputable def c4 : Code := cr c2
noncomputable def c5 : Code := cl c4
noncomputable def c6 : Code := cl c5
noncomputable def o2 : Array Oper := rops c6
noncomputable def c7 : Code := cr c5
noncomputable def c8 : Code := cl c7
noncomputable def c9 : Code := cl c8
noncomputable def c10 : Code := cl c9
noncomputable def c11 : Code := cl c10
noncomputable def o3 : Array Oper := rops c11
noncomputable def c12 : Code := cr c10
noncomputable def c13 : Code := cl c12
noncomputable def c14 : Code := cr c12
noncomputable def c15 : Code := cr c9
noncomputable def c16 : Code := cl c15
noncomputable def c17 : Code := cl c16
noncomputable def c18 : Code := cl c17
noncomputable def o5 : Array Oper := rops c18
noncomputable def c19 : Code := cr c17
noncomputable def c20 : Code := cl c19
noncomputable def c21 : Code := cl c20
noncomputable def o6 : Array Oper := rops c21
noncomputable def c22 : Code := cr c20
noncomputable def c23 : Code := cl c22
noncomputable def c24 : Code := cl c23
noncomputable def c25 : Code := cl c24
noncomputable def c26 : Code := cl c25
noncomputable def o7 : Array Oper := rops c26
noncomputable def c27 : Code := cr c25
noncomputable def c28 : Code := cl c27
noncomputable def c29 : Code := cr c27
noncomputable def c30 : Code := cr c24
noncomputable def c31 : Code := cl c30
noncomputable def c32 : Code := cl c31
noncomputable def c33 : Code := cl c32
noncomputable def o9 : Array Oper := rops c33
noncomputable def c34 : Code := cr c32
noncomputable def c35 : Code := cl c34
noncomputable def o10 : Array Oper := rops c35
noncomputable def c36 : Code := cr c34
noncomputable def c37 : Code := cr c30
noncomputable def o8 : Array Oper := rops c37
noncomputable def c38 : Code := cr c19
noncomputable def o11 : Array Oper := rops c38
noncomputable def c39 : Code := cr c15
noncomputable def o4 : Array Oper := rops c39
noncomputable def c40 : Code := cr c4
noncomputable def c41 : Code := cl c40
noncomputable def o12 : Array Oper := rops c41
noncomputable def c42 : Code := cr c40
end F12
/-- Some keys. -/
theorem keys_ok {w₀ : World} {C : Nat → Nat} {i b most : Nat} (hF : Lim w₀ C) (hi : i ≠ 0) (hd : DeckIs w₀ C i b) (hm : most ≤ 8) : Calls Try.prog 12 #[.pointer (some ⟨b, 0, none⟩), .int .i64 (most : Int)] w₀ (Ret fun v w' => ∃ ks : List Key, Stp [i] w₀ C w' C ∧ RV w' (Mc C) ks v ∧ DeckIs w' C i b ∧ ks.length ≤ most ∧ ∀ k ∈ ks, k.comps.length ≤ 3 ∧ ∀ c ∈ k.comps, 0 ≤ c.a ∧ c.a < 4 ∧ 1 ≤ c.b ∧ c.b ≤ 2) := by
  have hF0 := hF
  have hbc := hd.colour
  replace hd := hd.col2 hi
  have hT := Stp.refl [2, 3, 4, 5, 6, 7, 8, 9] w₀ (col2 C i)
  replace hF := hF.col2 i
  refine calls_start (c := F12.c0) (N := 44) [.pointer (some ⟨b, 0, none⟩), .int .i64 (most : Int)] Try.func12 (by kernel_rfl) (by kernel_rfl) (by kernel_rfl) ?_
  show Run _ _ _ _ [(0, .pointer (some ⟨b, 0, none⟩)), (1, .int .i64 (most : Int))] _ _
  refine run_seq (x := F12.c1) (y := F12.c2) (by kernel_rfl) ?_
  refine run_plain (id := 0) (ops := F12.o0) [(0, true)] (by kernel_rfl) (by kernel_rfl) ?_
  refine yS (by kernel_rfl : opAt F12.o0 0 = some (some 4, .assign (.const (.slice none 0 0)), none)) rfl rfl (fun w' hS => val_assign rfl) ?_
  refine Sch.nil ?_
  refine run_seq (x := F12.c3) (y := F12.c4) (by kernel_rfl) ?_
  refine run_plain (id := 1) (ops := F12.o1) [(0, true)] (by kernel_rfl) (by kernel_rfl) ?_
  refine yS (by kernel_rfl : opAt F12.o1 0 = some (some 5, .assign (.const (.slice none 0 0)), none)) rfl rfl (fun w' hS => val_assign rfl) ?_
  refine Sch.nil ?_
  refine run_seq (x := F12.c5) (y := F12.c40) (by kernel_rfl) ?_
  refine run_seq (x := F12.c6) (y := F12.c7) (by kernel_rfl) ?_
  refine run_plain (id := 2) (ops := F12.o2) [(0, true), (1, true), (2, true), (3, false), (4, true)] (by kernel_rfl) (by kernel_rfl) ?_
  refine yS (by kernel_rfl : opAt F12.o2 0 = some (some 9, .move (.tmp 0), none)) rfl rfl (fun w' hS => val_move rfl) ?_
  refine yS (by kernel_rfl : opAt F12.o2 1 = some (some 10, .move (.tmp 1), none)) rfl rfl (fun w' hS => val_move rfl) ?_
  refine yS (by kernel_rfl : opAt F12.o2 2 = some (some 11, .binOp .add 3 (.tmp 10) (.const (.int .i64 1)) 3, none)) rfl rfl (fun w' hS => val_addi rfl rfl (by omega) (by omega)) ?_
  refine cS (by kernel_rfl : opAt F12.o2 3 = some (some 12, .call { callee := .value (.func 19), args := #[(.tmp 9), (.tmp 11)], argTypes := #[29, 3] }, none)) rfl rfl (ent Try.call19 rfl) (next_any (n := (most : Int) + 1) hF (by decide) hd (by omega) (by omega)) ?_
  rintro vw1 w1 ⟨k0, rfl, hk0, hs, hd⟩
  refine ⟨trivial, ?_⟩
  replace hF := hF.st hs
  replace hT := hT.trans hs (by simp)
  refine yS (by kernel_rfl : opAt F12.o2 4 = some (some 6, .assign (.tmp 12), none)) rfl rfl (fun w' hS => val_assign rfl) ?_
  refine Sch.nil ?_
  refine run_block (x := F12.c8) (id := 0) (by kernel_rfl) ?_
  
  refine run_loop (ι := Nat × (List Key) × Value × (Nat → Nat)) (I := fun x w => x.1 + x.2.1.length ≤ most ∧ (∀ y ∈ x.2.1, y.comps.length ≤ 3 ∧ ∀ c ∈ y.comps, 0 ≤ c.a ∧ c.a < 4 ∧ 1 ≤ c.b ∧ c.b ≤ 2) ∧ Lim w x.2.2.2 ∧ Stp [2, 3, 4, 5, 6, 7, 8, 9] w₀ (col2 C i) w x.2.2.2 ∧ DeckIs w x.2.2.2 2 b ∧ OwnL w x.2.2.2 3 28 x.2.2.1 x.2.1) (e := fun x => [(0, .pointer (some ⟨b, 0, none⟩)), (5, x.2.2.1), (6, .int .i64 x.1)]) (m := fun x => x.1) (x₀ := (k0, [], .slice none 0 0, col2 C i)) (body := F12.c9) (by kernel_rfl) (sub_cons 0 rfl rfl (sub_cons 5 rfl rfl (sub_cons 6 rfl rfl (sub_nil _)))) ?_ ?_
  · exact ⟨by simp only [List.length_nil]; omega, fun k hk => (by cases hk), hF, hT, hd, OwnL.nil⟩
  intro ⟨k, ks, vo, C1⟩ w2 hI next
  obtain ⟨hk, hok, hF, hT, hd, ho⟩ := hI
  try simp only at hk hok hF hT hd ho
  have next1 := next
  clear next
  show Run _ _ _ _ [(0, .pointer (some ⟨b, 0, none⟩)), (5, vo), (6, .int .i64 k)] _ _
  refine run_seq (x := F12.c10) (y := F12.c15) (by kernel_rfl) ?_
  refine run_seq (x := F12.c11) (y := F12.c12) (by kernel_rfl) ?_
  refine run_plain (id := 3) (ops := F12.o3) [(0, true), (1, true)] (by kernel_rfl) (by kernel_rfl) ?_
  refine yS (by kernel_rfl : opAt F12.o3 0 = some (some 13, .move (.tmp 6), none)) rfl rfl (fun w' hS => val_move rfl) ?_
  refine yS (by kernel_rfl : opAt F12.o3 1 = some (some 14, .binOp .gtr 3 (.tmp 13) (.const (.int .i64 0)) 3, none)) rfl rfl (fun w' hS => val_gtr rfl rfl) ?_
  refine Sch.nil ?_
  refine run_if (x := F12.c13) (y := F12.c14) (o := .tmp 14) (by kernel_rfl) rfl (fun h14 => ?_) (fun h14 => ?_)
  · skip
    have hk1 : 1 ≤ k := by omega
    refine run_skip (by kernel_rfl) ?_
    refine run_seq (x := F12.c16) (y := F12.c39) (by kernel_rfl) ?_
    refine run_block (x := F12.c17) (id := 1) (by kernel_rfl) ?_
    refine run_seq (x := F12.c18) (y := F12.c19) (by kernel_rfl) ?_
    refine run_plain (id := 5) (ops := F12.o5) [(0, false)] (by kernel_rfl) (by kernel_rfl) ?_
    refine aS (by kernel_rfl : opAt F12.o5 0 = some (some 7, .alloc 28, none)) rfl rfl (a_alloc (cs := [.slice none 0 0]) hF 4 (by kernel_rfl)) ?_
    rintro _ w3 ⟨Cw3, bw3, rfl, hs, hx, hF⟩
    refine ⟨trivial, ?_⟩
    replace hT := hT.trans hs (by simp)
    replace hd := hd.st hs (by first | decide | (simp <;> omega)) (by first | decide | (simp <;> omega))
    replace ho := ho.st hs (by first | decide | (simp <;> omega)) (by first | decide | (simp <;> omega))
    refine Sch.nil ?_
    refine run_seq (x := F12.c20) (y := F12.c38) (by kernel_rfl) ?_
    refine run_seq (x := F12.c21) (y := F12.c22) (by kernel_rfl) ?_
    refine run_plain (id := 6) (ops := F12.o6) [(0, true)] (by kernel_rfl) (by kernel_rfl) ?_
    refine yS (by kernel_rfl : opAt F12.o6 0 = some (some 8, .assign (.const (.int .i64 0)), none)) rfl rfl (fun w' hS => val_assign rfl) ?_
    refine Sch.nil ?_
    refine run_block (x := F12.c23) (id := 2) (by kernel_rfl) ?_
    
    refine run_loop (ι := Nat × (List Couple) × Value × (Nat → Nat)) (I := fun x w => x.1 ≤ 4 ∧ x.2.1.length ≤ 3 ∧ (∀ c ∈ x.2.1, 0 ≤ c.a ∧ c.a < 4 ∧ 1 ≤ c.b ∧ c.b ≤ 2) ∧ Lim w x.2.2.2 ∧ Stp [2, 3, 4, 5, 6, 7, 8, 9] w₀ (col2 C i) w x.2.2.2 ∧ DeckIs w x.2.2.2 2 b ∧ OwnL w x.2.2.2 3 28 vo ks ∧ OwnB w x.2.2.2 4 bw3 (.cells [x.2.2.1].toArray 28) ∧ OwnL w x.2.2.2 5 50 x.2.2.1 x.2.1) (e := fun x => [(0, .pointer (some ⟨b, 0, none⟩)), (5, vo), (6, .int .i64 k), (7, .pointer (some ⟨bw3, 0, none⟩)), (8, .int .i64 x.1)]) (m := fun x => 4 - x.1) (x₀ := (0, [], .slice none 0 0, Cw3)) (body := F12.c24) (by kernel_rfl) (sub_cons 0 rfl rfl (sub_cons 5 rfl rfl (sub_cons 6 rfl rfl (sub_cons 7 rfl rfl (sub_cons 8 rfl rfl (sub_nil _)))))) ?_ ?_
    · exact ⟨Nat.zero_le _, by simp, fun c hc => (by cases hc), hF, hT, hd, ho, hx, OwnL.nil⟩
    intro ⟨f, cs, vc, C2⟩ w4 hI next
    obtain ⟨hf, hc3, hcs, hF, hT, hd, ho, hx, hc⟩ := hI
    try simp only at hf hc3 hcs hF hT hd ho hx hc
    have next2 := next
    clear next
    show Run _ _ _ _ [(0, .pointer (some ⟨b, 0, none⟩)), (5, vo), (6, .int .i64 k), (7, .pointer (some ⟨bw3, 0, none⟩)), (8, .int .i64 f)] _ _
    refine run_seq (x := F12.c25) (y := F12.c30) (by kernel_rfl) ?_
    refine run_seq (x := F12.c26) (y := F12.c27) (by kernel_rfl) ?_
    refine run_cut 24 (decide (f < 4 ∧ cs.length < 3)) (C2) ?_ ?_
    · intro hcut
      by_cases hA : (f : Int) < 4
      · skip
        refine run_plain (id := 7) (ops := F12.o7) [(0, true), (1, true), (2, true), (3, true), (4, false), (5, true), (6, true), (7, true)] (by kernel_rfl) (by kernel_rfl) ?_
        refine yS (by kernel_rfl : opAt F12.o7 0 = some (some 17, .move (.tmp 8), none)) rfl rfl (fun w' hS => val_move rfl) ?_
        refine yS (by kernel_rfl : opAt F12.o7 1 = some (some 18, .binOp .lss 3 (.tmp 17) (.const (.int .i64 4)) 3, none)) rfl rfl (fun w' hS => val_T (val_lss rfl rfl) hA) ?_
        refine yS (by kernel_rfl : opAt F12.o7 2 = some (some 19, .move (.tmp 18), none)) rfl rfl (fun w' hS => val_move rfl) ?_
        refine yS (by kernel_rfl : opAt F12.o7 3 = some (some 20, .fieldAddr 28 (.tmp 7) 0, (some (2, true)))) rfl rfl (fun w' hS => val_fieldAddr (off := 0) (by kernel_rfl) rfl) ?_
        refine nS (by kernel_rfl : opAt F12.o7 4 = some (some 21, .load 26 (.tmp 20), (some (2, true)))) rfl rfl trivial (val_loadOwn hx.at_ (by kernel_rfl) rfl rfl) ?_
        refine yS (by kernel_rfl : opAt F12.o7 5 = some (some 22, .call { callee := .builtin .len, args := #[(.tmp 21)], argTypes := #[26] }, (some (2, true)))) rfl rfl (fun w' hS => hc.lenV rfl Try.underlying26 w' ) ?_
        refine yS (by kernel_rfl : opAt F12.o7 6 = some (some 23, .binOp .lss 3 (.tmp 22) (.const (.int .i64 3)) 3, (some (2, true)))) rfl rfl (fun w' hS => val_lss rfl rfl) ?_
        refine yS (by kernel_rfl : opAt F12.o7 7 = some (some 24, .pick (.tmp 19) (.tmp 23) (.const (.bool false)), none)) rfl rfl (fun w' hS => val_pick_t rfl rfl) ?_
        exact Sch.nil (hcut _ _ _ (Stp.refl _ _ _) rfl (by congr 1; apply decide_eq_decide.2; omega) (sub_skip rfl (sub_skip rfl (sub_skip rfl (sub_skip rfl (sub_skip rfl (sub_skip rfl (sub_skip rfl (sub_skip rfl (Sub.refl _))))))))))
      · skip
        refine run_plain (id := 7) (ops := F12.o7) [(0, true), (1, true), (2, true), (3, true), (4, false), (5, true), (6, true), (7, true)] (by kernel_rfl) (by kernel_rfl) ?_
        refine yS (by kernel_rfl : opAt F12.o7 0 = some (some 17, .move (.tmp 8), none)) rfl rfl (fun w' hS => val_move rfl) ?_
        refine yS (by kernel_rfl : opAt F12.o7 1 = some (some 18, .binOp .lss 3 (.tmp 17) (.const (.int .i64 4)) 3, none)) rfl rfl (fun w' hS => val_F (val_lss rfl rfl) hA) ?_
        refine yS (by kernel_rfl : opAt F12.o7 2 = some (some 19, .move (.tmp 18), none)) rfl rfl (fun w' hS => val_move rfl) ?_
        refine pS (by kernel_rfl : opAt F12.o7 3 = some (some 20, .fieldAddr 28 (.tmp 7) 0, (some (2, true)))) rfl rfl ?_
        refine pW (by kernel_rfl : opAt F12.o7 4 = some (some 21, .load 26 (.tmp 20), (some (2, true)))) rfl rfl trivial ?_
        refine pS (by kernel_rfl : opAt F12.o7 5 = some (some 22, .call { callee := .builtin .len, args := #[(.tmp 21)], argTypes := #[26] }, (some (2, true)))) rfl rfl ?_
        refine pS (by kernel_rfl : opAt F12.o7 6 = some (some 23, .binOp .lss 3 (.tmp 22) (.const (.int .i64 3)) 3, (some (2, true)))) rfl rfl ?_
        refine yS (by kernel_rfl : opAt F12.o7 7 = some (some 24, .pick (.tmp 19) (.tmp 23) (.const (.bool false)), none)) rfl rfl (fun w' hS => val_pick_f rfl rfl) ?_
        exact Sch.nil (hcut _ _ _ (Stp.refl _ _ _) rfl (by rw [decide_eq_false (by omega)]) (sub_skip rfl (sub_skip rfl (sub_skip rfl (sub_skip rfl (sub_skip rfl (sub_skip rfl (sub_skip rfl (sub_skip rfl (Sub.refl _))))))))))
    intro w5 hs
    replace hF := hF.st hs
    replace hT := hT.trans hs (by simp)
    replace hd := hd.st hs (by first | decide | (simp <;> omega)) (by first | decide | (simp <;> omega))
    replace ho := ho.st hs (by first | decide | (simp <;> omega)) (by first | decide | (simp <;> omega))
    replace hx := hx.st hs (by first | decide | (simp <;> omega))
    replace hc := hc.st hs (by first | decide | (simp <;> omega)) (by first | decide | (simp <;> omega))
    refine run_if (x := F12.c28) (y := F12.c29) (o := .tmp 24) (by kernel_rfl) rfl (fun h24 => ?_) (fun h24 => ?_)
    · skip
      refine run_skip (by kernel_rfl) ?_
      refine run_seq (x := F12.c31) (y := F12.c37) (by kernel_rfl) ?_
      refine run_block (x := F12.c32) (id := 3) (by kernel_rfl) ?_
      refine run_seq (x := F12.c33) (y := F12.c34) (by kernel_rfl) ?_
      refine run_plain (id := 9) (ops := F12.o9) [(0, true), (1, false)] (by kernel_rfl) (by kernel_rfl) ?_
      refine yS (by kernel_rfl : opAt F12.o9 0 = some (some 27, .move (.tmp 0), none)) rfl rfl (fun w' hS => val_move rfl) ?_
      refine cS (by kernel_rfl : opAt F12.o9 1 = some (some 28, .call { callee := .value (.func 26), args := #[(.tmp 27), (.const (.int .i64 2))], argTypes := #[29, 3] }, none)) rfl rfl (ent Try.call26 rfl) (one_any hF (by decide) hd (by decide) (by decide)) ?_
      rintro vw6 w6 ⟨tt, rfl, hs, hd⟩
      refine ⟨trivial, ?_⟩
      replace hF := hF.st hs
      replace hT := hT.trans hs (by simp)
      replace ho := ho.st hs (by first | decide | (simp <;> omega)) (by first | decide | (simp <;> omega))
      replace hx := hx.st hs (by first | decide | (simp <;> omega))
      replace hc := hc.st hs (by first | decide | (simp <;> omega)) (by first | decide | (simp <;> omega))
      refine Sch.nil ?_
      refine run_cond (x := F12.c35) (y := F12.c36) (o := .tmp 28) (by kernel_rfl) rfl (fun h28 => ?_) (fun h28 => ?_)
      · skip
        refine run_draw (id := 10) (ops := F12.o10) [2, 5] (C2) [(0, true), (1, true), (2, true), (3, true), (4, false), (5, true), (6, true), (7, false), (8, false), (9, true), (10, false)] Try_mixed (by kernel_rfl) (by kernel_rfl) (by kernel_rfl) ?_
        intro w7 hs
        replace hF := hF.st hs
        replace hT := hT.trans hs (by simp)
        replace hd := hd.st hs (by first | decide | (simp <;> omega)) (by first | decide | (simp <;> omega))
        replace ho := ho.st hs (by first | decide | (simp <;> omega)) (by first | decide | (simp <;> omega))
        replace hx := hx.st hs (by first | decide | (simp <;> omega))
        replace hc := hc.st hs (by first | decide | (simp <;> omega)) (by first | decide | (simp <;> omega))
        have hR := Stp.refl [2, 5] w7 (C2)
        refine yS (by kernel_rfl : opAt F12.o10 0 = some (some 29, .fieldAddr 28 (.tmp 7) 0, none)) rfl rfl (fun w' hS => val_fieldAddr (off := 0) (by kernel_rfl) rfl) ?_
        refine yS (by kernel_rfl : opAt F12.o10 1 = some (some 30, .load 26 (.tmp 29), none)) rfl rfl (fun w' hS => val_loadOwn (hx.stay hS (by decide)) (by kernel_rfl) rfl rfl) ?_
        refine yS (by kernel_rfl : opAt F12.o10 2 = some (some 31, .move (.tmp 8), none)) rfl rfl (fun w' hS => val_move rfl) ?_
        refine yS (by kernel_rfl : opAt F12.o10 3 = some (some 32, .move (.tmp 0), none)) rfl rfl (fun w' hS => val_move rfl) ?_
        refine cS (by kernel_rfl : opAt F12.o10 4 = some (some 33, .call { callee := .value (.func 19), args := #[(.tmp 32), (.const (.int .i64 2))], argTypes := #[29, 3] }, none)) rfl rfl (ent Try.call19 rfl) (next_any (n := 2) hF (by decide) hd (by omega) (by omega)) ?_
        rintro vw8 w8 ⟨k2, rfl, hk2, hs, hd⟩
        refine ⟨(hR.trans hs (by simp)).ext, ?_⟩
        replace hF := hF.st hs
        replace hT := hT.trans hs (by simp)
        replace ho := ho.st hs (by first | decide | (simp <;> omega)) (by first | decide | (simp <;> omega))
        replace hx := hx.st hs (by first | decide | (simp <;> omega))
        replace hc := hc.st hs (by first | decide | (simp <;> omega)) (by first | decide | (simp <;> omega))
        replace hR := hR.trans hs (by simp)
        refine yS (by kernel_rfl : opAt F12.o10 5 = some (some 34, .binOp .add 3 (.const (.int .i64 1)) (.tmp 33) 3, none)) rfl rfl (fun w' hS => val_addi rfl rfl (by omega) (by omega)) ?_
        refine yS (by kernel_rfl : opAt F12.o10 6 = some (some 35, .build 50 #[(0, (.tmp 31)), (1, (.tmp 34))], none)) rfl rfl (fun w' hS => val_build (zs := [.int .i64 0, .int .i64 0]) (ps := [(0, 1), (1, 1)]) (qs := [(0, [.int .i64 (f : Int)]), (1, [.int .i64 (1 + (k2 : Int))])]) (cs := [.int .i64 (f : Int), .int .i64 (1 + (k2 : Int))]) (by kernel_rfl) (by kernel_rfl) ⟨rfl, ⟨_, rfl, rfl⟩, rfl, ⟨_, rfl, rfl⟩, trivial⟩ rfl) ?_
        refine aS (by kernel_rfl : opAt F12.o10 7 = some (some 36, .buildSlice 26 1 #[(0, (.tmp 35))], none)) rfl rfl (a_buildSlice (ys := ([(⟨(f : Int), 1 + (k2 : Int)⟩ : Couple)] : List Couple)) (e := 50) (bytes := 16) hF (by kernel_rfl) rfl (by decide) (by decide) ⟨rfl, ⟨_, rfl, rv_couple.2 rfl⟩, trivial⟩) ?_
        rintro v36 w9 ⟨hs, g36, hF⟩
        refine ⟨(hR.trans hs (by simp)).ext, ?_⟩
        replace hT := hT.trans hs (by simp)
        replace hd := hd.st hs (by first | decide | (simp <;> omega)) (by first | decide | (simp <;> omega))
        replace ho := ho.st hs (by first | decide | (simp <;> omega)) (by first | decide | (simp <;> omega))
        replace hx := hx.st hs (by first | decide | (simp <;> omega))
        replace hc := hc.st hs (by first | decide | (simp <;> omega)) (by first | decide | (simp <;> omega))
        replace hR := hR.trans hs (by simp)
        refine aS (by kernel_rfl : opAt F12.o10 8 = some (some 37, .call { callee := .builtin .append, args := #[(.tmp 30), (.tmp 36)], argTypes := #[26, 26] }, none)) rfl rfl (a_append (e := 50) (bytes := 16) hF (by decide) rfl rfl (by kernel_rfl) (by decide) hc g36 (by simp; omega) (by simp; omega)) ?_
        rintro v37 w10 ⟨Cw10, hs, hc, hF⟩
        refine ⟨(hR.trans hs (by simp)).ext, ?_⟩
        replace hT := hT.trans hs (by simp)
        replace hd := hd.st hs (by first | decide | (simp <;> omega)) (by first | decide | (simp <;> omega))
        replace ho := ho.st hs (by first | decide | (simp <;> omega)) (by first | decide | (simp <;> omega))
        replace hx := hx.st hs (by first | decide | (simp <;> omega))
        replace hR := hR.trans hs (by simp)
        replace g36 := g36.st hs (by first | decide | (simp <;> omega))
        refine yS (by kernel_rfl : opAt F12.o10 9 = some (some 38, .fieldAddr 28 (.tmp 7) 0, none)) rfl rfl (fun w' hS => val_fieldAddr (off := 0) (by kernel_rfl) rfl) ?_
        refine Sch.free rfl ?_
        refine aN (by kernel_rfl : opAt F12.o10 10 = some (none, .store 26 (.tmp 38) (.tmp 37), none)) rfl (a_store1 rfl rfl (by kernel_rfl) hc.one.1 hc.one.2 hx (by simp)) ?_
        rintro _ w11 ⟨rfl, hs, hx⟩
        refine ⟨trivial, ?_⟩
        replace hF := hF.st hs
        replace hT := hT.trans hs (by simp)
        replace hd := hd.st hs (by first | decide | (simp <;> omega)) (by first | decide | (simp <;> omega))
        replace ho := ho.st hs (by first | decide | (simp <;> omega)) (by first | decide | (simp <;> omega))
        replace hc := hc.st hs (by first | decide | (simp <;> omega)) (by first | decide | (simp <;> omega))
        replace g36 := g36.st hs (by first | decide | (simp <;> omega))
        refine Sch.nil ?_
        refine run_inBlock ?_
        refine run_plain (id := 8) (ops := F12.o8) [(0, true), (1, true), (2, true)] (by kernel_rfl) (by kernel_rfl) ?_
        refine yS (by kernel_rfl : opAt F12.o8 0 = some (some 25, .move (.tmp 8), none)) rfl rfl (fun w' hS => val_move rfl) ?_
        refine yS (by kernel_rfl : opAt F12.o8 1 = some (some 26, .binOp .add 3 (.tmp 25) (.const (.int .i64 1)) 3, none)) rfl rfl (fun w' hS => val_addi rfl rfl (by omega) (by omega)) ?_
        refine yS (by kernel_rfl : opAt F12.o8 2 = some (some 8, .assign (.tmp 26), none)) rfl rfl (fun w' hS => val_assign rfl) ?_
        refine Sch.nil ?_
        refine kp (sub_cons 0 rfl rfl (sub_cons 5 rfl rfl (sub_cons 6 rfl rfl (sub_cons 7 rfl rfl (sub_cons 8 rfl (eq_int (by simp)) (sub_nil _)))))) (next2 (f + 1, cs ++ [(⟨(f : Int), 1 + (k2 : Int)⟩ : Couple)], v37, Cw10) _ ⟨(by first | omega | (simp only; omega)), (by simp only [List.length_append, List.length_singleton]; omega), (fun c hc => by
            rcases List.mem_append.1 hc with h | h
            · exact hcs c h
            · rw [List.mem_singleton.1 h]; simp only; omega), hF, hT, hd, ho, hx, hc⟩ (by first | omega | (simp only; omega)))
      · skip
        refine run_skip (by kernel_rfl) ?_
        refine run_inBlock ?_
        refine run_plain (id := 8) (ops := F12.o8) [(0, true), (1, true), (2, true)] (by kernel_rfl) (by kernel_rfl) ?_
        refine yS (by kernel_rfl : opAt F12.o8 0 = some (some 25, .move (.tmp 8), none)) rfl rfl (fun w' hS => val_move rfl) ?_
        refine yS (by kernel_rfl : opAt F12.o8 1 = some (some 26, .binOp .add 3 (.tmp 25) (.const (.int .i64 1)) 3, none)) rfl rfl (fun w' hS => val_addi rfl rfl (by omega) (by omega)) ?_
        refine yS (by kernel_rfl : opAt F12.o8 2 = some (some 8, .assign (.tmp 26), none)) rfl rfl (fun w' hS => val_assign rfl) ?_
        refine Sch.nil ?_
        refine kp (sub_cons 0 rfl rfl (sub_cons 5 rfl rfl (sub_cons 6 rfl rfl (sub_cons 7 rfl rfl (sub_cons 8 rfl (eq_int (by simp)) (sub_nil _)))))) (next2 (f + 1, cs, vc, C2) _ ⟨(by first | omega | (simp only; omega)), (by first | omega | (simp only; omega)), (by first | omega | (simp only; omega)), hF, hT, hd, ho, hx, hc⟩ (by first | omega | (simp only; omega)))
    · skip
      have hcr := hc.frz (n := 5) (by decide) (by omega)
      replace hd := hd.frz (n := 5) (by decide)
      replace ho := ho.frzK (n := 5) (by decide)
      replace hx := hx.frz (n := 5) (by decide)
      replace hF := hF.frz 5
      replace hT := hT.frz (n := 5) (fun b => Nat.lt_of_lt_of_le (col2_lt3 C i b) (by decide))
      clear hc
      refine run_exit (id := 2) (by kernel_rfl) rfl ?_
      refine run_plain (id := 11) (ops := F12.o11) [(0, true), (1, false), (2, false), (3, false), (4, true)] (by kernel_rfl) (by kernel_rfl) ?_
      refine yS (by kernel_rfl : opAt F12.o11 0 = some (some 39, .move (.tmp 5), none)) rfl rfl (fun w' hS => val_move rfl) ?_
      refine nS (by kernel_rfl : opAt F12.o11 1 = some (some 40, .load 28 (.tmp 7), none)) rfl rfl trivial (val_loadOwnAgg (n := 1) hx.at_ (by kernel_rfl) (by kernel_rfl) rfl rfl rfl) ?_
      refine aS (by kernel_rfl : opAt F12.o11 2 = some (some 41, .buildSlice 23 1 #[(0, (.tmp 40))], none)) rfl rfl (a_buildSlice (ys := ([⟨cs⟩] : List Key)) (e := 28) (bytes := 24) hF (by kernel_rfl) rfl (by decide) (by decide) ⟨rfl, ⟨_, rfl, rv_key hcr⟩, trivial⟩) ?_
      rintro v41 w12 ⟨hs, g41, hF⟩
      refine ⟨trivial, ?_⟩
      replace hT := hT.trans hs (by simp)
      replace hd := hd.st hs (by first | decide | (simp <;> omega)) (by first | decide | (simp <;> omega))
      replace ho := ho.st hs (by first | decide | (simp <;> omega)) (by first | decide | (simp <;> omega))
      replace hx := hx.st hs (by first | decide | (simp <;> omega))
      replace hcr := hcr.st hs (by first | decide | (simp <;> omega))
      refine aS (by kernel_rfl : opAt F12.o11 3 = some (some 42, .call { callee := .builtin .append, args := #[(.tmp 39), (.tmp 41)], argTypes := #[23, 23] }, none)) rfl rfl (a_append (e := 28) (bytes := 24) hF (by decide) rfl rfl (by kernel_rfl) (by decide) ho g41 (by simp; omega) (by simp; omega)) ?_
      rintro v42 w13 ⟨Cw13, hs, ho, hF⟩
      refine ⟨trivial, ?_⟩
      replace hT := hT.trans hs (by simp)
      replace hd := hd.st hs (by first | decide | (simp <;> omega)) (by first | decide | (simp <;> omega))
      replace hx := hx.st hs (by first | decide | (simp <;> omega))
      replace hcr := hcr.st hs (by first | decide | (simp <;> omega))
      replace g41 := g41.st hs (by first | decide | (simp <;> omega))
      refine yS (by kernel_rfl : opAt F12.o11 4 = some (some 5, .assign (.tmp 42), none)) rfl rfl (fun w' hS => val_assign rfl) ?_
      refine Sch.nil ?_
      refine run_inBlock ?_
      refine run_plain (id := 4) (ops := F12.o4) [(0, true), (1, true), (2, true)] (by kernel_rfl) (by kernel_rfl) ?_
      refine yS (by kernel_rfl : opAt F12.o4 0 = some (some 15, .move (.tmp 6), none)) rfl rfl (fun w' hS => val_move rfl) ?_
      refine yS (by kernel_rfl : opAt F12.o4 1 = some (some 16, .binOp .sub 3 (.tmp 15) (.const (.int .i64 1)) 3, none)) rfl rfl (fun w' hS => val_subi rfl rfl (by omega) (by omega)) ?_
      refine yS (by kernel_rfl : opAt F12.o4 2 = some (some 6, .assign (.tmp 16), none)) rfl rfl (fun w' hS => val_assign rfl) ?_
      refine Sch.nil ?_
      refine kp (sub_cons 0 rfl rfl (sub_cons 5 rfl rfl (sub_cons 6 rfl (eq_int (by simp only; omega)) (sub_nil _)))) (next1 (k - 1, ks ++ [⟨cs⟩], v42, Cw13) _ ⟨(by simp only [List.length_append, List.length_singleton]; omega), (fun k hk => by
          rcases List.mem_append.1 hk with h | h
          · exact hok k h
          · rw [List.mem_singleton.1 h]; exact ⟨hc3, hcs⟩), hF, hT, hd, ho⟩ (by first | omega | (simp only; omega)))
  · skip
    refine run_exit (id := 0) (by kernel_rfl) rfl ?_
    refine run_seq (x := F12.c41) (y := F12.c42) (by kernel_rfl) ?_
    refine run_plain (id := 12) (ops := F12.o12) [(0, true), (1, true)] (by kernel_rfl) (by kernel_rfl) ?_
    refine yS (by kernel_rfl : opAt F12.o12 0 = some (some 43, .move (.tmp 5), none)) rfl rfl (fun w' hS => val_move rfl) ?_
    refine yS (by kernel_rfl : opAt F12.o12 1 = some (some 4, .assign (.tmp 43), none)) rfl rfl (fun w' hS => val_assign rfl) ?_
    refine Sch.nil ?_
    refine run_ret1 (by kernel_rfl) Try.func12 Try.results12 rfl ?_
    exact ⟨ks, hT.out2 (by decide), ho.out hT hF0 (Mc_col2 C i) (fun b _ => col2_lt C i (by decide) b) (by omega), hd.out hT hF0 hbc, by omega, hok⟩
end Go.Proofs.Ytpmokjccfaakfaa

