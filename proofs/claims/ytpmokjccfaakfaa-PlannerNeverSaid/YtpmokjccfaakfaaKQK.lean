/- Steps through functions of the program. -/
import Derived.Test.YtpmokjccfaakfaaKQE
import Derived.Test.YtpmokjccfaakfaaKB
set_option linter.unusedVariables false
set_option linter.unusedSimpArgs false
set_option maxRecDepth 100000
set_option maxHeartbeats 400000
namespace Go.Proofs.Ytpmokjccfaakfaa
open Go.K Go.K.Rep

theorem DeckIs.give {w' : World} {C1 C' : Nat → Nat} {b i : Nat} (h : DeckIs w' C1 2 b) (hM : ∀ b, Mc C' b → Mc C1 b) (hb : C' b = i) : DeckIs w' C' i b := let ⟨d, ⟨h1, v, h2, h3⟩, h4⟩ := h; ⟨d, ⟨h1, v, RV.give h2 hM, ⟨hb, h3.at_⟩⟩, h4⟩
namespace F12O
noncomputable def c0 : Code := bodyOf Try.f12
noncomputable def c1 : Code := cl c0
noncomputable def o0 : Array Oper := rops c1
noncomputable def c2 : Code := cr c0
noncomputable def c3 : Code := cl c2
noncomputable def o1 : Array Oper := rops c3
noncomputable def c4 : Code := cr c2
noncomputable def c5 : Code := cl c4
noncomputable def c6 : Code := cl c5
noncomputable def o2 : Array Oper := rops c6
noncomputable def c7 : Code := cr c5
noncomputable def c8 : Code := cl c7
noncomputable def c9 : Code := cl c8
noncomputable def c10 : Code := cl c9
noncomputable def c11 : Code := cl c10
noncomputable def o3 : Array Oper := rops c11
noncomputable def c12 : Code := cr c10
noncomputable def c13 : Code := cl c12
noncomputable def c14 : Code := cr c12
noncomputable def c15 : Code := cr c9
noncomputable def c16 : Code := cl c15
noncomputable def c17 : Code := cl c16
noncomputable def c18 : Code := cl c17
noncomputable def o5 : Array Oper := rops c18
noncomputable def c19 : Code := cr c17
noncomputable def c20 : Code := cl c19
noncomputable def c21 : Code := cl c20
noncomputable def o6 : Array Oper := rops c21
noncomputable def c22 : Code := cr c20
noncomputable def c23 : Code := cl c22
noncomputable def c24 : Code := cl c23
noncomputable def c25 : Code := cl c24
noncomputable def c26 : Code := cl c25
noncomputable def o7 : Array Oper := rops c26
noncomputable def c27 : Code := cr c25
noncomputable def c28 : Code := cl c27
noncomputable def c29 : Code := cr c27
noncomputable def c30 : Code := cr c24
noncomputable def c31 : Code := cl c30
noncomputable def c32 : Code := cl c31
noncomputable def c33 : Code := cl c32
noncomputable def o9 : Array Oper := rops c33
noncomputable def c34 : Code := cr c32
noncomputable def c35 : Code := cl c34
noncomputable def o10 : Array Oper := rops c35
noncomputable def c36 : Code := cr c34
noncomputable def c37 : Code := cr c30
noncomputable def o8 : Array Oper := rops c37
noncomputable def c38 : Code := cr c19
noncomputable def o11 : Array Oper := rops c38
noncomputable def c39 : Code := cr c15
noncomputable def o4 : Array Oper := rops c39
noncomputable def c40 : Code := cr c4
noncomputable def c41 : Code := cl c40
noncomputable def o12 : Array Oper := rops c41
noncomputable def c42 : Code := cr c40
end F12O
/-- Some keys. -/
theorem keys_own {w₀ : World} {C : Nat → Nat} {i b most : Nat} (hF : Lim w₀ C) (hi : i ≠ 0) (hd : DeckIs w₀ C i b) (hm : most ≤ 8) (j : Nat) (hjj : j ≠ 0) : Calls Try.prog 12 #[.pointer (some ⟨b, 0, none⟩), .int .i64 (most : Int)] w₀ (Ret fun v w' => ∃ C9 ks, Stp [i] w₀ C w' C9 ∧ Lim w' C9 ∧ OwnL w' C9 j 28 v (ks : List Key) ∧ DeckIs w' C9 i b ∧ ks.length ≤ most ∧ ∀ k ∈ ks, k.comps.length ≤ 3 ∧ ∀ c ∈ k.comps, 0 ≤ c.a ∧ c.a < 4 ∧ 1 ≤ c.b ∧ c.b ≤ 2) := by
  have hF0 := hF
  have hbc := hd.colour
  replace hd := hd.col2 hi
  have hT := Stp.refl [2, 3, 4, 5, 6, 7, 8, 9] w₀ (col2 C i)
  replace hF := hF.col2 i
  refine calls_start (c := F12O.c0) (N := 44) [.pointer (some ⟨b, 0, none⟩), .int .i64 (most : Int)] Try.func12 (by kernel_rfl) (by kernel_rfl) (by kernel_rfl) ?_
  show Run _ _ _ _ [(0, .pointer (some ⟨b, 0, none⟩)), (1, .int .i64 (most : Int))] _ _
  refine run_seq (x := F12O.c1) (y := F12O.c2) (by kernel_rfl) ?_
  refine run_plain (id := 0) (ops := F12O.o0) [(0, true)] (by kernel_rfl) (by kernel_rfl) ?_
  refine yS (by kernel_rfl : opAt F12O.o0 0 = some (some 4, .assign (.const (.slice none 0 0)), none)) rfl rfl (fun w' hS => val_assign rfl) ?_
  refine Sch.nil ?_
  refine run_seq (x := F12O.c3) (y := F12O.c4) (by kernel_rfl) ?_
  refine run_plain (id := 1) (ops := F12O.o1) [(0, true)] (by kernel_rfl) (by kernel_rfl) ?_
  refine yS (by kernel_rfl : opAt F12O.o1 0 = some (some 5, .assign (.const (.slice none 0 0)), none)) rfl rfl (fun w' hS => val_assign rfl) ?_
  refine Sch.nil ?_
  refine run_seq (x := F12O.c5) (y := F12O.c40) (by kernel_rfl) ?_
  refine run_seq (x := F12O.c6) (y := F12O.c7) (by kernel_rfl) ?_
  refine run_plain (id := 2) (ops := F12O.o2) [(0, true), (1, true), (2, true), (3, false), (4, true)] (by kernel_rfl) (by kernel_rfl) ?_
  refine yS (by kernel_rfl : opAt F12O.o2 0 = some (some 9, .move (.tmp 0), none)) rfl rfl (fun w' hS => val_move rfl) ?_
  refine yS (by kernel_rfl : opAt F12O.o2 1 = some (some 10, .move (.tmp 1), none)) rfl rfl (fun w' hS => val_move rfl) ?_
  refine yS (by kernel_rfl : opAt F12O.o2 2 = some (some 11, .binOp .add 3 (.tmp 10) (.const (.int .i64 1)) 3, none)) rfl rfl (fun w' hS => val_addi rfl rfl (by omega) (by omega)) ?_
  refine cS (by kernel_rfl : opAt F12O.o2 3 = some (some 12, .call { callee := .value (.func 19), args := #[(.tmp 9), (.tmp 11)], argTypes := #[29, 3] }, none)) rfl rfl (ent Try.call19 rfl) (next_any (n := (most : Int) + 1) hF (by decide) hd (by omega) (by omega)) ?_
  rintro vw1 w1 ⟨k0, rfl, hk0, hs, hd⟩
  refine ⟨trivial, ?_⟩
  replace hF := hF.st hs
  replace hT := hT.trans hs (by simp)
  refine yS (by kernel_rfl : opAt F12O.o2 4 = some (some 6, .assign (.tmp 12), none)) rfl rfl (fun w' hS => val_assign rfl) ?_
  refine Sch.nil ?_
  refine run_block (x := F12O.c8) (id := 0) (by kernel_rfl) ?_
  
  refine run_loop (ι := Nat × (List Key) × Value × (Nat → Nat)) (I := fun x w => x.1 + x.2.1.length ≤ most ∧ (∀ y ∈ x.2.1, y.comps.length ≤ 3 ∧ ∀ c ∈ y.comps, 0 ≤ c.a ∧ c.a < 4 ∧ 1 ≤ c.b ∧ c.b ≤ 2) ∧ Lim w x.2.2.2 ∧ Stp [2, 3, 4, 5, 6, 7, 8, 9] w₀ (col2 C i) w x.2.2.2 ∧ DeckIs w x.2.2.2 2 b ∧ OwnL w x.2.2.2 3 28 x.2.2.1 x.2.1) (e := fun x => [(0, .pointer (some ⟨b, 0, none⟩)), (5, x.2.2.1), (6, .int .i64 x.1)]) (m := fun x => x.1) (x₀ := (k0, [], .slice none 0 0, col2 C i)) (body := F12O.c9) (by kernel_rfl) (sub_cons 0 rfl rfl (sub_cons 5 rfl rfl (sub_cons 6 rfl rfl (sub_nil _)))) ?_ ?_
  · exact ⟨by simp only [List.length_nil]; omega, fun k hk => (by cases hk), hF, hT, hd, OwnL.nil⟩
  intro ⟨k, ks, vo, C1⟩ w2 hI next
  obtain ⟨hk, hok, hF, hT, hd, ho⟩ := hI
  try simp only at hk hok hF hT hd ho
  have next1 := next
  clear next
  show Run _ _ _ _ [(0, .pointer (some ⟨b, 0, none⟩)), (5, vo), (6, .int .i64 k)] _ _
  refine run_seq (x := F12O.c10) (y := F12O.c15) (by kernel_rfl) ?_
  refine run_seq (x := F12O.c11) (y := F12O.c12) (by kernel_rfl) ?_
  refine run_plain (id := 3) (ops := F12O.o3) [(0, true), (1, true)] (by kernel_rfl) (by kernel_rfl) ?_
  refine yS (by kernel_rfl : opAt F12O.o3 0 = some (some 13, .move (.tmp 6), none)) rfl rfl (fun w' hS => val_move rfl) ?_
  refine yS (by kernel_rfl : opAt F12O.o3 1 = some (some 14, .binOp .gtr 3 (.tmp 13) (.const (.int .i64 0)) 3, none)) rfl rfl (fun w' hS => val_gtr rfl rfl) ?_
  refine Sch.nil ?_
  refine run_if (x := F12O.c13) (y := F12O.c14) (o := .tmp 14) (by kernel_rfl) rfl (fun h14 => ?_) (fun h14 => ?_)
  · skip
    have hk1 : 1 ≤ k := by omega
    refine run_skip (by kernel_rfl) ?_
    refine run_seq (x := F12O.c16) (y := F12O.c39) (by kernel_rfl) ?_
    refine run_block (x := F12O.c17) (id := 1) (by kernel_rfl) ?_
    refine run_seq (x := F12O.c18) (y := F12O.c19) (by kernel_rfl) ?_
    refine run_plain (id := 5) (ops := F12O.o5) [(0, false)] (by kernel_rfl) (by kernel_rfl) ?_
    refine aS (by kernel_rfl : opAt F12O.o5 0 = some (some 7, .alloc 28, none)) rfl rfl (a_alloc (cs := [.slice none 0 0]) hF 4 (by kernel_rfl)) ?_
    rintro _ w3 ⟨Cw3, bw3, rfl, hs, hx, hF⟩
    refine ⟨trivial, ?_⟩
    replace hT := hT.trans hs (by simp)
    replace hd := hd.st hs (by first | decide | (simp <;> omega)) (by first | decide | (simp <;> omega))
    replace ho := ho.st hs (by first | decide | (simp <;> omega)) (by first | decide | (simp <;> omega))
    refine Sch.nil ?_
    refine run_seq (x := F12O.c20) (y := F12O.c38) (by kernel_rfl) ?_
    refine run_seq (x := F12O.c21) (y := F12O.c22) (by kernel_rfl) ?_
    refine run_plain (id := 6) (ops := F12O.o6) [(0, true)] (by kernel_rfl) (by kernel_rfl) ?_
    refine yS (by kernel_rfl : opAt F12O.o6 0 = some (some 8, .assign (.const (.int .i64 0)), none)) rfl rfl (fun w' hS => val_assign rfl) ?_
    refine Sch.nil ?_
    refine run_block (x := F12O.c23) (id := 2) (by kernel_rfl) ?_
    
    refine run_loop (ι := Nat × (List Couple) × Value × (Nat → Nat)) (I := fun x w => x.1 ≤ 4 ∧ x.2.1.length ≤ 3 ∧ (∀ c ∈ x.2.1, 0 ≤ c.a ∧ c.a < 4 ∧ 1 ≤ c.b ∧ c.b ≤ 2) ∧ Lim w x.2.2.2 ∧ Stp [2, 3, 4, 5, 6, 7, 8, 9] w₀ (col2 C i) w x.2.2.2 ∧ DeckIs w x.2.2.2 2 b ∧ OwnL w x.2.2.2 3 28 vo ks ∧ OwnB w x.2.2.2 4 bw3 (.cells [x.2.2.1].toArray 28) ∧ OwnL w x.2.2.2 5 50 x.2.2.1 x.2.1) (e := fun x => [(0, .pointer (some ⟨b, 0, none⟩)), (5, vo), (6, .int .i64 k), (7, .pointer (some ⟨bw3, 0, none⟩)), (8, .int .i64 x.1)]) (m := fun x => 4 - x.1) (x₀ := (0, [], .slice none 0 0, Cw3)) (body := F12O.c24) (by kernel_rfl) (sub_cons 0 rfl rfl (sub_cons 5 rfl rfl (sub_cons 6 rfl rfl (sub_cons 7 rfl rfl (sub_cons 8 rfl rfl (sub_nil _)))))) ?_ ?_
    · exact ⟨Nat.zero_le _, by simp, fun c hc => (by cases hc), hF, hT, hd, ho, hx, OwnL.nil⟩
    intro ⟨f, cs, vc, C2⟩ w4 hI next
    obtain ⟨hf, hc3, hcs, hF, hT, hd, ho, hx, hc⟩ := hI
    try simp only at hf hc3 hcs hF hT hd ho hx hc
    have next2 := next
    clear next
    show Run _ _ _ _ [(0, .pointer (some ⟨b, 0, none⟩)), (5, vo), (6, .int .i64 k), (7, .pointer (some ⟨bw3, 0, none⟩)), (8, .int .i64 f)] _ _
    refine run_seq (x := F12O.c25) (y := F12O.c30) (by kernel_rfl) ?_
    refine run_seq (x := F12O.c26) (y := F12O.c27) (by kernel_rfl) ?_
    refine run_cut 24 (decide (f < 4 ∧ cs.length < 3)) (C2) ?_ ?_
    · intro hcut
      by_cases hA : (f : Int) < 4
      · skip
        refine run_plain (id := 7) (ops := F12O.o7) [(0, true), (1, true), (2, true), (3, true), (4, false), (5, true), (6, true), (7, true)] (by kernel_rfl) (by kernel_rfl) ?_
        refine yS (by kernel_rfl : opAt F12O.o7 0 = some (some 17, .move (.tmp 8), none)) rfl rfl (fun w' hS => val_move rfl) ?_
        refine yS (by kernel_rfl : opAt F12O.o7 1 = some (some 18, .binOp .lss 3 (.tmp 17) (.const (.int .i64 4)) 3, none)) rfl rfl (fun w' hS => val_T (val_lss rfl rfl) hA) ?_
        refine yS (by kernel_rfl : opAt F12O.o7 2 = some (some 19, .move (.tmp 18), none)) rfl rfl (fun w' hS => val_move rfl) ?_
        refine yS (by kernel_rfl : opAt F12O.o7 3 = some (some 20, .fieldAddr 28 (.tmp 7) 0, (some (2, true)))) rfl rfl (fun w' hS => val_fieldAddr (off := 0) (by kernel_rfl) rfl) ?_
        refine nS (by kernel_rfl : opAt F12O.o7 4 = some (some 21, .load 26 (.tmp 20), (some (2, true)))) rfl rfl trivial (val_loadOwn hx.at_ (by kernel_rfl) rfl rfl) ?_
        refine yS (by kernel_rfl : opAt F12O.o7 5 = some (some 22, .call { callee := .builtin .len, args := #[(.tmp 21)], argTypes := #[26] }, (some (2, true)))) rfl rfl (fun w' hS => hc.lenV rfl Try.underlying26 w' ) ?_
        refine yS (by kernel_rfl : opAt F12O.o7 6 = some (some 23, .binOp .lss 3 (.tmp 22) (.const (.int .i64 3)) 3, (some (2, true)))) rfl rfl (fun w' hS => val_lss rfl rfl) ?_
        refine yS (by kernel_rfl : opAt F12O.o7 7 = some (some 24, .pick (.tmp 19) (.tmp 23) (.const (.bool false)), none)) rfl rfl (fun w' hS => val_pick_t rfl rfl) ?_
        exact Sch.nil (hcut _ _ _ (Stp.refl _ _ _) rfl (by congr 1; apply decide_eq_decide.2; omega) (sub_skip rfl (sub_skip rfl (sub_skip rfl (sub_skip rfl (sub_skip rfl (sub_skip rfl (sub_skip rfl (sub_skip rfl (Sub.refl _))))))))))
      · skip
        refine run_plain (id := 7) (ops := F12O.o7) [(0, true), (1, true), (2, true), (3, true), (4, false), (5, true), (6, true), (7, true)] (by kernel_rfl) (by kernel_rfl) ?_
        refine yS (by kernel_rfl : opAt F12O.o7 0 = some (some 17, .move (.tmp 8), none)) rfl rfl (fun w' hS => val_move rfl) ?_
        refine yS (by kernel_rfl : opAt F12O.o7 1 = some (some 18, .binOp .lss 3 (.tmp 17) (.const (.int .i64 4)) 3, none)) rfl rfl (fun w' hS => val_F (val_lss rfl rfl) hA) ?_
        refine yS (by kernel_rfl : opAt F12O.o7 2 = some (some 19, .move (.tmp 18), none)) rfl rfl (fun w' hS => val_move rfl) ?_
        refine pS (by kernel_rfl : opAt F12O.o7 3 = some (some 20, .fieldAddr 28 (.tmp 7) 0, (some (2, true)))) rfl rfl ?_
        refine pW (by kernel_rfl : opAt F12O.o7 4 = some (some 21, .load 26 (.tmp 20), (some (2, true)))) rfl rfl trivial ?_
        refine pS (by kernel_rfl : opAt F12O.o7 5 = some (some 22, .call { callee := .builtin .len, args := #[(.tmp 21)], argTypes := #[26] }, (some (2, true)))) rfl rfl ?_
        refine pS (by kernel_rfl : opAt F12O.o7 6 = some (some 23, .binOp .lss 3 (.tmp 22) (.const (.int .i64 3)) 3, (some (2, true)))) rfl rfl ?_
        refine yS (by kernel_rfl : opAt F12O.o7 7 = some (some 24, .pick (.tmp 19) (.tmp 23) (.const (.bool false)), none)) rfl rfl (fun w' hS => val_pick_f rfl rfl) ?_
        exact Sch.nil (hcut _ _ _ (Stp.refl _ _ _) rfl (by rw [decide_eq_false (by omega)]) (sub_skip rfl (sub_skip rfl (sub_skip rfl (sub_skip rfl (sub_skip rfl (sub_skip rfl (sub_skip rfl (sub_skip rfl (Sub.refl _))))))))))
    intro w5 hs
    replace hF := hF.st hs
    replace hT := hT.trans hs (by simp)
    replace hd := hd.st hs (by first | decide | (simp <;> omega)) (by first | decide | (simp <;> omega))
    replace ho := ho.st hs (by first | decide | (simp <;> omega)) (by first | decide | (simp <;> omega))
    replace hx := hx.st hs (by first | decide | (simp <;> omega))
    replace hc := hc.st hs (by first | decide | (simp <;> omega)) (by first | decide | (simp <;> omega))
    refine run_if (x := F12O.c28) (y := F12O.c29) (o := .tmp 24) (by kernel_rfl) rfl (fun h24 => ?_) (fun h24 => ?_)
    · skip
      refine run_skip (by kernel_rfl) ?_
      refine run_seq (x := F12O.c31) (y := F12O.c37) (by kernel_rfl) ?_
      refine run_block (x := F12O.c32) (id := 3) (by kernel_rfl) ?_
      refine run_seq (x := F12O.c33) (y := F12O.c34) (by kernel_rfl) ?_
      refine run_plain (id := 9) (ops := F12O.o9) [(0, true), (1, false)] (by kernel_rfl) (by kernel_rfl) ?_
      refine yS (by kernel_rfl : opAt F12O.o9 0 = some (some 27, .move (.tmp 0), none)) rfl rfl (fun w' hS => val_move rfl) ?_
      refine cS (by kernel_rfl : opAt F12O.o9 1 = some (some 28, .call { callee := .value (.func 26), args := #[(.tmp 27), (.const (.int .i64 2))], argTypes := #[29, 3] }, none)) rfl rfl (ent Try.call26 rfl) (one_any hF (by decide) hd (by decide) (by decide)) ?_
      rintro vw6 w6 ⟨tt, rfl, hs, hd⟩
      refine ⟨trivial, ?_⟩
      replace hF := hF.st hs
      replace hT := hT.trans hs (by simp)
      replace ho := ho.st hs (by first | decide | (simp <;> omega)) (by first | decide | (simp <;> omega))
      replace hx := hx.st hs (by first | decide | (simp <;> omega))
      replace hc := hc.st hs (by first | decide | (simp <;> omega)) (by first | decide | (simp <;> omega))
      refine Sch.nil ?_
      refine run_cond (x := F12O.c35) (y := F12O.c36) (o := .tmp 28) (by kernel_rfl) rfl (fun h28 => ?_) (fun h28 => ?_)
      · skip
        refine run_draw (id := 10) (ops := F12O.o10) [2, 5] (C2) [(0, true), (1, true), (2, true), (3, true), (4, false), (5, true), (6, true), (7, false), (8, false), (9, true), (10, false)] Try_mixed (by kernel_rfl) (by kernel_rfl) (by kernel_rfl) ?_
        intro w7 hs
        replace hF := hF.st hs
        replace hT := hT.trans hs (by simp)
        replace hd := hd.st hs (by first | decide | (simp <;> omega)) (by first | decide | (simp <;> omega))
        replace ho := ho.st hs (by first | decide | (simp <;> omega)) (by first | decide | (simp <;> omega))
        replace hx := hx.st hs (by first | decide | (simp <;> omega))
        replace hc := hc.st hs (by first | decide | (simp <;> omega)) (by first | decide | (simp <;> omega))
        have hR := Stp.refl [2, 5] w7 (C2)
        refine yS (by kernel_rfl : opAt F12O.o10 0 = some (some 29, .fieldAddr 28 (.tmp 7) 0, none)) rfl rfl (fun w' hS => val_fieldAddr (off := 0) (by kernel_rfl) rfl) ?_
        refine yS (by kernel_rfl : opAt F12O.o10 1 = some (some 30, .load 26 (.tmp 29), none)) rfl rfl (fun w' hS => val_loadOwn (hx.stay hS (by decide)) (by kernel_rfl) rfl rfl) ?_
        refine yS (by kernel_rfl : opAt F12O.o10 2 = some (some 31, .move (.tmp 8), none)) rfl rfl (fun w' hS => val_move rfl) ?_
        refine yS (by kernel_rfl : opAt F12O.o10 3 = some (some 32, .move (.tmp 0), none)) rfl rfl (fun w' hS => val_move rfl) ?_
        refine cS (by kernel_rfl : opAt F12O.o10 4 = some (some 33, .call { callee := .value (.func 19), args := #[(.tmp 32), (.const (.int .i64 2))], argTypes := #[29, 3] }, none)) rfl rfl (ent Try.call19 rfl) (next_any (n := 2) hF (by decide) hd (by omega) (by omega)) ?_
        rintro vw8 w8 ⟨k2, rfl, hk2, hs, hd⟩
        refine ⟨(hR.trans hs (by simp)).ext, ?_⟩
        replace hF := hF.st hs
        replace hT := hT.trans hs (by simp)
        replace ho := ho.st hs (by first | decide | (simp <;> omega)) (by first | decide | (simp <;> omega))
        replace hx := hx.st hs (by first | decide | (simp <;> omega))
        replace hc := hc.st hs (by first | decide | (simp <;> omega)) (by first | decide | (simp <;> omega))
        replace hR := hR.trans hs (by simp)
        refine yS (by kernel_rfl : opAt F12O.o10 5 = some (some 34, .binOp .add 3 (.const (.int .i64 1)) (.tmp 33) 3, none)) rfl rfl (fun w' hS => val_addi rfl rfl (by omega) (by omega)) ?_
        refine yS (by kernel_rfl : opAt F12O.o10 6 = some (some 35, .build 50 #[(0, (.tmp 31)), (1, (.tmp 34))], none)) rfl rfl (fun w' hS => val_build (zs := [.int .i64 0, .int .i64 0]) (ps := [(0, 1), (1, 1)]) (qs := [(0, [.int .i64 (f : Int)]), (1, [.int .i64 (1 + (k2 : Int))])]) (cs := [.int .i64 (f : Int), .int .i64 (1 + (k2 : Int))]) (by kernel_rfl) (by kernel_rfl) ⟨rfl, ⟨_, rfl, rfl⟩, rfl, ⟨_, rfl, rfl⟩, trivial⟩ rfl) ?_
        refine aS (by kernel_rfl : opAt F12O.o10 7 = some (some 36, .buildSlice 26 1 #[(0, (.tmp 35))], none)) rfl rfl (a_buildSlice (ys := ([(⟨(f : Int), 1 + (k2 : Int)⟩ : Couple)] : List Couple)) (e := 50) (bytes := 16) hF (by kernel_rfl) rfl (by decide) (by decide) ⟨rfl, ⟨_, rfl, rv_couple.2 rfl⟩, trivial⟩) ?_
        rintro v36 w9 ⟨hs, g36, hF⟩
        refine ⟨(hR.trans hs (by simp)).ext, ?_⟩
        replace hT := hT.trans hs (by simp)
        replace hd := hd.st hs (by first | decide | (simp <;> omega)) (by first | decide | (simp <;> omega))
        replace ho := ho.st hs (by first | decide | (simp <;> omega)) (by first | decide | (simp <;> omega))
        replace hx := hx.st hs (by first | decide | (simp <;> omega))
        replace hc := hc.st hs (by first | decide | (simp <;> omega)) (by first | decide | (simp <;> omega))
        replace hR := hR.trans hs (by simp)
        refine aS (by kernel_rfl : opAt F12O.o10 8 = some (some 37, .call { callee := .builtin .append, args := #[(.tmp 30), (.tmp 36)], argTypes := #[26, 26] }, none)) rfl rfl (a_append (e := 50) (bytes := 16) hF (by decide) rfl rfl (by kernel_rfl) (by decide) hc g36 (by simp; omega) (by simp; omega)) ?_
        rintro v37 w10 ⟨Cw10, hs, hc, hF⟩
        refine ⟨(hR.trans hs (by simp)).ext, ?_⟩
        replace hT := hT.trans hs (by simp)
        replace hd := hd.st hs (by first | decide | (simp <;> omega)) (by first | decide | (simp <;> omega))
        replace ho := ho.st hs (by first | decide | (simp <;> omega)) (by first | decide | (simp <;> omega))
        replace hx := hx.st hs (by first | decide | (simp <;> omega))
        replace hR := hR.trans hs (by simp)
        replace g36 := g36.st hs (by first | decide | (simp <;> omega))
        refine yS (by kernel_rfl : opAt F12O.o10 9 = some (some 38, .fieldAddr 28 (.tmp 7) 0, none)) rfl rfl (fun w' hS => val_fieldAddr (off := 0) (by kernel_rfl) rfl) ?_
        refine Sch.free rfl ?_
        refine aN (by kernel_rfl : opAt F12O.o10 10 = some (none, .store 26 (.tmp 38) (.tmp 37), none)) rfl (a_store1 rfl rfl (by kernel_rfl) hc.one.1 hc.one.2 hx (by simp)) ?_
        rintro _ w11 ⟨rfl, hs, hx⟩
        refine ⟨trivial, ?_⟩
        replace hF := hF.st hs
        replace hT := hT.trans hs (by simp)
        replace hd := hd.st hs (by first | decide | (simp <;> omega)) (by first | decide | (simp <;> omega))
        replace ho := ho.st hs (by first | decide | (simp <;> omega)) (by first | decide | (simp <;> omega))
        replace hc := hc.st hs (by first | decide | (simp <;> omega)) (by first | decide | (simp <;> omega))
        replace g36 := g36.st hs (by first | decide | (simp <;> omega))
        refine Sch.nil ?_
        refine run_inBlock ?_
        refine run_plain (id := 8) (ops := F12O.o8) [(0, true), (1, true), (2, true)] (by kernel_rfl) (by kernel_rfl) ?_
        refine yS (by kernel_rfl : opAt F12O.o8 0 = some (some 25, .move (.tmp 8), none)) rfl rfl (fun w' hS => val_move rfl) ?_
        refine yS (by kernel_rfl : opAt F12O.o8 1 = some (some 26, .binOp .add 3 (.tmp 25) (.const (.int .i64 1)) 3, none)) rfl rfl (fun w' hS => val_addi rfl rfl (by omega) (by omega)) ?_
        refine yS (by kernel_rfl : opAt F12O.o8 2 = some (some 8, .assign (.tmp 26), none)) rfl rfl (fun w' hS => val_assign rfl) ?_
        refine Sch.nil ?_
        refine kp (sub_cons 0 rfl rfl (sub_cons 5 rfl rfl (sub_cons 6 rfl rfl (sub_cons 7 rfl rfl (sub_cons 8 rfl (eq_int (by simp)) (sub_nil _)))))) (next2 (f + 1, cs ++ [(⟨(f : Int), 1 + (k2 : Int)⟩ : Couple)], v37, Cw10) _ ⟨(by first | omega | (simp only; omega)), (by simp only [List.length_append, List.length_singleton]; omega), (fun c hc => by
            rcases List.mem_append.1 hc with h | h
            · exact hcs c h
            · rw [List.mem_singleton.1 h]; simp only; omega), hF, hT, hd, ho, hx, hc⟩ (by first | omega | (simp only; omega)))
      · skip
        refine run_skip (by kernel_rfl) ?_
        refine run_inBlock ?_
        refine run_plain (id := 8) (ops := F12O.o8) [(0, true), (1, true), (2, true)] (by kernel_rfl) (by kernel_rfl) ?_
        refine yS (by kernel_rfl : opAt F12O.o8 0 = some (some 25, .move (.tmp 8), none)) rfl rfl (fun w' hS => val_move rfl) ?_
        refine yS (by kernel_rfl : opAt F12O.o8 1 = some (some 26, .binOp .add 3 (.tmp 25) (.const (.int .i64 1)) 3, none)) rfl rfl (fun w' hS => val_addi rfl rfl (by omega) (by omega)) ?_
        refine yS (by kernel_rfl : opAt F12O.o8 2 = some (some 8, .assign (.tmp 26), none)) rfl rfl (fun w' hS => val_assign rfl) ?_
        refine Sch.nil ?_
        refine kp (sub_cons 0 rfl rfl (sub_cons 5 rfl rfl (sub_cons 6 rfl rfl (sub_cons 7 rfl rfl (sub_cons 8 rfl (eq_int (by simp)) (sub_nil _)))))) (next2 (f + 1, cs, vc, C2) _ ⟨(by first | omega | (simp only; omega)), (by first | omega | (simp only; omega)), (by first | omega | (simp only; omega)), hF, hT, hd, ho, hx, hc⟩ (by first | omega | (simp only; omega)))
    · skip
      have hcr := hc.frz (n := 5) (by decide) (by omega)
      replace hd := hd.frz (n := 5) (by decide)
      replace ho := ho.frzK (n := 5) (by decide)
      replace hx := hx.frz (n := 5) (by decide)
      replace hF := hF.frz 5
      replace hT := hT.frz (n := 5) (fun b => Nat.lt_of_lt_of_le (col2_lt3 C i b) (by decide))
      clear hc
      refine run_exit (id := 2) (by kernel_rfl) rfl ?_
      refine run_plain (id := 11) (ops := F12O.o11) [(0, true), (1, false), (2, false), (3, false), (4, true)] (by kernel_rfl) (by kernel_rfl) ?_
      refine yS (by kernel_rfl : opAt F12O.o11 0 = some (some 39, .move (.tmp 5), none)) rfl rfl (fun w' hS => val_move rfl) ?_
      refine nS (by kernel_rfl : opAt F12O.o11 1 = some (some 40, .load 28 (.tmp 7), none)) rfl rfl trivial (val_loadOwnAgg (n := 1) hx.at_ (by kernel_rfl) (by kernel_rfl) rfl rfl rfl) ?_
      refine aS (by kernel_rfl : opAt F12O.o11 2 = some (some 41, .buildSlice 23 1 #[(0, (.tmp 40))], none)) rfl rfl (a_buildSlice (ys := ([⟨cs⟩] : List Key)) (e := 28) (bytes := 24) hF (by kernel_rfl) rfl (by decide) (by decide) ⟨rfl, ⟨_, rfl, rv_key hcr⟩, trivial⟩) ?_
      rintro v41 w12 ⟨hs, g41, hF⟩
      refine ⟨trivial, ?_⟩
      replace hT := hT.trans hs (by simp)
      replace hd := hd.st hs (by first | decide | (simp <;> omega)) (by first | decide | (simp <;> omega))
      replace ho := ho.st hs (by first | decide | (simp <;> omega)) (by first | decide | (simp <;> omega))
      replace hx := hx.st hs (by first | decide | (simp <;> omega))
      replace hcr := hcr.st hs (by first | decide | (simp <;> omega))
      refine aS (by kernel_rfl : opAt F12O.o11 3 = some (some 42, .call { callee := .builtin .append, args := #[(.tmp 39), (.tmp 41)], argTypes := #[23, 23] }, none)) rfl rfl (a_append (e := 28) (bytes := 24) hF (by decide) rfl rfl (by kernel_rfl) (by decide) ho g41 (by simp; omega) (by simp; omega)) ?_
      rintro v42 w13 ⟨Cw13, hs, ho, hF⟩
      refine ⟨trivial, ?_⟩
      replace hT := hT.trans hs (by simp)
      replace hd := hd.st hs (by first | decide | (simp <;> omega)) (by first | decide | (simp <;> omega))
      replace hx := hx.st hs (by first | decide | (simp <;> omega))
      replace hcr := hcr.st hs (by first | decide | (simp <;> omega))
      replace g41 := g41.st hs (by first | decide | (simp <;> omega))
      refine yS (by kernel_rfl : opAt F12O.o11 4 = some (some 5, .assign (.tmp 42), none)) rfl rfl (fun w' hS => val_assign rfl) ?_
      refine Sch.nil ?_
      refine run_inBlock ?_
      refine run_plain (id := 4) (ops := F12O.o4) [(0, true), (1, true), (2, true)] (by kernel_rfl) (by kernel_rfl) ?_
      refine yS (by kernel_rfl : opAt F12O.o4 0 = some (some 15, .move (.tmp 6), none)) rfl rfl (fun w' hS => val_move rfl) ?_
      refine yS (by kernel_rfl : opAt F12O.o4 1 = some (some 16, .binOp .sub 3 (.tmp 15) (.const (.int .i64 1)) 3, none)) rfl rfl (fun w' hS => val_subi rfl rfl (by omega) (by omega)) ?_
      refine yS (by kernel_rfl : opAt F12O.o4 2 = some (some 6, .assign (.tmp 16), none)) rfl rfl (fun w' hS => val_assign rfl) ?_
      refine Sch.nil ?_
      refine kp (sub_cons 0 rfl rfl (sub_cons 5 rfl rfl (sub_cons 6 rfl (eq_int (by simp only; omega)) (sub_nil _)))) (next1 (k - 1, ks ++ [⟨cs⟩], v42, Cw13) _ ⟨(by simp only [List.length_append, List.length_singleton]; omega), (fun k hk => by
          rcases List.mem_append.1 hk with h | h
          · exact hok k h
          · rw [List.mem_singleton.1 h]; exact ⟨hc3, hcs⟩), hF, hT, hd, ho⟩ (by first | omega | (simp only; omega)))
  · skip
    refine run_exit (id := 0) (by kernel_rfl) rfl ?_
    refine run_seq (x := F12O.c41) (y := F12O.c42) (by kernel_rfl) ?_
    refine run_plain (id := 12) (ops := F12O.o12) [(0, true), (1, true)] (by kernel_rfl) (by kernel_rfl) ?_
    refine yS (by kernel_rfl : opAt F12O.o12 0 = some (some 43, .move (.tmp 5), none)) rfl rfl (fun w' hS => val_move rfl) ?_
    refine yS (by kernel_rfl : opAt F12O.o12 1 = some (some 4, .assign (.tmp 43), none)) rfl rfl (fun w' hS => val_assign rfl) ?_
    refine Sch.nil ?_
    refine run_ret1 (by kernel_rfl) Try.func12 Try.results12 rfl ?_
    obtain ⟨C9, hc9, hL9, hM9, ho9⟩ := ho.give hT hF0 (Mc_col2 C i) (fun b _ => col2_lt C i (by decide) b) (by decide) j hjj
    have hb9 : C9 b = i := by rw [hc9 b (hF0 b (by rw [hbc]; exact hi)), hbc]
    exact ⟨C9, ks, (hT.out2 (by decide)).give hc9, hL9, ho9, hd.give hM9 hb9, by omega, hok⟩
namespace F16O
noncomputable def c0 : Code := bodyOf Try.f16
noncomputable def c1 : Code := cl c0
noncomputable def o0 : Array Oper := rops c1
noncomputable def c2 : Code := cr c0
noncomputable def c3 : Code := cl c2
noncomputable def o1 : Array Oper := rops c3
noncomputable def c4 : Code := cr c2
noncomputable def c5 : Code := cl c4
noncomputable def c6 : Code := cl c5
noncomputable def o2 : Array Oper := rops c6
noncomputable def c7 : Code := cr c5
noncomputable def c8 : Code := cl c7
noncomputable def c9 : Code := cl c8
noncomputable def c10 : Code := cl c9
noncomputable def o3 : Array Oper := rops c10
noncomputable def c11 : Code := cr c9
noncomputable def c12 : Code := cl c11
noncomputable def c13 : Code := cl c12
noncomputable def c14 : Code := cr c12
noncomputable def c15 : Code := cr c11
noncomputable def c16 : Code := cl c15
noncomputable def c17 : Code := cl c16
noncomputable def o4 : Array Oper := rops c17
noncomputable def c18 : Code := cr c15
noncomputable def o5 : Array Oper := rops c18
noncomputable def c19 : Code := cr c4
noncomputable def c20 : Code := cl c19
noncomputable def o6 : Array Oper := rops c20
noncomputable def c21 : Code := cr c19
end F16O
/-- Some rates. -/
theorem rates_own {w₀ : World} {C : Nat → Nat} {i b : Nat} {ks : List Key} {vk : Value} (hF : Lim w₀ C) (hi : i ≠ 0) (hd : DeckIs w₀ C i b) (hk : RV w₀ (Mc C) ks vk) (hs0 : KeysSm ks) (j : Nat) (hjj : j ≠ 0) : Calls Try.prog 16 #[.pointer (some ⟨b, 0, none⟩), vk] w₀ (Ret fun v w' => ∃ C9 rs, Stp [i] w₀ C w' C9 ∧ Lim w' C9 ∧ OwnL w' C9 j 3 v (rs : List Int) ∧ DeckIs w' C9 i b ∧ rs.length = (atomsS ks).length ∧ RatesOK rs) := by
  have hF0 := hF
  have hbc := hd.colour
  replace hd := hd.col2 hi
  have hT := Stp.refl [2, 3, 4, 5, 6, 7, 8, 9] w₀ (col2 C i)
  replace hF := hF.col2 i
  replace hk : RV w₀ (Mc (col2 C i)) ks vk := by rw [Mc_col2]; exact hk
  refine calls_start (c := F16O.c0) (N := 23) [.pointer (some ⟨b, 0, none⟩), vk] Try.func16 (by kernel_rfl) (by kernel_rfl) (by kernel_rfl) ?_
  show Run _ _ _ _ [(0, .pointer (some ⟨b, 0, none⟩)), (1, vk)] _ _
  refine run_seq (x := F16O.c1) (y := F16O.c2) (by kernel_rfl) ?_
  refine run_plain (id := 0) (ops := F16O.o0) [(0, true)] (by kernel_rfl) (by kernel_rfl) ?_
  refine yS (by kernel_rfl : opAt F16O.o0 0 = some (some 4, .assign (.const (.slice none 0 0)), none)) rfl rfl (fun w' hS => val_assign rfl) ?_
  refine Sch.nil ?_
  refine run_seq (x := F16O.c3) (y := F16O.c4) (by kernel_rfl) ?_
  refine run_plain (id := 1) (ops := F16O.o1) [(0, true)] (by kernel_rfl) (by kernel_rfl) ?_
  refine yS (by kernel_rfl : opAt F16O.o1 0 = some (some 5, .assign (.const (.slice none 0 0)), none)) rfl rfl (fun w' hS => val_assign rfl) ?_
  refine Sch.nil ?_
  refine run_seq (x := F16O.c5) (y := F16O.c19) (by kernel_rfl) ?_
  refine run_seq (x := F16O.c6) (y := F16O.c7) (by kernel_rfl) ?_
  refine run_plain (id := 2) (ops := F16O.o2) [(0, true), (1, false), (2, true), (3, true)] (by kernel_rfl) (by kernel_rfl) ?_
  refine yS (by kernel_rfl : opAt F16O.o2 0 = some (some 6, .move (.tmp 1), none)) rfl rfl (fun w' hS => val_move rfl) ?_
  refine cS (by kernel_rfl : opAt F16O.o2 1 = some (some 7, .call { callee := .value (.func 15), args := #[(.tmp 6)], argTypes := #[23] }, none)) rfl rfl (ent Try.call15 rfl) (refAtoms_ok hF hk hs0) ?_
  rintro vw1 w1 ⟨hs, ha⟩
  refine ⟨trivial, ?_⟩
  replace hF := hF.st hs
  replace hT := hT.trans hs (by simp)
  replace hd := hd.st hs (by first | decide | (simp <;> omega)) (by first | decide | (simp <;> omega))
  replace hk := hk.st hs (by first | decide | (simp <;> omega))
  have hal := atomsS_len hs0
  refine yS (by kernel_rfl : opAt F16O.o2 2 = some (some 8, .call { callee := .builtin .len, args := #[(.tmp 7)], argTypes := #[26] }, none)) rfl rfl (fun w' hS => ha.lenV rfl Try.underlying26 w' ) ?_
  refine yS (by kernel_rfl : opAt F16O.o2 3 = some (some 9, .move (.const (.int .i64 0)), none)) rfl rfl (fun w' hS => val_move rfl) ?_
  refine Sch.nil ?_
  refine run_block (x := F16O.c8) (id := 0) (by kernel_rfl) ?_
  
  refine run_loop (ι := Nat × (List Int) × Value × (Nat → Nat)) (I := fun x w => x.1 ≤ (atomsS ks).length ∧ x.2.1.length = x.1 ∧ RatesOK x.2.1 ∧ Lim w x.2.2.2 ∧ Stp [2, 3, 4, 5, 6, 7, 8, 9] w₀ (col2 C i) w x.2.2.2 ∧ DeckIs w x.2.2.2 2 b ∧ OwnL w x.2.2.2 3 3 x.2.2.1 x.2.1) (e := fun x => [(0, .pointer (some ⟨b, 0, none⟩)), (5, x.2.2.1), (8, .int .i64 (atomsS ks).length), (9, .int .i64 x.1)]) (m := fun x => (atomsS ks).length - x.1) (x₀ := (0, [], .slice none 0 0, col2 C i)) (body := F16O.c9) (by kernel_rfl) (sub_cons 0 rfl rfl (sub_cons 5 rfl rfl (sub_cons 8 rfl rfl (sub_cons 9 rfl rfl (sub_nil _))))) ?_ ?_
  · exact ⟨Nat.zero_le _, rfl, fun r hr => (by cases hr), hF, hT, hd, OwnL.nil⟩
  intro ⟨q, rs, vo, C1⟩ w2 hI next
  obtain ⟨hq, hrl, hro, hF, hT, hd, ho⟩ := hI
  try simp only at hq hrl hro hF hT hd ho
  have next1 := next
  clear next
  show Run _ _ _ _ [(0, .pointer (some ⟨b, 0, none⟩)), (5, vo), (8, .int .i64 (atomsS ks).length), (9, .int .i64 q)] _ _
  refine run_seq (x := F16O.c10) (y := F16O.c11) (by kernel_rfl) ?_
  refine run_plain (id := 3) (ops := F16O.o3) [(0, true)] (by kernel_rfl) (by kernel_rfl) ?_
  refine yS (by kernel_rfl : opAt F16O.o3 0 = some (some 10, .binOp .lss 3 (.tmp 9) (.tmp 8) 3, none)) rfl rfl (fun w' hS => val_lss rfl rfl) ?_
  refine Sch.nil ?_
  refine run_seq (x := F16O.c12) (y := F16O.c15) (by kernel_rfl) ?_
  refine run_if (x := F16O.c13) (y := F16O.c14) (o := .tmp 10) (by kernel_rfl) rfl (fun h10 => ?_) (fun h10 => ?_)
  · skip
    refine run_skip (by kernel_rfl) ?_
    refine run_seq (x := F16O.c16) (y := F16O.c18) (by kernel_rfl) ?_
    refine run_block (x := F16O.c17) (id := 1) (by kernel_rfl) ?_
    refine run_plain (id := 4) (ops := F16O.o4) [(0, true), (1, true), (2, false), (3, false), (4, true), (5, false), (6, true), (7, false), (8, false), (9, false), (10, true)] (by kernel_rfl) (by kernel_rfl) ?_
    refine yS (by kernel_rfl : opAt F16O.o4 0 = some (some 11, .move (.tmp 5), none)) rfl rfl (fun w' hS => val_move rfl) ?_
    refine yS (by kernel_rfl : opAt F16O.o4 1 = some (some 12, .move (.tmp 0), none)) rfl rfl (fun w' hS => val_move rfl) ?_
    refine cS (by kernel_rfl : opAt F16O.o4 2 = some (some 13, .call { callee := .value (.func 19), args := #[(.tmp 12), (.const (.int .i64 64))], argTypes := #[29, 3] }, none)) rfl rfl (ent Try.call19 rfl) (next_any (n := 64) hF (by decide) hd (by omega) (by omega)) ?_
    rintro vw3 w3 ⟨k, rfl, hk, hs, hd⟩
    refine ⟨trivial, ?_⟩
    replace hF := hF.st hs
    replace hT := hT.trans hs (by simp)
    replace ho := ho.st hs (by first | decide | (simp <;> omega)) (by first | decide | (simp <;> omega))
    refine aS (by kernel_rfl : opAt F16O.o4 3 = some (some 14, .buildSlice 22 7 #[(0, (.const (.int .i64 0))), (1, (.const (.int .i64 1))), (2, (.const (.int .i64 3))), (3, (.const (.int .i64 8))), (4, (.const (.int .i64 32))), (5, (.const (.int .i64 64))), (6, (.tmp 13))], none)) rfl rfl (a_buildSlice (ys := ([0, 1, 3, 8, 32, 64, (k : Int)] : List Int)) (e := 3) (bytes := 8) hF (by kernel_rfl) rfl (by decide) (by decide) ⟨rfl, ⟨_, rfl, rv_int.2 rfl⟩, rfl, ⟨_, rfl, rv_int.2 rfl⟩, rfl, ⟨_, rfl, rv_int.2 rfl⟩, rfl, ⟨_, rfl, rv_int.2 rfl⟩, rfl, ⟨_, rfl, rv_int.2 rfl⟩, rfl, ⟨_, rfl, rv_int.2 rfl⟩, rfl, ⟨_, rfl, rv_int.2 rfl⟩, trivial⟩) ?_
    rintro v14 w4 ⟨hs, g14, hF⟩
    refine ⟨trivial, ?_⟩
    replace hT := hT.trans hs (by simp)
    replace hd := hd.st hs (by first | decide | (simp <;> omega)) (by first | decide | (simp <;> omega))
    replace ho := ho.st hs (by first | decide | (simp <;> omega)) (by first | decide | (simp <;> omega))
    obtain ⟨opts, hopts⟩ : ∃ l : List Int, l = [0, 1, 3, 8, 32, 64, (k : Int)] := ⟨_, rfl⟩
    rw [← hopts] at g14
    have hol : opts.length = 7 := by rw [hopts]; rfl
    have hoo : RatesOK opts := fun r hr => by rw [hopts] at hr; simp only [List.mem_cons, List.not_mem_nil, or_false] at hr; omega
    refine yS (by kernel_rfl : opAt F16O.o4 4 = some (some 15, .move (.tmp 0), none)) rfl rfl (fun w' hS => val_move rfl) ?_
    refine cS (by kernel_rfl : opAt F16O.o4 5 = some (some 16, .call { callee := .value (.func 19), args := #[(.tmp 15), (.const (.int .i64 7))], argTypes := #[29, 3] }, none)) rfl rfl (ent Try.call19 rfl) (next_any (n := 7) hF (by decide) hd (by omega) (by omega)) ?_
    rintro vw5 w5 ⟨m, rfl, hm, hs, hd⟩
    refine ⟨trivial, ?_⟩
    replace hF := hF.st hs
    replace hT := hT.trans hs (by simp)
    replace ho := ho.st hs (by first | decide | (simp <;> omega)) (by first | decide | (simp <;> omega))
    replace g14 := g14.st hs (by first | decide | (simp <;> omega))
    refine iS (e := 3) (by kernel_rfl : opAt F16O.o4 6 = some (some 17, .indexAddr 22 (.tmp 14) (.tmp 16), none)) rfl rfl g14 rfl (by kernel_rfl) rfl (by omega) (by omega) ?_
    intro b17 o17 h17
    try simp only [Int.toNat_natCast] at h17
    refine lN (by kernel_rfl : opAt F16O.o4 7 = some (some 18, .load 3 (.tmp 17), none)) rfl rfl trivial h17 (by kernel_rfl) rfl rfl ?_
    intro v18 g18
    obtain rfl := rv_int.1 g18
    refine aS (by kernel_rfl : opAt F16O.o4 8 = some (some 19, .buildSlice 22 1 #[(0, (.tmp 18))], none)) rfl rfl (a_buildSlice (ys := ([opts[m]'(by omega)] : List Int)) (e := 3) (bytes := 8) hF (by kernel_rfl) rfl (by decide) (by decide) ⟨rfl, ⟨_, rfl, rv_int.2 rfl⟩, trivial⟩) ?_
    rintro v19 w6 ⟨hs, g19, hF⟩
    refine ⟨trivial, ?_⟩
    replace hT := hT.trans hs (by simp)
    replace hd := hd.st hs (by first | decide | (simp <;> omega)) (by first | decide | (simp <;> omega))
    replace ho := ho.st hs (by first | decide | (simp <;> omega)) (by first | decide | (simp <;> omega))
    replace g14 := g14.st hs (by first | decide | (simp <;> omega))
    replace h17 := h17.st hs (by first | decide | (simp <;> omega))
    refine aS (by kernel_rfl : opAt F16O.o4 9 = some (some 20, .call { callee := .builtin .append, args := #[(.tmp 11), (.tmp 19)], argTypes := #[22, 22] }, none)) rfl rfl (a_append (e := 3) (bytes := 8) hF (by decide) rfl rfl (by kernel_rfl) (by decide) ho g19 (by simp; omega) (by simp; omega)) ?_
    rintro v20 w7 ⟨Cw7, hs, ho, hF⟩
    refine ⟨trivial, ?_⟩
    replace hT := hT.trans hs (by simp)
    replace hd := hd.st hs (by first | decide | (simp <;> omega)) (by first | decide | (simp <;> omega))
    replace g14 := g14.st hs (by first | decide | (simp <;> omega))
    replace h17 := h17.st hs (by first | decide | (simp <;> omega))
    replace g19 := g19.st hs (by first | decide | (simp <;> omega))
    refine yS (by kernel_rfl : opAt F16O.o4 10 = some (some 5, .assign (.tmp 20), none)) rfl rfl (fun w' hS => val_assign rfl) ?_
    refine Sch.nil ?_
    refine run_inBlock ?_
    refine run_plain (id := 5) (ops := F16O.o5) [(0, true), (1, true)] (by kernel_rfl) (by kernel_rfl) ?_
    refine yS (by kernel_rfl : opAt F16O.o5 0 = some (some 21, .binOp .add 3 (.tmp 9) (.const (.int .i64 1)) 3, none)) rfl rfl (fun w' hS => val_addi rfl rfl (by omega) (by omega)) ?_
    refine yS (by kernel_rfl : opAt F16O.o5 1 = some (some 9, .move (.tmp 21), none)) rfl rfl (fun w' hS => val_move rfl) ?_
    refine Sch.nil ?_
    refine kp (sub_cons 0 rfl rfl (sub_cons 5 rfl rfl (sub_cons 8 rfl rfl (sub_cons 9 rfl (eq_int (by simp)) (sub_nil _))))) (next1 (q + 1, rs ++ [opts[m]'(by omega)], v20, Cw7) _ ⟨(by first | omega | (simp only; omega)), (by simp only [List.length_append, List.length_singleton]; omega), (fun r hr => by
        rcases List.mem_append.1 hr with h | h
        · exact hro r h
        · rw [List.mem_singleton.1 h]; exact hoo _ (List.getElem_mem _)), hF, hT, hd, ho⟩ (by first | omega | (simp only; omega)))
  · skip
    refine run_exit (id := 0) (by kernel_rfl) rfl ?_
    refine run_seq (x := F16O.c20) (y := F16O.c21) (by kernel_rfl) ?_
    refine run_plain (id := 6) (ops := F16O.o6) [(0, true), (1, true)] (by kernel_rfl) (by kernel_rfl) ?_
    refine yS (by kernel_rfl : opAt F16O.o6 0 = some (some 22, .move (.tmp 5), none)) rfl rfl (fun w' hS => val_move rfl) ?_
    refine yS (by kernel_rfl : opAt F16O.o6 1 = some (some 4, .assign (.tmp 22), none)) rfl rfl (fun w' hS => val_assign rfl) ?_
    refine Sch.nil ?_
    refine run_ret1 (by kernel_rfl) Try.func16 Try.results16 rfl ?_
    obtain ⟨C9, hc9, hL9, hM9, ho9⟩ := ho.give hT hF0 (Mc_col2 C i) (fun b _ => col2_lt C i (by decide) b) (by decide) j hjj
    have hb9 : C9 b = i := by rw [hc9 b (hF0 b (by rw [hbc]; exact hi)), hbc]
    exact ⟨C9, rs, (hT.out2 (by decide)).give hc9, hL9, ho9, hd.give hM9 hb9, by omega, hro⟩
end Go.Proofs.Ytpmokjccfaakfaa

