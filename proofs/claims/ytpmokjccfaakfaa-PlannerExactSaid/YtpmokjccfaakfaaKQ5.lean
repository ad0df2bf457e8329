/- Steps through functions of the program. -/
import Derived.Test.YtpmokjccfaakfaaKQ4
set_option linter.unusedVariables false
set_option linter.unusedSimpArgs false
set_option maxRecDepth 100000
set_option maxHeartbeats 400000
namespace Go.Proofs.Ytpmokjccfaakfaa
open Go.K Go.K.Rep

namespace F37
noncomputable def c0 : Code := bodyOf Try.f37
noncomputable def c1 : Code := cl c0
noncomputable def o0 : Array Oper := rops c1
noncomputable def c2 : Code := cr c0
noncomputable def c3 : Code := cl c2
noncomputable def o1 : Array Oper := rops c3
noncomputable def c4 : Code := cr c2
noncomputable def c5 : Code := cl c4
noncomputable def o2 : Array Oper := rops c5
noncomputable def c6 : Code := cr c4
noncomputable def c7 : Code := cl c6
noncomputable def c8 : Code := cl c7
noncomputable def o3 : Array Oper := rops c8
noncomputable def c9 : Code := cr c7
noncomputable def c10 : Code := cl c9
noncomputable def c11 : Code := cl c10
noncomputable def c12 : Code := cl c11
noncomputable def o4 : Array Oper := rops c12
noncomputable def c13 : Code := cr c11
noncomputable def c14 : Code := cl c13
noncomputable def c15 : Code := cl c14
noncomputable def c16 : Code := cr c14
noncomputable def c17 : Code := cr c13
noncomputable def c18 : Code := cl c17
noncomputable def c19 : Code := cl c18
noncomputable def c20 : Code := cl c19
noncomputable def o5 : Array Oper := rops c20
noncomputable def c21 : Code := cr c19
noncomputable def c22 : Code := cl c21
noncomputable def o6 : Array Oper := rops c22
noncomputable def c23 : Code := cr c21
noncomputable def c24 : Code := cl c23
noncomputable def c25 : Code := cl c24
noncomputable def c26 : Code := cl c25
noncomputable def o7 : Array Oper := rops c26
noncomputable def c27 : Code := cr c25
noncomputable def c28 : Code := cl c27
noncomputable def c29 : Code := cl c28
noncomputable def c30 : Code := cr c28
noncomputable def c31 : Code := cr c27
noncomputable def c32 : Code := cl c31
noncomputable def c33 : Code := cl c32
noncomputable def c34 : Code := cl c33
noncomputable def o8 : Array Oper := rops c34
noncomputable def c35 : Code := cr c33
noncomputable def o9 : Array Oper := rops c35
noncomputable def c36 : Code := cr c31
noncomputable def o10 : Array Oper := rops c36
noncomputable def c37 : Code := cr c17
noncomputable def o11 : Array Oper := rops c37
noncomputable def c38 : Code := cr c6
noncomputable def c39 : Code := cl c38
noncomputable def o12 : Array Oper := rops c39
noncomputable def c40 : Code := cr c38
end F37
/-- 'sets'. -/
theorem sets_ok {w₀ : World} {C : Nat → Nat} {ks : List Key} {vk : Value} (hF : Lim w₀ C) (hk : RV w₀ (Mc C) ks vk) (hs0 : KeysSm ks) (h10 : (atomsS ks).length ≤ 10) : Calls Try.prog 37 #[vk] w₀ (Ret fun v w' => Stp [] w₀ C w' C ∧ RV w' (Mc C) ((setsS ks).map fun n : Nat => (n : Int)) v) := by
  have hF0 := hF
  have hT := Stp.refl [2, 3, 4, 5, 6, 7, 8, 9] w₀ (col1 C)
  replace hF := hF.col1
  replace hk : RV w₀ (Mc (col1 C)) ks vk := by rw [Mc_col1]; exact hk
  refine calls_start (c := F37.c0) (N := 41) [vk] Try.func37 (by kernel_rfl) (by kernel_rfl) (by kernel_rfl) ?_
  show Run _ _ _ _ [(0, vk)] _ _
  refine run_seq (x := F37.c1) (y := F37.c2) (by kernel_rfl) ?_
  refine run_plain (id := 0) (ops := F37.o0) [(0, true)] (by kernel_rfl) (by kernel_rfl) ?_
  refine yS (by kernel_rfl : opAt F37.o0 0 = some (some 2, .assign (.const (.slice none 0 0)), none)) rfl rfl (fun w' hS => val_assign rfl) ?_
  refine Sch.nil ?_
  refine run_seq (x := F37.c3) (y := F37.c4) (by kernel_rfl) ?_
  refine run_plain (id := 1) (ops := F37.o1) [(0, true), (1, false), (2, true)] (by kernel_rfl) (by kernel_rfl) ?_
  refine yS (by kernel_rfl : opAt F37.o1 0 = some (some 9, .move (.tmp 0), none)) rfl rfl (fun w' hS => val_move rfl) ?_
  refine cS (by kernel_rfl : opAt F37.o1 1 = some (some 10, .call { callee := .value (.func 14), args := #[(.tmp 9)], argTypes := #[23] }, none)) rfl rfl (ent Try.call14 rfl) (atoms_ok hF hk hs0) ?_
  rintro v10 w1 ⟨hs, ha⟩
  refine ⟨trivial, ?_⟩
  replace hF := hF.st hs
  replace hT := hT.trans hs (by simp)
  replace hk := hk.st hs (by first | decide | (simp <;> omega))
  have hal := atomsS_len hs0
  have hkl := hk.le
  refine yS (by kernel_rfl : opAt F37.o1 2 = some (some 3, .assign (.tmp 10), none)) rfl rfl (fun w' hS => val_assign rfl) ?_
  refine Sch.nil ?_
  refine run_seq (x := F37.c5) (y := F37.c6) (by kernel_rfl) ?_
  refine run_plain (id := 2) (ops := F37.o2) [(0, true), (1, true), (2, false), (3, true)] (by kernel_rfl) (by kernel_rfl) ?_
  refine yS (by kernel_rfl : opAt F37.o2 0 = some (some 11, .move (.tmp 0), none)) rfl rfl (fun w' hS => val_move rfl) ?_
  refine yS (by kernel_rfl : opAt F37.o2 1 = some (some 12, .call { callee := .builtin .len, args := #[(.tmp 11)], argTypes := #[23] }, none)) rfl rfl (fun w' hS => hk.lenV rfl Try.underlying23 w' ) ?_
  have hk12 := hs0.1
  refine aS (by kernel_rfl : opAt F37.o2 2 = some (some 13, .makeSlice 22 (.tmp 12) (.tmp 12), none)) rfl rfl (a_make (e := 3) (bytes := 8) (x0 := (0 : Int)) (zs := [.int .i64 0]) hF (j := 3) (by decide) (by kernel_rfl) (by kernel_rfl) rfl rfl (by omega) (by omega) (by omega) (fun h M => zero_int)) ?_
  rintro v13 w2 ⟨Cw2, hs, ho, hF⟩
  refine ⟨trivial, ?_⟩
  replace hT := hT.trans hs (by simp)
  replace hk := hk.st hs (by first | decide | (simp <;> omega))
  replace ha := ha.st hs (by first | decide | (simp <;> omega))
  refine yS (by kernel_rfl : opAt F37.o2 3 = some (some 4, .assign (.tmp 13), none)) rfl rfl (fun w' hS => val_assign rfl) ?_
  refine Sch.nil ?_
  refine run_seq (x := F37.c7) (y := F37.c38) (by kernel_rfl) ?_
  refine run_seq (x := F37.c8) (y := F37.c9) (by kernel_rfl) ?_
  refine run_plain (id := 3) (ops := F37.o3) [(0, true), (1, true), (2, true)] (by kernel_rfl) (by kernel_rfl) ?_
  refine yS (by kernel_rfl : opAt F37.o3 0 = some (some 14, .move (.tmp 0), none)) rfl rfl (fun w' hS => val_move rfl) ?_
  refine yS (by kernel_rfl : opAt F37.o3 1 = some (some 15, .call { callee := .builtin .len, args := #[(.tmp 14)], argTypes := #[23] }, none)) rfl rfl (fun w' hS => hk.lenV rfl Try.underlying23 w' ) ?_
  refine yS (by kernel_rfl : opAt F37.o3 2 = some (some 16, .move (.const (.int .i64 0)), none)) rfl rfl (fun w' hS => val_move rfl) ?_
  refine Sch.nil ?_
  refine run_block (x := F37.c10) (id := 0) (by kernel_rfl) ?_
  
  refine run_loop (ι := Nat × (List Int) × (Nat → Nat)) (I := fun x w => x.1 ≤ ks.length ∧ x.2.1.length = ks.length ∧ (∀ p (hp : p < x.1) (h1 : p < ks.length) (h2 : p < x.2.1.length), x.2.1[p] = ((setS (atomsS ks) ks[p].comps : Nat) : Int)) ∧ (∀ p (h2 : p < x.2.1.length), x.1 ≤ p → x.2.1[p] = 0) ∧ Lim w x.2.2 ∧ Stp [2, 3, 4, 5, 6, 7, 8, 9] w₀ (col1 C) w x.2.2 ∧ RV w (Mc x.2.2) ks vk ∧ RV w (Mc x.2.2) (atomsS ks) v10 ∧ OwnL w x.2.2 3 3 v13 x.2.1) (e := fun x => [(3, v10), (4, v13), (14, vk), (15, .int .i64 ks.length), (16, .int .i64 x.1)]) (m := fun x => ks.length - x.1) (x₀ := (0, List.replicate ks.length 0, Cw2)) (body := F37.c11) (by kernel_rfl) (sub_cons 3 rfl rfl (sub_cons 4 rfl rfl (sub_cons 14 rfl rfl (sub_cons 15 rfl rfl (sub_cons 16 rfl rfl (sub_nil _)))))) ?_ ?_
  · exact ⟨Nat.zero_le _, by simp, fun p hp => by simp at hp, fun p h2 _ => by simp, hF, hT, hk, ha, ho⟩
  intro ⟨i, ys, C1⟩ w3 hI next
  obtain ⟨hi, hyl, hya, hyz, hF, hT, hk, ha, ho⟩ := hI
  try simp only at hi hyl hya hyz hF hT hk ha ho
  have next1 := next
  clear next
  show Run _ _ _ _ [(3, v10), (4, v13), (14, vk), (15, .int .i64 ks.length), (16, .int .i64 i)] _ _
  refine run_seq (x := F37.c12) (y := F37.c13) (by kernel_rfl) ?_
  refine run_plain (id := 4) (ops := F37.o4) [(0, true)] (by kernel_rfl) (by kernel_rfl) ?_
  refine yS (by kernel_rfl : opAt F37.o4 0 = some (some 17, .binOp .lss 3 (.tmp 16) (.tmp 15) 3, none)) rfl rfl (fun w' hS => val_lss rfl rfl) ?_
  refine Sch.nil ?_
  refine run_seq (x := F37.c14) (y := F37.c17) (by kernel_rfl) ?_
  refine run_if (x := F37.c15) (y := F37.c16) (o := .tmp 17) (by kernel_rfl) rfl (fun h17 => ?_) (fun h17 => ?_)
  · skip
    have hil : i < ks.length := by omega
    have hcm : ∀ c ∈ ks[i].comps, c ∈ atomsS ks := fun c hc => atomsS_mem.2 ⟨_, List.getElem_mem hil, hc⟩
    refine run_skip (by kernel_rfl) ?_
    refine run_seq (x := F37.c18) (y := F37.c37) (by kernel_rfl) ?_
    refine run_block (x := F37.c19) (id := 1) (by kernel_rfl) ?_
    refine run_seq (x := F37.c20) (y := F37.c21) (by kernel_rfl) ?_
    refine run_plain (id := 5) (ops := F37.o5) [(0, true), (1, true), (2, false), (3, false), (4, true), (5, false)] (by kernel_rfl) (by kernel_rfl) ?_
    refine yS (by kernel_rfl : opAt F37.o5 0 = some (some 18, .move (.tmp 16), none)) rfl rfl (fun w' hS => val_move rfl) ?_
    refine iS (e := 28) (by kernel_rfl : opAt F37.o5 1 = some (some 19, .indexAddr 23 (.tmp 14) (.tmp 16), none)) rfl rfl hk rfl (by kernel_rfl) rfl (by omega) (by omega) ?_
    intro b19 o19 h19
    try simp only [Int.toNat_natCast] at h19
    refine lNA (by kernel_rfl : opAt F37.o5 2 = some (some 20, .load 28 (.tmp 19), none)) rfl rfl trivial h19 (by kernel_rfl) (by kernel_rfl) rfl rfl ?_
    intro v20 g20
    obtain ⟨u20, rfl, gu20⟩ := rv_key' g20
    refine aS (by kernel_rfl : opAt F37.o5 3 = some (some 6, .alloc 28, none)) rfl rfl (a_alloc (cs := [.slice none 0 0]) hF 4 (by kernel_rfl)) ?_
    rintro _ w4 ⟨Cw4, bw4, rfl, hs, hx, hF⟩
    refine ⟨trivial, ?_⟩
    replace hT := hT.trans hs (by simp)
    replace hk := hk.st hs (by first | decide | (simp <;> omega))
    replace ha := ha.st hs (by first | decide | (simp <;> omega))
    replace ho := ho.st hs (by first | decide | (simp <;> omega)) (by first | decide | (simp <;> omega))
    replace h19 := h19.st hs (by first | decide | (simp <;> omega))
    replace gu20 := gu20.st hs (by first | decide | (simp <;> omega))
    refine yS (by kernel_rfl : opAt F37.o5 4 = some (some 5, .assign (.tmp 18), none)) rfl rfl (fun w' hS => val_assign rfl) ?_
    refine aN (by kernel_rfl : opAt F37.o5 5 = some (none, .store 28 (.tmp 6) (.tmp 20), none)) rfl (a_storeAll (vs := [u20]) (n := 1) rfl rfl (by kernel_rfl) rfl rfl (by intro u hu; simp only [List.mem_cons, List.not_mem_nil, or_false] at hu; subst hu; exact (gu20.one rfl).2) hx rfl) ?_
    rintro _ w5 ⟨rfl, hs, hx⟩
    refine ⟨trivial, ?_⟩
    replace hF := hF.st hs
    replace hT := hT.trans hs (by simp)
    replace hk := hk.st hs (by first | decide | (simp <;> omega))
    replace ha := ha.st hs (by first | decide | (simp <;> omega))
    replace ho := ho.st hs (by first | decide | (simp <;> omega)) (by first | decide | (simp <;> omega))
    replace h19 := h19.st hs (by first | decide | (simp <;> omega))
    replace gu20 := gu20.st hs (by first | decide | (simp <;> omega))
    refine Sch.nil ?_
    refine run_seq (x := F37.c22) (y := F37.c23) (by kernel_rfl) ?_
    refine run_plain (id := 6) (ops := F37.o6) [(0, true), (1, false), (2, true), (3, true)] (by kernel_rfl) (by kernel_rfl) ?_
    refine yS (by kernel_rfl : opAt F37.o6 0 = some (some 21, .fieldAddr 28 (.tmp 6) 0, none)) rfl rfl (fun w' hS => val_fieldAddr (off := 0) (by kernel_rfl) rfl) ?_
    refine nS (by kernel_rfl : opAt F37.o6 1 = some (some 22, .load 26 (.tmp 21), none)) rfl rfl trivial (val_loadOwn hx.at_ (by kernel_rfl) rfl rfl) ?_
    refine yS (by kernel_rfl : opAt F37.o6 2 = some (some 23, .call { callee := .builtin .len, args := #[(.tmp 22)], argTypes := #[26] }, none)) rfl rfl (fun w' hS => gu20.lenV rfl Try.underlying26 w' ) ?_
    refine yS (by kernel_rfl : opAt F37.o6 3 = some (some 24, .move (.const (.int .i64 0)), none)) rfl rfl (fun w' hS => val_move rfl) ?_
    refine Sch.nil ?_
    refine run_block (x := F37.c24) (id := 2) (by kernel_rfl) ?_
    
    refine run_loop (ι := Nat × (List Int) × (Nat → Nat)) (I := fun x w => x.1 ≤ ks[i].comps.length ∧ x.2.1.length = ks.length ∧ (∀ p (hp : p < i) (h1 : p < ks.length) (h2 : p < x.2.1.length), x.2.1[p] = ((setS (atomsS ks) ks[p].comps : Nat) : Int)) ∧ (∀ p (h2 : p < x.2.1.length), i < p → x.2.1[p] = 0) ∧ (∀ (h2 : i < x.2.1.length), x.2.1[i] = ((setS (atomsS ks) (ks[i].comps.take x.1) : Nat) : Int)) ∧ Lim w x.2.2 ∧ Stp [2, 3, 4, 5, 6, 7, 8, 9] w₀ (col1 C) w x.2.2 ∧ RV w (Mc x.2.2) ks vk ∧ RV w (Mc x.2.2) (atomsS ks) v10 ∧ OwnL w x.2.2 3 3 v13 x.2.1 ∧ RV w (Mc x.2.2) ks[i].comps u20) (e := fun x => [(3, v10), (4, v13), (5, .int .i64 i), (14, vk), (15, .int .i64 ks.length), (16, .int .i64 i), (22, u20), (23, .int .i64 ks[i].comps.length), (24, .int .i64 x.1)]) (m := fun x => ks[i].comps.length - x.1) (x₀ := (0, ys, Cw4)) (body := F37.c25) (by kernel_rfl) (sub_cons 3 rfl rfl (sub_cons 4 rfl rfl (sub_cons 5 rfl rfl (sub_cons 14 rfl rfl (sub_cons 15 rfl rfl (sub_cons 16 rfl rfl (sub_cons 22 rfl rfl (sub_cons 23 rfl rfl (sub_cons 24 rfl rfl (sub_nil _)))))))))) ?_ ?_
    · exact ⟨Nat.zero_le _, hyl, hya, fun p h2 h => hyz p h2 (by omega), fun h2 => by simp only [List.take_zero]; rw [hyz i h2 (Nat.le_refl _)]; rfl, hF, hT, hk, ha, ho, gu20⟩
    intro ⟨q, ys, C1⟩ w6 hI next
    obtain ⟨hq, hyl, hya, hyz, hyi, hF, hT, hk, ha, ho, gu20⟩ := hI
    try simp only at hq hyl hya hyz hyi hF hT hk ha ho gu20
    have next2 := next
    clear next
    show Run _ _ _ _ [(3, v10), (4, v13), (5, .int .i64 i), (14, vk), (15, .int .i64 ks.length), (16, .int .i64 i), (22, u20), (23, .int .i64 ks[i].comps.length), (24, .int .i64 q)] _ _
    have hcl := gu20.le
    refine run_seq (x := F37.c26) (y := F37.c27) (by kernel_rfl) ?_
    refine run_plain (id := 7) (ops := F37.o7) [(0, true)] (by kernel_rfl) (by kernel_rfl) ?_
    refine yS (by kernel_rfl : opAt F37.o7 0 = some (some 25, .binOp .lss 3 (.tmp 24) (.tmp 23) 3, none)) rfl rfl (fun w' hS => val_lss rfl rfl) ?_
    refine Sch.nil ?_
    refine run_seq (x := F37.c28) (y := F37.c31) (by kernel_rfl) ?_
    refine run_if (x := F37.c29) (y := F37.c30) (o := .tmp 25) (by kernel_rfl) rfl (fun h25 => ?_) (fun h25 => ?_)
    · skip
      have hql : q < ks[i].comps.length := by omega
      have hcmq := hcm _ (List.getElem_mem hql)
      obtain ⟨i0, hi0, hi1, hi2⟩ := idxOf_mem hcmq
      obtain ⟨pw, hpw⟩ : ∃ pw : Nat, pw = 2 ^ i0 := ⟨_, rfl⟩
      have hbN : bitN (atomsS ks) ks[i].comps[q] = pw := by unfold bitN; rw [hi0, Int.toNat_natCast, hpw]
      have hst := setS_take (at_ := atomsS ks) hql
      rw [hbN] at hst
      have hlt1 := setS_lt (n := 10) h10 ks[i].comps q hcm (by omega)
      have hlt2 : pw < 2 ^ 10 := by rw [hpw]; exact Nat.pow_lt_pow_right (by decide) (by omega)
      refine run_skip (by kernel_rfl) ?_
      refine run_seq (x := F37.c32) (y := F37.c36) (by kernel_rfl) ?_
      refine run_block (x := F37.c33) (id := 3) (by kernel_rfl) ?_
      refine run_seq (x := F37.c34) (y := F37.c35) (by kernel_rfl) ?_
      refine run_plain (id := 8) (ops := F37.o8) [(0, true), (1, false), (2, false), (3, false)] (by kernel_rfl) (by kernel_rfl) ?_
      refine iS (e := 50) (by kernel_rfl : opAt F37.o8 0 = some (some 26, .indexAddr 26 (.tmp 22) (.tmp 24), none)) rfl rfl gu20 rfl (by kernel_rfl) rfl (by omega) (by omega) ?_
      intro b26 o26 h26
      try simp only [Int.toNat_natCast] at h26
      refine lNA (by kernel_rfl : opAt F37.o8 1 = some (some 27, .load 50 (.tmp 26), none)) rfl rfl trivial h26 (by kernel_rfl) (by kernel_rfl) rfl rfl ?_
      intro v27 g27
      obtain rfl := rv_couple.1 g27
      refine aS (by kernel_rfl : opAt F37.o8 2 = some (some 8, .alloc 50, none)) rfl rfl (a_alloc (cs := [.int .i64 0, .int .i64 0]) hF 5 (by kernel_rfl)) ?_
      rintro _ w7 ⟨Cw7, bw7, rfl, hs, hy, hF⟩
      refine ⟨trivial, ?_⟩
      replace hT := hT.trans hs (by simp)
      replace hk := hk.st hs (by first | decide | (simp <;> omega))
      replace ha := ha.st hs (by first | decide | (simp <;> omega))
      replace ho := ho.st hs (by first | decide | (simp <;> omega)) (by first | decide | (simp <;> omega))
      replace gu20 := gu20.st hs (by first | decide | (simp <;> omega))
      replace h26 := h26.st hs (by first | decide | (simp <;> omega))
      refine aN (by kernel_rfl : opAt F37.o8 3 = some (none, .store 50 (.tmp 8) (.tmp 27), none)) rfl (a_storeAll (vs := [.int .i64 (ks[i].comps[q]).a, .int .i64 (ks[i].comps[q]).b]) (n := 2) rfl rfl (by kernel_rfl) rfl rfl (by intro u hu; simp only [List.mem_cons, List.not_mem_nil, or_false] at hu; rcases hu with rfl | rfl <;> rfl) hy rfl) ?_
      rintro _ w8 ⟨rfl, hs, hy⟩
      refine ⟨trivial, ?_⟩
      replace hF := hF.st hs
      replace hT := hT.trans hs (by simp)
      replace hk := hk.st hs (by first | decide | (simp <;> omega))
      replace ha := ha.st hs (by first | decide | (simp <;> omega))
      replace ho := ho.st hs (by first | decide | (simp <;> omega)) (by first | decide | (simp <;> omega))
      replace gu20 := gu20.st hs (by first | decide | (simp <;> omega))
      replace h26 := h26.st hs (by first | decide | (simp <;> omega))
      refine Sch.nil ?_
      refine run_draw (id := 9) (ops := F37.o9) [] (Cw7) [(0, true), (1, true), (2, true), (3, true), (4, true), (5, true), (6, false), (7, true), (8, true), (9, true), (10, false)] Try_mixed (by kernel_rfl) (by kernel_rfl) (by kernel_rfl) ?_
      intro w9 hs
      replace hF := hF.st hs
      replace hT := hT.trans hs (by simp)
      replace hk := hk.st hs (by first | decide | (simp <;> omega))
      replace ha := ha.st hs (by first | decide | (simp <;> omega))
      replace ho := ho.st hs (by first | decide | (simp <;> omega)) (by first | decide | (simp <;> omega))
      replace gu20 := gu20.st hs (by first | decide | (simp <;> omega))
      replace h26 := h26.st hs (by first | decide | (simp <;> omega))
      replace hy := hy.st hs (by first | decide | (simp <;> omega))
      have hR := Stp.refl [] w9 (Cw7)
      refine yS (by kernel_rfl : opAt F37.o9 0 = some (some 28, .move (.tmp 4), none)) rfl rfl (fun w' hS => val_move rfl) ?_
      refine yS (by kernel_rfl : opAt F37.o9 1 = some (some 29, .move (.tmp 5), none)) rfl rfl (fun w' hS => val_move rfl) ?_
      refine oI (e' := 3) (by kernel_rfl : opAt F37.o9 2 = some (some 30, .indexAddr 22 (.tmp 28) (.tmp 29), none)) rfl rfl ho rfl (by kernel_rfl) rfl (by omega) (by first | omega | (simp only [Int.toNat_natCast]; omega)) ?_
      intro g30 hg30
      try simp only [Int.toNat_natCast]
      refine oS (I := []) (by kernel_rfl : opAt F37.o9 3 = some (some 31, .load 3 (.tmp 30), none)) rfl rfl ho hg30 (fun w' hS => ho.stay hg30 hS (by first | decide | simp)) (by first | omega | (simp only [Int.toNat_natCast]; omega)) (by kernel_rfl) rfl rfl ?_
      intro v31 g31
      try simp only [Int.toNat_natCast] at g31
      obtain rfl := rv_int.1 g31
      rw [hyi (by omega)]
      refine yS (by kernel_rfl : opAt F37.o9 4 = some (some 32, .move (.tmp 3), none)) rfl rfl (fun w' hS => val_move rfl) ?_
      refine yS (by kernel_rfl : opAt F37.o9 5 = some (some 33, .load 50 (.tmp 8), none)) rfl rfl (fun w' hS => val_loadOwnAgg (n := 2) (hy.stay hS (by decide)) (by kernel_rfl) (by kernel_rfl) rfl rfl rfl) ?_
      refine cS (by kernel_rfl : opAt F37.o9 6 = some (some 34, .call { callee := .value (.func 47), args := #[(.tmp 32), (.tmp 33)], argTypes := #[26, 50] }, none)) rfl rfl (ent Try.call47 rfl) (index_ok (c := ks[i].comps[q]) hF ha) ?_
      rintro vw10 w10 ⟨rfl, hs⟩
      refine ⟨(hR.trans hs (by simp)).ext, ?_⟩
      replace hF := hF.st hs
      replace hT := hT.trans hs (by simp)
      replace hk := hk.st hs (by first | decide | (simp <;> omega))
      replace ha := ha.st hs (by first | decide | (simp <;> omega))
      replace ho := ho.st hs (by first | decide | (simp <;> omega)) (by first | decide | (simp <;> omega))
      replace gu20 := gu20.st hs (by first | decide | (simp <;> omega))
      replace h26 := h26.st hs (by first | decide | (simp <;> omega))
      replace hy := hy.st hs (by first | decide | (simp <;> omega))
      replace hR := hR.trans hs (by simp)
      rw [hi0]
      refine yS (by kernel_rfl : opAt F37.o9 7 = some (some 35, .binOp .shl 3 (.const (.int .i64 1)) (.tmp 34) 3, none)) rfl rfl (fun w' hS => val_shlE (r := (pw : Int)) rfl rfl (by omega) (by rw [hpw]; exact shl1N (by omega))) ?_
      refine yS (by kernel_rfl : opAt F37.o9 8 = some (some 36, .binOp .or 3 (.tmp 31) (.tmp 35) 3, none)) rfl rfl (fun w' hS => val_orE (r := ((setS (atomsS ks) (ks[i].comps.take q) ||| pw : Nat) : Int)) rfl rfl (bits_or (by omega) (by omega))) ?_
      refine oI (e' := 3) (by kernel_rfl : opAt F37.o9 9 = some (some 37, .indexAddr 22 (.tmp 28) (.tmp 29), none)) rfl rfl ho rfl (by kernel_rfl) rfl (by omega) (by first | omega | (simp only [Int.toNat_natCast]; omega)) ?_
      intro g37 hg37
      try simp only [Int.toNat_natCast]
      refine Sch.free rfl ?_
      refine aN (by kernel_rfl : opAt F37.o9 10 = some (none, .store 3 (.tmp 37) (.tmp 36), none)) rfl (a_storeO ho hg37 (by first | omega | (simp only [Int.toNat_natCast]; omega)) rfl rfl (by kernel_rfl) (rv_int.2 rfl)) ?_
      rintro _ w11 ⟨rfl, hs, ho⟩
      refine ⟨trivial, ?_⟩
      replace hF := hF.st hs
      replace hT := hT.trans hs (by simp)
      replace hk := hk.st hs (by first | decide | (simp <;> omega))
      replace ha := ha.st hs (by first | decide | (simp <;> omega))
      replace gu20 := gu20.st hs (by first | decide | (simp <;> omega))
      replace h26 := h26.st hs (by first | decide | (simp <;> omega))
      replace hy := hy.st hs (by first | decide | (simp <;> omega))
      refine Sch.nil ?_
      refine run_inBlock ?_
      refine run_plain (id := 10) (ops := F37.o10) [(0, true), (1, true)] (by kernel_rfl) (by kernel_rfl) ?_
      refine yS (by kernel_rfl : opAt F37.o10 0 = some (some 38, .binOp .add 3 (.tmp 24) (.const (.int .i64 1)) 3, none)) rfl rfl (fun w' hS => val_addi rfl rfl (by omega) (by omega)) ?_
      refine yS (by kernel_rfl : opAt F37.o10 1 = some (some 24, .move (.tmp 38), none)) rfl rfl (fun w' hS => val_move rfl) ?_
      refine Sch.nil ?_
      refine kp (sub_cons 3 rfl rfl (sub_cons 4 rfl rfl (sub_cons 5 rfl rfl (sub_cons 14 rfl rfl (sub_cons 15 rfl rfl (sub_cons 16 rfl rfl (sub_cons 22 rfl rfl (sub_cons 23 rfl rfl (sub_cons 24 rfl (eq_int (by simp)) (sub_nil _)))))))))) (next2 (q + 1, ys.set i ((setS (atomsS ks) (ks[i].comps.take q) ||| pw : Nat) : Int), Cw7) _ ⟨(by first | omega | (simp only; omega)), (by simp only [List.length_set]; exact hyl), (fun p hp h1 h2 => by simp only [List.getElem_set]; rw [if_neg (by omega)]; exact hya p hp h1 (by simpa using h2)), (fun p h2 hp => by simp only [List.getElem_set]; rw [if_neg (by omega)]; exact hyz p (by simpa using h2) hp), (fun h2 => by simp only [List.getElem_set_self]; rw [hst]), hF, hT, hk, ha, ho, gu20⟩ (by first | omega | (simp only; omega)))
    · skip
      have hql : q = ks[i].comps.length := by omega
      subst hql
      rw [List.take_length] at hyi
      refine run_exit (id := 2) (by kernel_rfl) rfl ?_
      refine run_inBlock ?_
      refine run_plain (id := 11) (ops := F37.o11) [(0, true), (1, true)] (by kernel_rfl) (by kernel_rfl) ?_
      refine yS (by kernel_rfl : opAt F37.o11 0 = some (some 39, .binOp .add 3 (.tmp 16) (.const (.int .i64 1)) 3, none)) rfl rfl (fun w' hS => val_addi rfl rfl (by omega) (by omega)) ?_
      refine yS (by kernel_rfl : opAt F37.o11 1 = some (some 16, .move (.tmp 39), none)) rfl rfl (fun w' hS => val_move rfl) ?_
      refine Sch.nil ?_
      refine kp (sub_cons 3 rfl rfl (sub_cons 4 rfl rfl (sub_cons 14 rfl rfl (sub_cons 15 rfl rfl (sub_cons 16 rfl (eq_int (by simp)) (sub_nil _)))))) (next1 (i + 1, ys, C1) _ ⟨(by first | omega | (simp only; omega)), (by first | omega | (simp only; omega)), (fun p hp h1 h2 => by
          by_cases e : p = i
          · subst e; exact hyi h2
          · exact hya p (by simp only at hp; omega) h1 h2), (fun p h2 hp => hyz p h2 (by simp only at hp; omega)), hF, hT, hk, ha, ho⟩ (by first | omega | (simp only; omega)))
  · skip
    have hil : i = ks.length := by omega
    subst hil
    refine run_exit (id := 0) (by kernel_rfl) rfl ?_
    refine run_seq (x := F37.c39) (y := F37.c40) (by kernel_rfl) ?_
    refine run_plain (id := 12) (ops := F37.o12) [(0, true), (1, true)] (by kernel_rfl) (by kernel_rfl) ?_
    refine yS (by kernel_rfl : opAt F37.o12 0 = some (some 40, .move (.tmp 4), none)) rfl rfl (fun w' hS => val_move rfl) ?_
    refine yS (by kernel_rfl : opAt F37.o12 1 = some (some 2, .assign (.tmp 40), none)) rfl rfl (fun w' hS => val_assign rfl) ?_
    refine Sch.nil ?_
    refine run_ret1 (by kernel_rfl) Try.func37 Try.results37 rfl ?_
    have e : ys = (setsS ks).map (fun n : Nat => (n : Int)) := by
      apply List.ext_getElem
      · simp [setsS, hyl]
      · intro p h1 h2
        rw [hya p (by omega) (by omega) h1]; simp [setsS]
    rw [← e]
    exact ⟨hT.out1 (by decide), ho.out hT hF0 (Mc_col1 C) (fun b _ => col1_lt C (by decide) b) (by omega)⟩
end Go.Proofs.Ytpmokjccfaakfaa

