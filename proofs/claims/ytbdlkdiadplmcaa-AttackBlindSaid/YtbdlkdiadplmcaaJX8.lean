/- Steps through functions of the program. -/
import Derived.Test.YtbdlkdiadplmcaaJX7
set_option linter.unusedVariables false
set_option linter.unusedSimpArgs false
set_option maxRecDepth 100000
set_option maxHeartbeats 4000000
namespace Go.Proofs.Ytbdlkdiadplmcaa
open Go.K Go.K.Rep

namespace F25
noncomputable def c0 : Code := bodyOf Try.f25
noncomputable def c1 : Code := cl c0
noncomputable def o0 : Array Oper := rops c1
noncomputable def c2 : Code := cr c0
noncomputable def c3 : Code := cl c2
noncomputable def o1 : Array Oper := rops c3
noncomputable def c4 : Code := cr c2
noncomputable def c5 : Code := cl c4
noncomputable def c6 : Code := cl c5
noncomputable def o2 : Array Oper := rops c6
noncomputable def c7 : Code := cr c5
noncomputable def c8 : Code := cl c7
noncomputable def c9 : Code := cl c8
noncomputable def o3 : Array Oper := rops c9
noncomputable def c10 : Code := cr c8
noncomputable def c11 : Code := cr c7
noncomputable def c12 : Code := cr c4
noncomputable def c13 : Code := cl c12
noncomputable def o4 : Array Oper := rops c13
noncomputable def c14 : Code := cr c12
noncomputable def c15 : Code := cl c14
noncomputable def c16 : Code := cl c15
noncomputable def o5 : Array Oper := rops c16
noncomputable def c17 : Code := cr c15
noncomputable def c18 : Code := cl c17
noncomputable def c19 : Code := cl c18
noncomputable def c20 : Code := cl c19
noncomputable def o6 : Array Oper := rops c20
noncomputable def c21 : Code := cr c19
noncomputable def c22 : Code := cl c21
noncomputable def c23 : Code := cl c22
noncomputable def c24 : Code := cr c22
noncomputable def c25 : Code := cr c21
noncomputable def c26 : Code := cl c25
noncomputable def c27 : Code := cl c26
noncomputable def c28 : Code := cl c27
noncomputable def o7 : Array Oper := rops c28
noncomputable def c29 : Code := cr c27
noncomputable def c30 : Code := cl c29
noncomputable def o8 : Array Oper := rops c30
noncomputable def c31 : Code := cr c29
noncomputable def c32 : Code := cl c31
noncomputable def c33 : Code := cl c32
noncomputable def o9 : Array Oper := rops c33
noncomputable def c34 : Code := cr c32
noncomputable def c35 : Code := cl c34
noncomputable def c36 : Code := cl c35
noncomputable def o10 : Array Oper := rops c36
noncomputable def c37 : Code := cr c35
noncomputable def c38 : Code := cr c34
noncomputable def c39 : Code := cr c31
noncomputable def o11 : Array Oper := rops c39
noncomputable def c40 : Code := cr c25
noncomputable def o12 : Array Oper := rops c40
noncomputable def c41 : Code := cr c14
noncomputable def c42 : Code := cl c41
noncomputable def o13 : Array Oper := rops c42
noncomputable def c43 : Code := cr c41
end F25
theorem always_ok {w₀ : World} {C : Nat → Nat} {cl : List Bits} {vl : Value} (hF : Lim w₀ C) (hl : RV w₀ (Mc C) cl vl) (hne : cl ≠ []) (hlen : cl.length ≤ 1000000) : Calls Try.prog 25 #[vl] w₀ (Ret fun v w' => v = .int .i64 (alwaysS cl) ∧ Stp [] w₀ C w' C) := by
  have hF0 := hF
  have hT := Stp.refl [2, 3, 4, 5, 6, 7, 8, 9] w₀ (col1 C)
  replace hF := hF.col1
  replace hl : RV w₀ (Mc (col1 C)) cl vl := by rw [Mc_col1]; exact hl
  refine calls_start (c := F25.c0) (N := 37) [vl] Try.func25 (by kernel_rfl) (by kernel_rfl) (by kernel_rfl) ?_
  show Run _ _ _ _ [(0, vl)] _ _
  refine run_seq (x := F25.c1) (y := F25.c2) (by kernel_rfl) ?_
  refine run_plain (id := 0) (ops := F25.o0) [(0, true)] (by kernel_rfl) (by kernel_rfl) ?_
  refine yS (by kernel_rfl : opAt F25.o0 0 = some (some 2, .assign (.const (.int .i64 0)), none)) rfl rfl (fun w' hS => val_assign rfl) ?_
  refine Sch.nil ?_
  refine run_seq (x := F25.c3) (y := F25.c4) (by kernel_rfl) ?_
  refine run_plain (id := 1) (ops := F25.o1) [(0, true), (1, false), (2, false), (3, true)] (by kernel_rfl) (by kernel_rfl) ?_
  refine yS (by kernel_rfl : opAt F25.o1 0 = some (some 9, .move (.tmp 0), none)) rfl rfl (fun w' hS => val_move rfl) ?_
  refine cS (by kernel_rfl : opAt F25.o1 1 = some (some 10, .call { callee := .value (.func 44), args := #[(.tmp 9)], argTypes := #[27] }, none)) rfl rfl (ent Try.call44 rfl) (cloneB_ok hF hl hne hlen 5 (by decide)) ?_
  rintro vw1 w1 ⟨Cd, hs, hF, ho⟩
  refine ⟨trivial, ?_⟩
  replace hT := hT.trans hs (by simp)
  replace hl := hl.st hs (by first | decide | (simp <;> omega))
  refine cS (by kernel_rfl : opAt F25.o1 2 = some (some 11, .call { callee := .value (.func 43), args := #[(.tmp 10), (.func 45)], argTypes := #[27, 37] }, none)) rfl rfl (ent Try.call43 rfl) (delete_ok hF ho hlen) ?_
  rintro vw2 w2 ⟨hs, ho⟩
  refine ⟨trivial, ?_⟩
  replace hF := hF.st hs
  replace hT := hT.trans hs (by simp)
  replace hl := hl.st hs (by first | decide | (simp <;> omega))
  have hfl := List.length_filter_le validB cl
  obtain ⟨fl, hfe⟩ : ∃ fl, cl.filter validB = fl := ⟨_, rfl⟩
  rw [hfe] at ho hfl
  refine yS (by kernel_rfl : opAt F25.o1 3 = some (some 3, .assign (.tmp 11), none)) rfl rfl (fun w' hS => val_assign rfl) ?_
  refine Sch.nil ?_
  refine run_seq (x := F25.c5) (y := F25.c12) (by kernel_rfl) ?_
  refine run_seq (x := F25.c6) (y := F25.c7) (by kernel_rfl) ?_
  refine run_plain (id := 2) (ops := F25.o2) [(0, true), (1, true), (2, true)] (by kernel_rfl) (by kernel_rfl) ?_
  refine yS (by kernel_rfl : opAt F25.o2 0 = some (some 12, .move (.tmp 3), none)) rfl rfl (fun w' hS => val_move rfl) ?_
  refine yS (by kernel_rfl : opAt F25.o2 1 = some (some 13, .call { callee := .builtin .len, args := #[(.tmp 12)], argTypes := #[27] }, none)) rfl rfl (fun w' hS => ho.lenV rfl Try.underlying27 w' ) ?_
  refine yS (by kernel_rfl : opAt F25.o2 2 = some (some 14, .binOp .eql 3 (.tmp 13) (.const (.int .i64 0)) 3, none)) rfl rfl (fun w' hS => val_eql rfl rfl) ?_
  refine Sch.nil ?_
  refine run_if (x := F25.c8) (y := F25.c11) (o := .tmp 14) (by kernel_rfl) rfl (fun h14 => ?_) (fun h14 => ?_)
  · skip
    refine run_seq (x := F25.c9) (y := F25.c10) (by kernel_rfl) ?_
    refine run_plain (id := 3) (ops := F25.o3) [(0, true)] (by kernel_rfl) (by kernel_rfl) ?_
    refine yS (by kernel_rfl : opAt F25.o3 0 = some (some 2, .assign (.const (.int .i64 0)), none)) rfl rfl (fun w' hS => val_assign rfl) ?_
    refine Sch.nil ?_
    refine run_ret1 (by kernel_rfl) Try.func25 Try.results25 rfl ?_
    exact ⟨by unfold alwaysS; rw [hfe, show fl = [] from List.length_eq_zero_iff.1 (by omega)], hT.out1 (by decide)⟩
  · skip
    replace hF := hF.frz 5
    replace hT := hT.frz (n := 5) (fun b => Nat.lt_of_lt_of_le (col1_lt2 C b) (by decide))
    replace hl := hl.frz 5
    have hf_ := ho.frz (n := 5) (by decide) (by omega)
    clear ho
    have hf := hf_
    clear hf_
    obtain ⟨a, tl, rfl⟩ : ∃ a tl, fl = a :: tl := by
        cases fl with
        | nil => exact absurd rfl h14
        | cons a l => exact ⟨a, l, rfl⟩
    have htl : tl.length ≤ 1000000 := by simp only [List.length_cons] at hfl; omega
    have hpos : (a :: tl).length = tl.length + 1 := rfl
    refine run_skip (by kernel_rfl) ?_
    refine run_seq (x := F25.c13) (y := F25.c14) (by kernel_rfl) ?_
    refine run_plain (id := 4) (ops := F25.o4) [(0, true), (1, true), (2, false), (3, false), (4, false)] (by kernel_rfl) (by kernel_rfl) ?_
    refine yS (by kernel_rfl : opAt F25.o4 0 = some (some 15, .move (.tmp 3), none)) rfl rfl (fun w' hS => val_move rfl) ?_
    refine iS (e := 33) (by kernel_rfl : opAt F25.o4 1 = some (some 16, .indexAddr 27 (.tmp 15) (.const (.int .i64 0)), none)) rfl rfl hf rfl (by kernel_rfl) rfl (by omega) (by omega) ?_
    intro b16 o16 h16
    try simp only [Int.toNat_natCast] at h16
    refine lNA (by kernel_rfl : opAt F25.o4 2 = some (some 17, .load 33 (.tmp 16), none)) rfl rfl trivial h16 (by kernel_rfl) (by kernel_rfl) rfl rfl ?_
    intro v17 g17
    have g17b : RV _ (Mc (K.frz 5 Cd)) a v17 := g17
    obtain ⟨u, rfl, hw⟩ := rv_bits.1 g17b
    clear g17 g17b
    refine aS (by kernel_rfl : opAt F25.o4 3 = some (some 4, .alloc 33, none)) rfl rfl (a_alloc (cs := [.int .i64 0, .slice none 0 0]) hF 4 (by kernel_rfl)) ?_
    rintro _ w3 ⟨Cw3, bw3, rfl, hs, ha, hF⟩
    refine ⟨trivial, ?_⟩
    replace hT := hT.trans hs (by simp)
    replace hl := hl.st hs (by first | decide | (simp <;> omega))
    replace hf := hf.st hs (by first | decide | (simp <;> omega))
    replace h16 := h16.st hs (by first | decide | (simp <;> omega))
    replace hw := hw.st hs (by first | decide | (simp <;> omega))
    refine aN (by kernel_rfl : opAt F25.o4 4 = some (none, .store 33 (.tmp 4) (.tmp 17), none)) rfl (a_storeAll (vs := [.int .i64 a.len, u]) (n := 2) rfl rfl (by kernel_rfl) rfl rfl (by intro z hz; simp only [List.mem_cons, List.not_mem_nil, or_false] at hz; rcases hz with rfl | rfl <;> first | rfl | exact (hw.one rfl).2) ha rfl) ?_
    rintro _ w4 ⟨rfl, hs, ha⟩
    refine ⟨trivial, ?_⟩
    replace hF := hF.st hs
    replace hT := hT.trans hs (by simp)
    replace hl := hl.st hs (by first | decide | (simp <;> omega))
    replace hf := hf.st hs (by first | decide | (simp <;> omega))
    replace h16 := h16.st hs (by first | decide | (simp <;> omega))
    replace hw := hw.st hs (by first | decide | (simp <;> omega))
    refine Sch.nil ?_
    refine run_seq (x := F25.c15) (y := F25.c41) (by kernel_rfl) ?_
    refine run_seq (x := F25.c16) (y := F25.c17) (by kernel_rfl) ?_
    refine run_plain (id := 5) (ops := F25.o5) [(0, true), (1, true), (2, true), (3, true)] (by kernel_rfl) (by kernel_rfl) ?_
    refine yS (by kernel_rfl : opAt F25.o5 0 = some (some 18, .move (.tmp 3), none)) rfl rfl (fun w' hS => val_move rfl) ?_
    refine sFR (e' := 33) (by kernel_rfl : opAt F25.o5 1 = some (some 19, .slice 27 (.tmp 18) (some (.const (.int .i64 1))) none none, none)) rfl rfl hf rfl (by kernel_rfl) rfl (by omega) (by omega) ?_
    intro v19 h19
    try simp only [Int.toNat_natCast] at h19
    have ht : RV _ (Mc (Cw3)) tl v19 := h19
    clear h19 hf
    refine yS (by kernel_rfl : opAt F25.o5 2 = some (some 20, .call { callee := .builtin .len, args := #[(.tmp 19)], argTypes := #[27] }, none)) rfl rfl (fun w' hS => ht.lenV rfl Try.underlying27 w' ) ?_
    refine yS (by kernel_rfl : opAt F25.o5 3 = some (some 21, .move (.const (.int .i64 0)), none)) rfl rfl (fun w' hS => val_move rfl) ?_
    refine Sch.nil ?_
    refine run_block (x := F25.c18) (id := 0) (by kernel_rfl) ?_
    
    refine run_loop (ι := Nat × Bits × Value × (Nat → Nat)) (I := fun x w => x.1 ≤ tl.length ∧ allS a tl = allS x.2.1 (tl.drop x.1) ∧ Lim w x.2.2.2 ∧ Stp [2, 3, 4, 5, 6, 7, 8, 9] w₀ (col1 C) w x.2.2.2 ∧ OwnB w x.2.2.2 4 bw3 (.cells [.int .i64 x.2.1.len, x.2.2.1].toArray 33) ∧ RV w (Mc x.2.2.2) x.2.1.words x.2.2.1 ∧ RV w (Mc x.2.2.2) tl v19) (e := fun x => [(4, .pointer (some ⟨bw3, 0, none⟩)), (19, v19), (20, .int .i64 tl.length), (21, .int .i64 x.1)]) (m := fun x => tl.length - x.1) (x₀ := (0, a, u, Cw3)) (body := F25.c19) (by kernel_rfl) (sub_cons 4 rfl rfl (sub_cons 19 rfl rfl (sub_cons 20 rfl rfl (sub_cons 21 rfl rfl (sub_nil _))))) ?_ ?_
    · exact ⟨Nat.zero_le _, rfl, hF, hT, ha, hw, ht⟩
    intro ⟨k, x, u, C1⟩ w5 hI next
    obtain ⟨hk, hall, hF, hT, ha, hw, ht⟩ := hI
    try simp only at hk hall hF hT ha hw ht
    have next1 := next
    clear next
    show Run _ _ _ _ [(4, .pointer (some ⟨bw3, 0, none⟩)), (19, v19), (20, .int .i64 tl.length), (21, .int .i64 k)] _ _
    have hle := ht.le
    refine run_seq (x := F25.c20) (y := F25.c21) (by kernel_rfl) ?_
    refine run_plain (id := 6) (ops := F25.o6) [(0, true)] (by kernel_rfl) (by kernel_rfl) ?_
    refine yS (by kernel_rfl : opAt F25.o6 0 = some (some 22, .binOp .lss 3 (.tmp 21) (.tmp 20) 3, none)) rfl rfl (fun w' hS => val_lss rfl rfl) ?_
    refine Sch.nil ?_
    refine run_seq (x := F25.c22) (y := F25.c25) (by kernel_rfl) ?_
    refine run_if (x := F25.c23) (y := F25.c24) (o := .tmp 22) (by kernel_rfl) rfl (fun h22 => ?_) (fun h22 => ?_)
    · skip
      have hkl : k < tl.length := by omega
      refine run_skip (by kernel_rfl) ?_
      refine run_seq (x := F25.c26) (y := F25.c40) (by kernel_rfl) ?_
      refine run_block (x := F25.c27) (id := 1) (by kernel_rfl) ?_
      refine run_seq (x := F25.c28) (y := F25.c29) (by kernel_rfl) ?_
      refine run_plain (id := 7) (ops := F25.o7) [(0, true), (1, false), (2, false), (3, false)] (by kernel_rfl) (by kernel_rfl) ?_
      refine iS (e := 33) (by kernel_rfl : opAt F25.o7 0 = some (some 23, .indexAddr 27 (.tmp 19) (.tmp 21), none)) rfl rfl ht rfl (by kernel_rfl) rfl (by omega) (by omega) ?_
      intro b23 o23 h23
      try simp only [Int.toNat_natCast] at h23
      refine lNA (by kernel_rfl : opAt F25.o7 1 = some (some 24, .load 33 (.tmp 23), none)) rfl rfl trivial h23 (by kernel_rfl) (by kernel_rfl) rfl rfl ?_
      intro v24 g24
      obtain ⟨u2, rfl, hz⟩ := rv_bits.1 g24
      clear g24
      refine aS (by kernel_rfl : opAt F25.o7 2 = some (some 6, .alloc 33, none)) rfl rfl (a_alloc (cs := [.int .i64 0, .slice none 0 0]) hF 6 (by kernel_rfl)) ?_
      rintro _ w6 ⟨Cw6, bw6, rfl, hs, hb, hF⟩
      refine ⟨trivial, ?_⟩
      replace hT := hT.trans hs (by simp)
      replace ha := ha.st hs (by first | decide | (simp <;> omega))
      replace hw := hw.st hs (by first | decide | (simp <;> omega))
      replace ht := ht.st hs (by first | decide | (simp <;> omega))
      replace h23 := h23.st hs (by first | decide | (simp <;> omega))
      replace hz := hz.st hs (by first | decide | (simp <;> omega))
      refine aN (by kernel_rfl : opAt F25.o7 3 = some (none, .store 33 (.tmp 6) (.tmp 24), none)) rfl (a_storeAll (vs := [.int .i64 tl[k].len, u2]) (n := 2) rfl rfl (by kernel_rfl) rfl rfl (by intro z hz; simp only [List.mem_cons, List.not_mem_nil, or_false] at hz; rcases hz with rfl | rfl <;> first | rfl | exact (hz.one rfl).2) hb rfl) ?_
      rintro _ w7 ⟨rfl, hs, hb⟩
      refine ⟨trivial, ?_⟩
      replace hF := hF.st hs
      replace hT := hT.trans hs (by simp)
      replace ha := ha.st hs (by first | decide | (simp <;> omega))
      replace hw := hw.st hs (by first | decide | (simp <;> omega))
      replace ht := ht.st hs (by first | decide | (simp <;> omega))
      replace h23 := h23.st hs (by first | decide | (simp <;> omega))
      replace hz := hz.st hs (by first | decide | (simp <;> omega))
      refine Sch.nil ?_
      refine run_seq (x := F25.c30) (y := F25.c31) (by kernel_rfl) ?_
      refine run_plain (id := 8) (ops := F25.o8) [(0, false), (1, false), (2, false), (3, true), (4, true), (5, true), (6, false), (7, false), (8, true)] (by kernel_rfl) (by kernel_rfl) ?_
      refine nS (by kernel_rfl : opAt F25.o8 0 = some (some 26, .load 33 (.tmp 4), none)) rfl rfl trivial (val_loadOwnAgg (n := 2) (vs := [.int .i64 x.len, u]) ha.at_ (by kernel_rfl) (by kernel_rfl) rfl rfl rfl) ?_
      refine nS (by kernel_rfl : opAt F25.o8 1 = some (some 27, .load 33 (.tmp 6), none)) rfl rfl trivial (val_loadOwnAgg (n := 2) (vs := [.int .i64 tl[k].len, u2]) hb.at_ (by kernel_rfl) (by kernel_rfl) rfl rfl rfl) ?_
      refine cS (by kernel_rfl : opAt F25.o8 2 = some (some 28, .call { callee := .value (.func 46), args := #[(.tmp 26), (.tmp 27)], argTypes := #[33, 33] }, none)) rfl rfl (ent Try.call46 rfl) (and_ok hF hw hz) ?_
      rintro vw8 w8 ⟨c, z, e, rfl, hs, hcz, hy, hn⟩
      refine ⟨trivial, ?_⟩
      replace hF := hF.st hs
      replace hT := hT.trans hs (by simp)
      replace ha := ha.st hs (by first | decide | (simp <;> omega))
      replace hw := hw.st hs (by first | decide | (simp <;> omega))
      replace ht := ht.st hs (by first | decide | (simp <;> omega))
      replace h23 := h23.st hs (by first | decide | (simp <;> omega))
      replace hz := hz.st hs (by first | decide | (simp <;> omega))
      replace hb := hb.st hs (by first | decide | (simp <;> omega))
      refine yS (by kernel_rfl : opAt F25.o8 3 = some (some 25, .move (.tmp 28), none)) rfl rfl (fun w' hS => val_move rfl) ?_
      refine yS (by kernel_rfl : opAt F25.o8 4 = some (some 29, .extract (.tmp 25) 0, none)) rfl rfl (fun w' hS => val_extract rfl rfl) ?_
      refine yS (by kernel_rfl : opAt F25.o8 5 = some (some 30, .extract (.tmp 25) 1, none)) rfl rfl (fun w' hS => val_extract rfl rfl) ?_
      refine aS (by kernel_rfl : opAt F25.o8 6 = some (some 7, .alloc 33, none)) rfl rfl (a_alloc (cs := [.int .i64 0, .slice none 0 0]) hF 7 (by kernel_rfl)) ?_
      rintro _ w9 ⟨Cw9, bw9, rfl, hs, hc, hF⟩
      refine ⟨trivial, ?_⟩
      replace hT := hT.trans hs (by simp)
      replace ha := ha.st hs (by first | decide | (simp <;> omega))
      replace hw := hw.st hs (by first | decide | (simp <;> omega))
      replace ht := ht.st hs (by first | decide | (simp <;> omega))
      replace h23 := h23.st hs (by first | decide | (simp <;> omega))
      replace hz := hz.st hs (by first | decide | (simp <;> omega))
      replace hb := hb.st hs (by first | decide | (simp <;> omega))
      replace hcz := hcz.st hs (by first | decide | (simp <;> omega))
      refine aN (by kernel_rfl : opAt F25.o8 7 = some (none, .store 33 (.tmp 7) (.tmp 29), none)) rfl (a_storeAll (vs := [.int .i64 c.len, z]) (n := 2) rfl rfl (by kernel_rfl) rfl rfl (by intro z hz; simp only [List.mem_cons, List.not_mem_nil, or_false] at hz; rcases hz with rfl | rfl <;> first | rfl | exact (hcz.one rfl).2) hc rfl) ?_
      rintro _ w10 ⟨rfl, hs, hc⟩
      refine ⟨trivial, ?_⟩
      replace hF := hF.st hs
      replace hT := hT.trans hs (by simp)
      replace ha := ha.st hs (by first | decide | (simp <;> omega))
      replace hw := hw.st hs (by first | decide | (simp <;> omega))
      replace ht := ht.st hs (by first | decide | (simp <;> omega))
      replace h23 := h23.st hs (by first | decide | (simp <;> omega))
      replace hz := hz.st hs (by first | decide | (simp <;> omega))
      replace hb := hb.st hs (by first | decide | (simp <;> omega))
      replace hcz := hcz.st hs (by first | decide | (simp <;> omega))
      refine yS (by kernel_rfl : opAt F25.o8 8 = some (some 8, .assign (.tmp 30), none)) rfl rfl (fun w' hS => val_assign rfl) ?_
      refine Sch.nil ?_
      refine run_seq (x := F25.c32) (y := F25.c39) (by kernel_rfl) ?_
      refine run_seq (x := F25.c33) (y := F25.c34) (by kernel_rfl) ?_
      refine run_plain (id := 9) (ops := F25.o9) [(0, true), (1, true)] (by kernel_rfl) (by kernel_rfl) ?_
      refine yS (by kernel_rfl : opAt F25.o9 0 = some (some 31, .move (.tmp 8), none)) rfl rfl (fun w' hS => val_move rfl) ?_
      refine yS (by kernel_rfl : opAt F25.o9 1 = some (some 32, .binOp .neq 40 (.tmp 31) (.const (.int .i64 0)) 40, none)) rfl rfl (fun w' hS => val_neq rfl rfl) ?_
      refine Sch.nil ?_
      refine run_if (x := F25.c35) (y := F25.c38) (o := .tmp 32) (by kernel_rfl) rfl (fun h32 => ?_) (fun h32 => ?_)
      · skip
        have hno : ¬ andOK x tl[k] := fun h => h32 (hy h).2
        refine run_seq (x := F25.c36) (y := F25.c37) (by kernel_rfl) ?_
        refine run_plain (id := 10) (ops := F25.o10) [(0, true)] (by kernel_rfl) (by kernel_rfl) ?_
        refine yS (by kernel_rfl : opAt F25.o10 0 = some (some 2, .assign (.const (.int .i64 0)), none)) rfl rfl (fun w' hS => val_assign rfl) ?_
        refine Sch.nil ?_
        refine run_ret1 (by kernel_rfl) Try.func25 Try.results25 rfl ?_
        exact ⟨by unfold alwaysS; rw [hfe]; simp only; rw [hall, allS_drop hkl, if_neg hno], hT.out1 (by decide)⟩
      · skip
        have hok : andOK x tl[k] := Classical.byContradiction fun h => by rw [hn h] at h32; exact absurd (Classical.not_not.1 h32) (by decide)
        obtain ⟨rfl, rfl⟩ := hy hok
        refine run_skip (by kernel_rfl) ?_
        refine run_plain (id := 11) (ops := F25.o11) [(0, false), (1, false)] (by kernel_rfl) (by kernel_rfl) ?_
        refine nS (by kernel_rfl : opAt F25.o11 0 = some (some 33, .load 33 (.tmp 7), none)) rfl rfl trivial (val_loadOwnAgg (n := 2) (vs := [.int .i64 (andB x tl[k]).len, z]) hc.at_ (by kernel_rfl) (by kernel_rfl) rfl rfl rfl) ?_
        refine aN (by kernel_rfl : opAt F25.o11 1 = some (none, .store 33 (.tmp 4) (.tmp 33), none)) rfl (a_storeAll (vs := [.int .i64 (andB x tl[k]).len, z]) (n := 2) rfl rfl (by kernel_rfl) rfl rfl (by intro z hz; simp only [List.mem_cons, List.not_mem_nil, or_false] at hz; rcases hz with rfl | rfl <;> first | rfl | exact (hcz.one rfl).2) ha rfl) ?_
        rintro _ w11 ⟨rfl, hs, ha⟩
        refine ⟨trivial, ?_⟩
        replace hF := hF.st hs
        replace hT := hT.trans hs (by simp)
        replace hw := hw.st hs (by first | decide | (simp <;> omega))
        replace ht := ht.st hs (by first | decide | (simp <;> omega))
        replace h23 := h23.st hs (by first | decide | (simp <;> omega))
        replace hz := hz.st hs (by first | decide | (simp <;> omega))
        replace hb := hb.st hs (by first | decide | (simp <;> omega))
        replace hcz := hcz.st hs (by first | decide | (simp <;> omega))
        replace hc := hc.st hs (by first | decide | (simp <;> omega))
        refine Sch.nil ?_
        refine run_inBlock ?_
        refine run_plain (id := 12) (ops := F25.o12) [(0, true), (1, true)] (by kernel_rfl) (by kernel_rfl) ?_
        refine yS (by kernel_rfl : opAt F25.o12 0 = some (some 34, .binOp .add 3 (.tmp 21) (.const (.int .i64 1)) 3, none)) rfl rfl (fun w' hS => val_addi rfl rfl (by omega) (by omega)) ?_
        refine yS (by kernel_rfl : opAt F25.o12 1 = some (some 21, .move (.tmp 34), none)) rfl rfl (fun w' hS => val_move rfl) ?_
        refine Sch.nil ?_
        refine kp (sub_cons 4 rfl rfl (sub_cons 19 rfl rfl (sub_cons 20 rfl rfl (sub_cons 21 rfl (eq_int (by simp)) (sub_nil _))))) (next1 (k + 1, andB x tl[k], z, Cw9) _ ⟨(by first | omega | (simp only; omega)), (by rw [hall, allS_drop hkl, if_pos hok]), hF, hT, ha, hcz, ht⟩ (by first | omega | (simp only; omega)))
    · skip
      have hkl : k = tl.length := by omega
      refine run_exit (id := 0) (by kernel_rfl) rfl ?_
      refine run_seq (x := F25.c42) (y := F25.c43) (by kernel_rfl) ?_
      refine run_plain (id := 13) (ops := F25.o13) [(0, false), (1, false), (2, true)] (by kernel_rfl) (by kernel_rfl) ?_
      refine nS (by kernel_rfl : opAt F25.o13 0 = some (some 35, .load 33 (.tmp 4), none)) rfl rfl trivial (val_loadOwnAgg (n := 2) (vs := [.int .i64 x.len, u]) ha.at_ (by kernel_rfl) (by kernel_rfl) rfl rfl rfl) ?_
      refine cS (by kernel_rfl : opAt F25.o13 1 = some (some 36, .call { callee := .value (.func 47), args := #[(.tmp 35)], argTypes := #[33] }, none)) rfl rfl (ent Try.call47 rfl) (count_ok hF hw) ?_
      rintro vw12 w12 ⟨rfl, hs⟩
      refine ⟨trivial, ?_⟩
      replace hF := hF.st hs
      replace hT := hT.trans hs (by simp)
      replace ha := ha.st hs (by first | decide | (simp <;> omega))
      replace hw := hw.st hs (by first | decide | (simp <;> omega))
      replace ht := ht.st hs (by first | decide | (simp <;> omega))
      refine yS (by kernel_rfl : opAt F25.o13 2 = some (some 2, .assign (.tmp 36), none)) rfl rfl (fun w' hS => val_assign rfl) ?_
      refine Sch.nil ?_
      refine run_ret1 (by kernel_rfl) Try.func25 Try.results25 rfl ?_
      exact ⟨by unfold alwaysS; rw [hfe]; simp only; rw [hall, hkl, List.drop_length]; rfl, hT.out1 (by decide)⟩
end Go.Proofs.Ytbdlkdiadplmcaa
