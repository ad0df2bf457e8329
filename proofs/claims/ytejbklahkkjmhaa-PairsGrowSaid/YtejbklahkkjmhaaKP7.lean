/- Steps through functions of the program. -/
import Derived.Test.YtejbklahkkjmhaaKP6
set_option linter.unusedVariables false
set_option linter.unusedSimpArgs false
set_option maxRecDepth 100000
set_option maxHeartbeats 400000
namespace Go.Proofs.Ytejbklahkkjmhaa
open Go.K Go.K.Rep

namespace F15
noncomputable def c0 : Code := bodyOf Try.f15
noncomputable def c1 : Code := cl c0
noncomputable def o0 : Array Oper := rops c1
noncomputable def c2 : Code := cr c0
noncomputable def c3 : Code := cl c2
noncomputable def c4 : Code := cl c3
noncomputable def o1 : Array Oper := rops c4
noncomputable def c5 : Code := cr c3
noncomputable def c6 : Code := cl c5
noncomputable def c7 : Code := cl c6
noncomputable def c8 : Code := cl c7
noncomputable def o2 : Array Oper := rops c8
noncomputable def c9 : Code := cr c7
noncomputable def c10 : Code := cl c9
noncomputable def c11 : Code := cl c10
noncomputable def c12 : Code := cr c10
noncomputable def c13 : Code := cr c9
noncomputable def c14 : Code := cl c13
noncomputable def c15 : Code := cl c14
noncomputable def c16 : Code := cl c15
noncomputable def o3 : Array Oper := rops c16
noncomputable def c17 : Code := cr c15
noncomputable def c18 : Code := cl c17
noncomputable def o4 : Array Oper := rops c18
noncomputable def c19 : Code := cr c17
noncomputable def c20 : Code := cl c19
noncomputable def c21 : Code := cl c20
noncomputable def c22 : Code := cl c21
noncomputable def o5 : Array Oper := rops c22
noncomputable def c23 : Code := cr c21
noncomputable def c24 : Code := cl c23
noncomputable def c25 : Code := cl c24
noncomputable def c26 : Code := cr c24
noncomputable def c27 : Code := cr c23
noncomputable def c28 : Code := cl c27
noncomputable def c29 : Code := cl c28
noncomputable def c30 : Code := cl c29
noncomputable def o6 : Array Oper := rops c30
noncomputable def c31 : Code := cr c29
noncomputable def c32 : Code := cl c31
noncomputable def c33 : Code := cl c32
noncomputable def o7 : Array Oper := rops c33
noncomputable def c34 : Code := cr c32
noncomputable def c35 : Code := cl c34
noncomputable def c36 : Code := cr c34
noncomputable def c37 : Code := cr c31
noncomputable def c38 : Code := cl c37
noncomputable def o8 : Array Oper := rops c38
noncomputable def c39 : Code := cr c37
noncomputable def c40 : Code := cl c39
noncomputable def c41 : Code := cl c40
noncomputable def c42 : Code := cl c41
noncomputable def o9 : Array Oper := rops c42
noncomputable def c43 : Code := cr c41
noncomputable def c44 : Code := cl c43
noncomputable def c45 : Code := cl c44
noncomputable def c46 : Code := cr c44
noncomputable def c47 : Code := cr c43
noncomputable def c48 : Code := cl c47
noncomputable def c49 : Code := cl c48
noncomputable def c50 : Code := cl c49
noncomputable def o10 : Array Oper := rops c50
noncomputable def c51 : Code := cr c49
noncomputable def c52 : Code := cl c51
noncomputable def o11 : Array Oper := rops c52
noncomputable def c53 : Code := cr c51
noncomputable def c54 : Code := cl c53
noncomputable def c55 : Code := cl c54
noncomputable def c56 : Code := cl c55
noncomputable def o12 : Array Oper := rops c56
noncomputable def c57 : Code := cr c55
noncomputable def c58 : Code := cl c57
noncomputable def c59 : Code := cl c58
noncomputable def c60 : Code := cr c58
noncomputable def c61 : Code := cr c57
noncomputable def c62 : Code := cl c61
noncomputable def c63 : Code := cl c62
noncomputable def c64 : Code := cl c63
noncomputable def o13 : Array Oper := rops c64
noncomputable def c65 : Code := cr c63
noncomputable def c66 : Code := cl c65
noncomputable def o14 : Array Oper := rops c66
noncomputable def c67 : Code := cr c65
noncomputable def c68 : Code := cl c67
noncomputable def c69 : Code := cl c68
noncomputable def o15 : Array Oper := rops c69
noncomputable def c70 : Code := cr c68
noncomputable def c71 : Code := cr c67
noncomputable def c72 : Code := cr c61
noncomputable def o16 : Array Oper := rops c72
noncomputable def c73 : Code := cr c47
noncomputable def o17 : Array Oper := rops c73
noncomputable def c74 : Code := cr c27
noncomputable def o18 : Array Oper := rops c74
noncomputable def c75 : Code := cr c13
noncomputable def o19 : Array Oper := rops c75
noncomputable def c76 : Code := cr c2
noncomputable def c77 : Code := cl c76
noncomputable def o20 : Array Oper := rops c77
noncomputable def c78 : Code := cr c76
end F15
/-- Do they agree? -/
theorem tog_ok {w₀ : World} {C : Nat → Nat} {a b : List Block} {va vb : Value} {c : Couple} (hF : Lim w₀ C) (ha : RV w₀ (Mc C) a va) (hb : RV w₀ (Mc C) b vb) : Calls Try.prog 15 #[va, vb, .agg #[.int .i64 c.a, .int .i64 c.b]] w₀ (Ret fun v w' => v = .bool (tog a b c) ∧ Stp [] w₀ C w' C) := by
  have hF0 := hF
  have hT := Stp.refl [2, 3, 4, 5, 6, 7, 8, 9] w₀ (col1 C)
  replace hF := hF.col1
  replace ha : RV w₀ (Mc (col1 C)) a va := by rw [Mc_col1]; exact ha
  replace hb : RV w₀ (Mc (col1 C)) b vb := by rw [Mc_col1]; exact hb
  refine calls_start (c := F15.c0) (N := 60) [va, vb, .agg #[.int .i64 c.a, .int .i64 c.b]] Try.func15 (by kernel_rfl) (by kernel_rfl) (by kernel_rfl) ?_
  show Run _ _ _ _ [(0, va), (1, vb), (2, .agg #[.int .i64 c.a, .int .i64 c.b])] _ _
  refine run_seq (x := F15.c1) (y := F15.c2) (by kernel_rfl) ?_
  refine run_plain (id := 0) (ops := F15.o0) [(0, false), (1, true)] (by kernel_rfl) (by kernel_rfl) ?_
  refine aS (by kernel_rfl : opAt F15.o0 0 = some (some 5, .box 37 (.tmp 2), none)) rfl rfl (a_box (cs := [.int .i64 c.a, .int .i64 c.b]) hF 6 rfl rfl) ?_
  rintro _ w1 ⟨Cw1, bw1, rfl, hs, hc, hF⟩
  refine ⟨trivial, ?_⟩
  replace hT := hT.trans hs (by simp)
  replace ha := ha.st hs (by first | decide | (simp <;> omega))
  replace hb := hb.st hs (by first | decide | (simp <;> omega))
  refine yS (by kernel_rfl : opAt F15.o0 1 = some (some 6, .assign (.const (.bool false)), none)) rfl rfl (fun w' hS => val_assign rfl) ?_
  refine Sch.nil ?_
  refine run_seq (x := F15.c3) (y := F15.c76) (by kernel_rfl) ?_
  refine run_seq (x := F15.c4) (y := F15.c5) (by kernel_rfl) ?_
  refine run_plain (id := 1) (ops := F15.o1) [(0, true), (1, true), (2, true)] (by kernel_rfl) (by kernel_rfl) ?_
  refine yS (by kernel_rfl : opAt F15.o1 0 = some (some 15, .move (.tmp 0), none)) rfl rfl (fun w' hS => val_move rfl) ?_
  refine yS (by kernel_rfl : opAt F15.o1 1 = some (some 16, .call { callee := .builtin .len, args := #[(.tmp 15)], argTypes := #[39] }, none)) rfl rfl (fun w' hS => ha.lenV rfl Try.underlying39 w' ) ?_
  refine yS (by kernel_rfl : opAt F15.o1 2 = some (some 17, .move (.const (.int .i64 0)), none)) rfl rfl (fun w' hS => val_move rfl) ?_
  refine Sch.nil ?_
  refine run_block (x := F15.c6) (id := 0) (by kernel_rfl) ?_
  skip
  refine run_loop (ι := Nat × (Nat → Nat)) (I := fun x w => x.1 ≤ a.length ∧ Lim w x.2 ∧ Stp [2, 3, 4, 5, 6, 7, 8, 9] w₀ (col1 C) w x.2 ∧ RV w (Mc x.2) a va ∧ RV w (Mc x.2) b vb ∧ OwnB w x.2 6 bw1 (.cells [.int .i64 c.a, .int .i64 c.b].toArray 37) ∧ (a.take x.1).any (fun x => b.any fun y => decide (x.hash = y.hash) && x.ids.any fun p => y.ids.any fun q => decide (p = c.a) && decide (q = c.b)) = false) (e := fun x => [(1, vb), (5, .pointer (some ⟨bw1, 0, none⟩)), (15, va), (16, .int .i64 a.length), (17, .int .i64 x.1)]) (m := fun x => a.length - x.1) (x₀ := (0, Cw1)) (body := F15.c7) (by kernel_rfl) (sub_cons 1 rfl rfl (sub_cons 5 rfl rfl (sub_cons 15 rfl rfl (sub_cons 16 rfl rfl (sub_cons 17 rfl rfl (sub_nil _)))))) ?_ ?_
  · exact ⟨Nat.zero_le _, hF, hT, ha, hb, hc, rfl⟩
  intro ⟨i, C1⟩ w2 hI next
  obtain ⟨hi0, hF, hT, ha, hb, hc, hM0⟩ := hI
  simp only at hi0 hF hT ha hb hc
  show Run _ _ _ _ [(1, vb), (5, .pointer (some ⟨bw1, 0, none⟩)), (15, va), (16, .int .i64 a.length), (17, .int .i64 (i : Int))] _ _
  have hll0 := ha.le
  refine run_seq (x := F15.c8) (y := F15.c9) (by kernel_rfl) ?_
  refine run_plain (id := 2) (ops := F15.o2) [(0, true)] (by kernel_rfl) (by kernel_rfl) ?_
  refine yS (by kernel_rfl : opAt F15.o2 0 = some (some 18, .binOp .lss 3 (.tmp 17) (.tmp 16) 3, none)) rfl rfl (fun w' hS => val_lss rfl rfl) ?_
  refine Sch.nil ?_
  refine run_seq (x := F15.c10) (y := F15.c13) (by kernel_rfl) ?_
  refine run_if (x := F15.c11) (y := F15.c12) (o := .tmp 18) (by kernel_rfl) rfl (fun h18 => ?_) (fun h18 => ?_)
  · skip
    have hia : i < a.length := by omega
    refine run_skip (by kernel_rfl) ?_
    refine run_seq (x := F15.c14) (y := F15.c75) (by kernel_rfl) ?_
    refine run_block (x := F15.c15) (id := 1) (by kernel_rfl) ?_
    refine run_seq (x := F15.c16) (y := F15.c17) (by kernel_rfl) ?_
    refine run_plain (id := 3) (ops := F15.o3) [(0, true), (1, false), (2, false), (3, false)] (by kernel_rfl) (by kernel_rfl) ?_
    refine iS (e := 44) (by kernel_rfl : opAt F15.o3 0 = some (some 19, .indexAddr 39 (.tmp 15) (.tmp 17), none)) rfl rfl ha rfl (by kernel_rfl) rfl (by omega) (by omega) ?_
    intro b19 o19 h19
    try simp only [Int.toNat_natCast] at h19
    refine lNA (by kernel_rfl : opAt F15.o3 1 = some (some 20, .load 44 (.tmp 19), none)) rfl rfl trivial h19 (by kernel_rfl) (by kernel_rfl) rfl rfl ?_
    intro v20 g20
    obtain ⟨u20, rfl, gu20⟩ := rv_block' g20
    refine aS (by kernel_rfl : opAt F15.o3 2 = some (some 8, .alloc 44, none)) rfl rfl (a_alloc (cs := [.int .u64 0, .slice none 0 0]) hF 4 (by kernel_rfl)) ?_
    rintro _ w3 ⟨Cw3, bw3, rfl, hs, hx, hF⟩
    refine ⟨trivial, ?_⟩
    replace hT := hT.trans hs (by simp)
    replace ha := ha.st hs (by first | decide | (simp <;> omega))
    replace hb := hb.st hs (by first | decide | (simp <;> omega))
    replace hc := hc.st hs (by first | decide | (simp <;> omega))
    replace h19 := h19.st hs (by first | decide | (simp <;> omega))
    replace gu20 := gu20.st hs (by first | decide | (simp <;> omega))
    refine aN (by kernel_rfl : opAt F15.o3 3 = some (none, .store 44 (.tmp 8) (.tmp 20), none)) rfl (a_storeAll (vs := [.int .u64 ((a[i]'hia)).hash, u20]) (n := 2) rfl rfl (by kernel_rfl) rfl rfl (by intro u hu; simp only [List.mem_cons, List.not_mem_nil, or_false] at hu; rcases hu with rfl | rfl <;> first | rfl | exact (gu20.one rfl).2) hx rfl) ?_
    rintro _ w4 ⟨rfl, hs, hx⟩
    refine ⟨trivial, ?_⟩
    replace hF := hF.st hs
    replace hT := hT.trans hs (by simp)
    replace ha := ha.st hs (by first | decide | (simp <;> omega))
    replace hb := hb.st hs (by first | decide | (simp <;> omega))
    replace hc := hc.st hs (by first | decide | (simp <;> omega))
    replace h19 := h19.st hs (by first | decide | (simp <;> omega))
    replace gu20 := gu20.st hs (by first | decide | (simp <;> omega))
    refine Sch.nil ?_
    refine run_seq (x := F15.c18) (y := F15.c19) (by kernel_rfl) ?_
    refine run_plain (id := 4) (ops := F15.o4) [(0, true), (1, true), (2, true)] (by kernel_rfl) (by kernel_rfl) ?_
    refine yS (by kernel_rfl : opAt F15.o4 0 = some (some 21, .move (.tmp 1), none)) rfl rfl (fun w' hS => val_move rfl) ?_
    refine yS (by kernel_rfl : opAt F15.o4 1 = some (some 22, .call { callee := .builtin .len, args := #[(.tmp 21)], argTypes := #[39] }, none)) rfl rfl (fun w' hS => hb.lenV rfl Try.underlying39 w' ) ?_
    refine yS (by kernel_rfl : opAt F15.o4 2 = some (some 23, .move (.const (.int .i64 0)), none)) rfl rfl (fun w' hS => val_move rfl) ?_
    refine Sch.nil ?_
    refine run_block (x := F15.c20) (id := 2) (by kernel_rfl) ?_
    have next0x := next
    clear next
    refine run_loop (ι := Nat × (Nat → Nat)) (I := fun x w => x.1 ≤ b.length ∧ Lim w x.2 ∧ Stp [2, 3, 4, 5, 6, 7, 8, 9] w₀ (col1 C) w x.2 ∧ RV w (Mc x.2) a va ∧ RV w (Mc x.2) b vb ∧ OwnB w x.2 6 bw1 (.cells [.int .i64 c.a, .int .i64 c.b].toArray 37) ∧ RV w (Mc x.2) (a[i]'hia).ids u20 ∧ OwnB w x.2 4 bw3 (.cells [.int .u64 (a[i]'hia).hash, u20].toArray 44) ∧ (b.take x.1).any (fun y => decide ((a[i]'hia).hash = y.hash) && (a[i]'hia).ids.any fun p => y.ids.any fun q => decide (p = c.a) && decide (q = c.b)) = false) (e := fun x => [(1, vb), (5, .pointer (some ⟨bw1, 0, none⟩)), (8, .pointer (some ⟨bw3, 0, none⟩)), (15, va), (16, .int .i64 a.length), (17, .int .i64 i), (21, vb), (22, .int .i64 b.length), (23, .int .i64 x.1)]) (m := fun x => b.length - x.1) (x₀ := (0, Cw3)) (body := F15.c21) (by kernel_rfl) (sub_cons 1 rfl rfl (sub_cons 5 rfl rfl (sub_cons 8 rfl rfl (sub_cons 15 rfl rfl (sub_cons 16 rfl rfl (sub_cons 17 rfl rfl (sub_cons 21 rfl rfl (sub_cons 22 rfl rfl (sub_cons 23 rfl rfl (sub_nil _)))))))))) ?_ ?_
    · exact ⟨Nat.zero_le _, hF, hT, ha, hb, hc, gu20, hx, rfl⟩
    intro ⟨k, C2⟩ w5 hI next
    obtain ⟨hi1, hF, hT, ha, hb, hc, gu20, hx, hM1⟩ := hI
    simp only at hi1 hF hT ha hb hc gu20 hx
    show Run _ _ _ _ [(1, vb), (5, .pointer (some ⟨bw1, 0, none⟩)), (8, .pointer (some ⟨bw3, 0, none⟩)), (15, va), (16, .int .i64 a.length), (17, .int .i64 i), (21, vb), (22, .int .i64 b.length), (23, .int .i64 (k : Int))] _ _
    have hll1 := hb.le
    refine run_seq (x := F15.c22) (y := F15.c23) (by kernel_rfl) ?_
    refine run_plain (id := 5) (ops := F15.o5) [(0, true)] (by kernel_rfl) (by kernel_rfl) ?_
    refine yS (by kernel_rfl : opAt F15.o5 0 = some (some 24, .binOp .lss 3 (.tmp 23) (.tmp 22) 3, none)) rfl rfl (fun w' hS => val_lss rfl rfl) ?_
    refine Sch.nil ?_
    refine run_seq (x := F15.c24) (y := F15.c27) (by kernel_rfl) ?_
    refine run_if (x := F15.c25) (y := F15.c26) (o := .tmp 24) (by kernel_rfl) rfl (fun h24 => ?_) (fun h24 => ?_)
    · skip
      have hkb : k < b.length := by omega
      refine run_skip (by kernel_rfl) ?_
      refine run_seq (x := F15.c28) (y := F15.c74) (by kernel_rfl) ?_
      refine run_block (x := F15.c29) (id := 3) (by kernel_rfl) ?_
      refine run_seq (x := F15.c30) (y := F15.c31) (by kernel_rfl) ?_
      refine run_plain (id := 6) (ops := F15.o6) [(0, true), (1, false), (2, false), (3, false)] (by kernel_rfl) (by kernel_rfl) ?_
      refine iS (e := 44) (by kernel_rfl : opAt F15.o6 0 = some (some 25, .indexAddr 39 (.tmp 21) (.tmp 23), none)) rfl rfl hb rfl (by kernel_rfl) rfl (by omega) (by omega) ?_
      intro b25 o25 h25
      try simp only [Int.toNat_natCast] at h25
      refine lNA (by kernel_rfl : opAt F15.o6 1 = some (some 26, .load 44 (.tmp 25), none)) rfl rfl trivial h25 (by kernel_rfl) (by kernel_rfl) rfl rfl ?_
      intro v26 g26
      obtain ⟨u26, rfl, gu26⟩ := rv_block' g26
      refine aS (by kernel_rfl : opAt F15.o6 2 = some (some 10, .alloc 44, none)) rfl rfl (a_alloc (cs := [.int .u64 0, .slice none 0 0]) hF 5 (by kernel_rfl)) ?_
      rintro _ w6 ⟨Cw6, bw6, rfl, hs, hy, hF⟩
      refine ⟨trivial, ?_⟩
      replace hT := hT.trans hs (by simp)
      replace ha := ha.st hs (by first | decide | (simp <;> omega))
      replace hb := hb.st hs (by first | decide | (simp <;> omega))
      replace hc := hc.st hs (by first | decide | (simp <;> omega))
      replace gu20 := gu20.st hs (by first | decide | (simp <;> omega))
      replace hx := hx.st hs (by first | decide | (simp <;> omega))
      replace h25 := h25.st hs (by first | decide | (simp <;> omega))
      replace gu26 := gu26.st hs (by first | decide | (simp <;> omega))
      refine aN (by kernel_rfl : opAt F15.o6 3 = some (none, .store 44 (.tmp 10) (.tmp 26), none)) rfl (a_storeAll (vs := [.int .u64 ((b[k]'hkb)).hash, u26]) (n := 2) rfl rfl (by kernel_rfl) rfl rfl (by intro u hu; simp only [List.mem_cons, List.not_mem_nil, or_false] at hu; rcases hu with rfl | rfl <;> first | rfl | exact (gu26.one rfl).2) hy rfl) ?_
      rintro _ w7 ⟨rfl, hs, hy⟩
      refine ⟨trivial, ?_⟩
      replace hF := hF.st hs
      replace hT := hT.trans hs (by simp)
      replace ha := ha.st hs (by first | decide | (simp <;> omega))
      replace hb := hb.st hs (by first | decide | (simp <;> omega))
      replace hc := hc.st hs (by first | decide | (simp <;> omega))
      replace gu20 := gu20.st hs (by first | decide | (simp <;> omega))
      replace hx := hx.st hs (by first | decide | (simp <;> omega))
      replace h25 := h25.st hs (by first | decide | (simp <;> omega))
      replace gu26 := gu26.st hs (by first | decide | (simp <;> omega))
      refine Sch.nil ?_
      refine run_seq (x := F15.c32) (y := F15.c37) (by kernel_rfl) ?_
      refine run_seq (x := F15.c33) (y := F15.c34) (by kernel_rfl) ?_
      refine run_plain (id := 7) (ops := F15.o7) [(0, true), (1, false), (2, true), (3, false), (4, true)] (by kernel_rfl) (by kernel_rfl) ?_
      refine yS (by kernel_rfl : opAt F15.o7 0 = some (some 27, .fieldAddr 44 (.tmp 8) 0, none)) rfl rfl (fun w' hS => val_fieldAddr (off := 0) (by kernel_rfl) rfl) ?_
      refine nS (by kernel_rfl : opAt F15.o7 1 = some (some 28, .load 42 (.tmp 27), none)) rfl rfl trivial (val_loadOwn hx.at_ (by kernel_rfl) rfl rfl) ?_
      refine yS (by kernel_rfl : opAt F15.o7 2 = some (some 29, .fieldAddr 44 (.tmp 10) 0, none)) rfl rfl (fun w' hS => val_fieldAddr (off := 0) (by kernel_rfl) rfl) ?_
      refine nS (by kernel_rfl : opAt F15.o7 3 = some (some 30, .load 42 (.tmp 29), none)) rfl rfl trivial (val_loadOwn hy.at_ (by kernel_rfl) rfl rfl) ?_
      refine yS (by kernel_rfl : opAt F15.o7 4 = some (some 31, .binOp .neq 42 (.tmp 28) (.tmp 30) 42, none)) rfl rfl (fun w' hS => val_neq rfl rfl) ?_
      refine Sch.nil ?_
      refine run_if (x := F15.c35) (y := F15.c36) (o := .tmp 31) (by kernel_rfl) rfl (fun h31 => ?_) (fun h31 => ?_)
      · skip
        refine run_exit (id := 3) (by kernel_rfl) rfl ?_
        refine run_plain (id := 18) (ops := F15.o18) [(0, true), (1, true)] (by kernel_rfl) (by kernel_rfl) ?_
        refine yS (by kernel_rfl : opAt F15.o18 0 = some (some 58, .binOp .add 3 (.tmp 23) (.const (.int .i64 1)) 3, none)) rfl rfl (fun w' hS => val_addi rfl rfl (by omega) (by omega)) ?_
        refine yS (by kernel_rfl : opAt F15.o18 1 = some (some 23, .move (.tmp 58), none)) rfl rfl (fun w' hS => val_move rfl) ?_
        refine Sch.nil ?_
        have next1x := next
        refine kp (sub_cons 1 rfl rfl (sub_cons 5 rfl rfl (sub_cons 8 rfl rfl (sub_cons 15 rfl rfl (sub_cons 16 rfl rfl (sub_cons 17 rfl rfl (sub_cons 21 rfl rfl (sub_cons 22 rfl rfl (sub_cons 23 rfl (eq_int (by simp)) (sub_nil _)))))))))) (next1x (k + 1, Cw6) _ ⟨by simp only; omega, hF, hT, ha, hb, hc, gu20, hx, ?_⟩ (by simp only; omega))
        simp only
        rw [any_take _ _ hkb, hM1, Bool.false_or]
        simp only [decide_eq_false h31, Bool.false_and]
      · skip
        have h31 : (a[i]'hia).hash = (b[k]'hkb).hash := by simpa using h31
        refine run_skip (by kernel_rfl) ?_
        refine run_seq (x := F15.c38) (y := F15.c39) (by kernel_rfl) ?_
        refine run_plain (id := 8) (ops := F15.o8) [(0, true), (1, false), (2, true), (3, true)] (by kernel_rfl) (by kernel_rfl) ?_
        refine yS (by kernel_rfl : opAt F15.o8 0 = some (some 32, .fieldAddr 44 (.tmp 8) 1, none)) rfl rfl (fun w' hS => val_fieldAddr (off := 1) (by kernel_rfl) rfl) ?_
        refine nS (by kernel_rfl : opAt F15.o8 1 = some (some 33, .load 22 (.tmp 32), none)) rfl rfl trivial (val_loadOwn hx.at_ (by kernel_rfl) rfl rfl) ?_
        refine yS (by kernel_rfl : opAt F15.o8 2 = some (some 34, .call { callee := .builtin .len, args := #[(.tmp 33)], argTypes := #[22] }, none)) rfl rfl (fun w' hS => gu20.lenV rfl Try.underlying22 w' ) ?_
        refine yS (by kernel_rfl : opAt F15.o8 3 = some (some 35, .move (.const (.int .i64 0)), none)) rfl rfl (fun w' hS => val_move rfl) ?_
        refine Sch.nil ?_
        refine run_block (x := F15.c40) (id := 4) (by kernel_rfl) ?_
        have next1x := next
        clear next
        refine run_loop (ι := Nat × (Nat → Nat)) (I := fun x w => x.1 ≤ (a[i]'hia).ids.length ∧ Lim w x.2 ∧ Stp [2, 3, 4, 5, 6, 7, 8, 9] w₀ (col1 C) w x.2 ∧ RV w (Mc x.2) a va ∧ RV w (Mc x.2) b vb ∧ OwnB w x.2 6 bw1 (.cells [.int .i64 c.a, .int .i64 c.b].toArray 37) ∧ RV w (Mc x.2) (a[i]'hia).ids u20 ∧ OwnB w x.2 4 bw3 (.cells [.int .u64 (a[i]'hia).hash, u20].toArray 44) ∧ RV w (Mc x.2) (b[k]'hkb).ids u26 ∧ OwnB w x.2 5 bw6 (.cells [.int .u64 (b[k]'hkb).hash, u26].toArray 44) ∧ ((a[i]'hia).ids.take x.1).any (fun p => (b[k]'hkb).ids.any fun q => decide (p = c.a) && decide (q = c.b)) = false) (e := fun x => [(1, vb), (5, .pointer (some ⟨bw1, 0, none⟩)), (8, .pointer (some ⟨bw3, 0, none⟩)), (10, .pointer (some ⟨bw6, 0, none⟩)), (15, va), (16, .int .i64 a.length), (17, .int .i64 i), (21, vb), (22, .int .i64 b.length), (23, .int .i64 k), (33, u20), (34, (.int .i64 (a[i]'hia).ids.length)), (35, .int .i64 x.1)]) (m := fun x => (a[i]'hia).ids.length - x.1) (x₀ := (0, Cw6)) (body := F15.c41) (by kernel_rfl) (sub_cons 1 rfl rfl (sub_cons 5 rfl rfl (sub_cons 8 rfl rfl (sub_cons 10 rfl rfl (sub_cons 15 rfl rfl (sub_cons 16 rfl rfl (sub_cons 17 rfl rfl (sub_cons 21 rfl rfl (sub_cons 22 rfl rfl (sub_cons 23 rfl rfl (sub_cons 33 rfl rfl (sub_cons 34 rfl rfl (sub_cons 35 rfl rfl (sub_nil _)))))))))))))) ?_ ?_
        · exact ⟨Nat.zero_le _, hF, hT, ha, hb, hc, gu20, hx, gu26, hy, rfl⟩
        intro ⟨s, C3⟩ w8 hI next
        obtain ⟨hi2, hF, hT, ha, hb, hc, gu20, hx, gu26, hy, hM2⟩ := hI
        simp only at hi2 hF hT ha hb hc gu20 hx gu26 hy
        show Run _ _ _ _ [(1, vb), (5, .pointer (some ⟨bw1, 0, none⟩)), (8, .pointer (some ⟨bw3, 0, none⟩)), (10, .pointer (some ⟨bw6, 0, none⟩)), (15, va), (16, .int .i64 a.length), (17, .int .i64 i), (21, vb), (22, .int .i64 b.length), (23, .int .i64 k), (33, u20), (34, (.int .i64 (a[i]'hia).ids.length)), (35, .int .i64 (s : Int))] _ _
        have hll2 := gu20.le
        refine run_seq (x := F15.c42) (y := F15.c43) (by kernel_rfl) ?_
        refine run_plain (id := 9) (ops := F15.o9) [(0, true)] (by kernel_rfl) (by kernel_rfl) ?_
        refine yS (by kernel_rfl : opAt F15.o9 0 = some (some 36, .binOp .lss 3 (.tmp 35) (.tmp 34) 3, none)) rfl rfl (fun w' hS => val_lss rfl rfl) ?_
        refine Sch.nil ?_
        refine run_seq (x := F15.c44) (y := F15.c47) (by kernel_rfl) ?_
        refine run_if (x := F15.c45) (y := F15.c46) (o := .tmp 36) (by kernel_rfl) rfl (fun h36 => ?_) (fun h36 => ?_)
        · skip
          have hsx : s < (a[i]'hia).ids.length := by omega
          refine run_skip (by kernel_rfl) ?_
          refine run_seq (x := F15.c48) (y := F15.c73) (by kernel_rfl) ?_
          refine run_block (x := F15.c49) (id := 5) (by kernel_rfl) ?_
          refine run_seq (x := F15.c50) (y := F15.c51) (by kernel_rfl) ?_
          refine run_plain (id := 10) (ops := F15.o10) [(0, true), (1, false), (2, true)] (by kernel_rfl) (by kernel_rfl) ?_
          refine iS (e := 3) (by kernel_rfl : opAt F15.o10 0 = some (some 37, .indexAddr 22 (.tmp 33) (.tmp 35), none)) rfl rfl gu20 rfl (by kernel_rfl) rfl (by omega) (by omega) ?_
          intro b37 o37 h37
          try simp only [Int.toNat_natCast] at h37
          refine lN (by kernel_rfl : opAt F15.o10 1 = some (some 38, .load 3 (.tmp 37), none)) rfl rfl trivial h37 (by kernel_rfl) rfl rfl ?_
          intro v38 g38
          obtain rfl := rv_int.1 g38
          refine yS (by kernel_rfl : opAt F15.o10 2 = some (some 12, .assign (.tmp 38), none)) rfl rfl (fun w' hS => val_assign rfl) ?_
          refine Sch.nil ?_
          refine run_seq (x := F15.c52) (y := F15.c53) (by kernel_rfl) ?_
          refine run_plain (id := 11) (ops := F15.o11) [(0, true), (1, false), (2, true), (3, true)] (by kernel_rfl) (by kernel_rfl) ?_
          refine yS (by kernel_rfl : opAt F15.o11 0 = some (some 39, .fieldAddr 44 (.tmp 10) 1, none)) rfl rfl (fun w' hS => val_fieldAddr (off := 1) (by kernel_rfl) rfl) ?_
          refine nS (by kernel_rfl : opAt F15.o11 1 = some (some 40, .load 22 (.tmp 39), none)) rfl rfl trivial (val_loadOwn hy.at_ (by kernel_rfl) rfl rfl) ?_
          refine yS (by kernel_rfl : opAt F15.o11 2 = some (some 41, .call { callee := .builtin .len, args := #[(.tmp 40)], argTypes := #[22] }, none)) rfl rfl (fun w' hS => gu26.lenV rfl Try.underlying22 w' ) ?_
          refine yS (by kernel_rfl : opAt F15.o11 3 = some (some 42, .move (.const (.int .i64 0)), none)) rfl rfl (fun w' hS => val_move rfl) ?_
          refine Sch.nil ?_
          refine run_block (x := F15.c54) (id := 6) (by kernel_rfl) ?_
          have next2x := next
          clear next
          refine run_loop (ι := Nat × (Nat → Nat)) (I := fun x w => x.1 ≤ (b[k]'hkb).ids.length ∧ Lim w x.2 ∧ Stp [2, 3, 4, 5, 6, 7, 8, 9] w₀ (col1 C) w x.2 ∧ RV w (Mc x.2) a va ∧ RV w (Mc x.2) b vb ∧ OwnB w x.2 6 bw1 (.cells [.int .i64 c.a, .int .i64 c.b].toArray 37) ∧ RV w (Mc x.2) (a[i]'hia).ids u20 ∧ OwnB w x.2 4 bw3 (.cells [.int .u64 (a[i]'hia).hash, u20].toArray 44) ∧ RV w (Mc x.2) (b[k]'hkb).ids u26 ∧ OwnB w x.2 5 bw6 (.cells [.int .u64 (b[k]'hkb).hash, u26].toArray 44) ∧ ((b[k]'hkb).ids.take x.1).any (fun q => decide (((a[i]'hia).ids[s]'hsx) = c.a) && decide (q = c.b)) = false) (e := fun x => [(1, vb), (5, .pointer (some ⟨bw1, 0, none⟩)), (8, .pointer (some ⟨bw3, 0, none⟩)), (10, .pointer (some ⟨bw6, 0, none⟩)), (12, (.int .i64 ((a[i]'hia).ids[s]'hsx))), (15, va), (16, .int .i64 a.length), (17, .int .i64 i), (21, vb), (22, .int .i64 b.length), (23, .int .i64 k), (33, u20), (34, (.int .i64 (a[i]'hia).ids.length)), (35, .int .i64 s), (40, u26), (41, (.int .i64 (b[k]'hkb).ids.length)), (42, .int .i64 x.1)]) (m := fun x => (b[k]'hkb).ids.length - x.1) (x₀ := (0, C3)) (body := F15.c55) (by kernel_rfl) (sub_cons 1 rfl rfl (sub_cons 5 rfl rfl (sub_cons 8 rfl rfl (sub_cons 10 rfl rfl (sub_cons 12 rfl rfl (sub_cons 15 rfl rfl (sub_cons 16 rfl rfl (sub_cons 17 rfl rfl (sub_cons 21 rfl rfl (sub_cons 22 rfl rfl (sub_cons 23 rfl rfl (sub_cons 33 rfl rfl (sub_cons 34 rfl rfl (sub_cons 35 rfl rfl (sub_cons 40 rfl rfl (sub_cons 41 rfl rfl (sub_cons 42 rfl rfl (sub_nil _)))))))))))))))))) ?_ ?_
          · exact ⟨Nat.zero_le _, hF, hT, ha, hb, hc, gu20, hx, gu26, hy, rfl⟩
          intro ⟨t, C4⟩ w9 hI next
          obtain ⟨hi3, hF, hT, ha, hb, hc, gu20, hx, gu26, hy, hM3⟩ := hI
          simp only at hi3 hF hT ha hb hc gu20 hx gu26 hy
          show Run _ _ _ _ [(1, vb), (5, .pointer (some ⟨bw1, 0, none⟩)), (8, .pointer (some ⟨bw3, 0, none⟩)), (10, .pointer (some ⟨bw6, 0, none⟩)), (12, (.int .i64 ((a[i]'hia).ids[s]'hsx))), (15, va), (16, .int .i64 a.length), (17, .int .i64 i), (21, vb), (22, .int .i64 b.length), (23, .int .i64 k), (33, u20), (34, (.int .i64 (a[i]'hia).ids.length)), (35, .int .i64 s), (40, u26), (41, (.int .i64 (b[k]'hkb).ids.length)), (42, .int .i64 (t : Int))] _ _
          have hll3 := gu26.le
          refine run_seq (x := F15.c56) (y := F15.c57) (by kernel_rfl) ?_
          refine run_plain (id := 12) (ops := F15.o12) [(0, true)] (by kernel_rfl) (by kernel_rfl) ?_
          refine yS (by kernel_rfl : opAt F15.o12 0 = some (some 43, .binOp .lss 3 (.tmp 42) (.tmp 41) 3, none)) rfl rfl (fun w' hS => val_lss rfl rfl) ?_
          refine Sch.nil ?_
          refine run_seq (x := F15.c58) (y := F15.c61) (by kernel_rfl) ?_
          refine run_if (x := F15.c59) (y := F15.c60) (o := .tmp 43) (by kernel_rfl) rfl (fun h43 => ?_) (fun h43 => ?_)
          · skip
            have hty : t < (b[k]'hkb).ids.length := by omega
            refine run_skip (by kernel_rfl) ?_
            refine run_seq (x := F15.c62) (y := F15.c72) (by kernel_rfl) ?_
            refine run_block (x := F15.c63) (id := 7) (by kernel_rfl) ?_
            refine run_seq (x := F15.c64) (y := F15.c65) (by kernel_rfl) ?_
            refine run_plain (id := 13) (ops := F15.o13) [(0, true), (1, false), (2, true)] (by kernel_rfl) (by kernel_rfl) ?_
            refine iS (e := 3) (by kernel_rfl : opAt F15.o13 0 = some (some 44, .indexAddr 22 (.tmp 40) (.tmp 42), none)) rfl rfl gu26 rfl (by kernel_rfl) rfl (by omega) (by omega) ?_
            intro b44 o44 h44
            try simp only [Int.toNat_natCast] at h44
            refine lN (by kernel_rfl : opAt F15.o13 1 = some (some 45, .load 3 (.tmp 44), none)) rfl rfl trivial h44 (by kernel_rfl) rfl rfl ?_
            intro v45 g45
            obtain rfl := rv_int.1 g45
            refine yS (by kernel_rfl : opAt F15.o13 2 = some (some 14, .assign (.tmp 45), none)) rfl rfl (fun w' hS => val_assign rfl) ?_
            refine Sch.nil ?_
            refine run_seq (x := F15.c66) (y := F15.c67) (by kernel_rfl) ?_
            refine run_cut 55 (decide (((a[i]'hia).ids[s]'hsx) = c.a) && decide (((b[k]'hkb).ids[t]'hty) = c.b)) (C4) ?_ ?_
            · intro hcut
              by_cases hA : ((a[i]'hia).ids[s]'hsx) = c.a
              · skip
                refine run_plain (id := 14) (ops := F15.o14) [(0, true), (1, true), (2, false), (3, true), (4, true), (5, true), (6, true), (7, false), (8, true), (9, true)] (by kernel_rfl) (by kernel_rfl) ?_
                refine yS (by kernel_rfl : opAt F15.o14 0 = some (some 46, .move (.tmp 12), none)) rfl rfl (fun w' hS => val_move rfl) ?_
                refine yS (by kernel_rfl : opAt F15.o14 1 = some (some 47, .fieldAddr 37 (.tmp 5) 0, none)) rfl rfl (fun w' hS => val_fieldAddr (off := 0) (by kernel_rfl) rfl) ?_
                refine nS (by kernel_rfl : opAt F15.o14 2 = some (some 48, .load 3 (.tmp 47), none)) rfl rfl trivial (val_loadOwn hc.at_ (by kernel_rfl) rfl rfl) ?_
                refine yS (by kernel_rfl : opAt F15.o14 3 = some (some 49, .binOp .eql 3 (.tmp 46) (.tmp 48) 3, none)) rfl rfl (fun w' hS => val_T (val_eql rfl rfl) hA) ?_
                refine yS (by kernel_rfl : opAt F15.o14 4 = some (some 50, .move (.tmp 49), none)) rfl rfl (fun w' hS => val_move rfl) ?_
                refine yS (by kernel_rfl : opAt F15.o14 5 = some (some 51, .move (.tmp 14), (some (4, true)))) rfl rfl (fun w' hS => val_move rfl) ?_
                refine yS (by kernel_rfl : opAt F15.o14 6 = some (some 52, .fieldAddr 37 (.tmp 5) 1, (some (4, true)))) rfl rfl (fun w' hS => val_fieldAddr (off := 1) (by kernel_rfl) rfl) ?_
                refine nS (by kernel_rfl : opAt F15.o14 7 = some (some 53, .load 3 (.tmp 52), (some (4, true)))) rfl rfl trivial (val_loadOwn hc.at_ (by kernel_rfl) rfl rfl) ?_
                refine yS (by kernel_rfl : opAt F15.o14 8 = some (some 54, .binOp .eql 3 (.tmp 51) (.tmp 53) 3, (some (4, true)))) rfl rfl (fun w' hS => val_eql rfl rfl) ?_
                refine yS (by kernel_rfl : opAt F15.o14 9 = some (some 55, .pick (.tmp 50) (.tmp 54) (.const (.bool false)), none)) rfl rfl (fun w' hS => val_pick_t rfl rfl) ?_
                exact Sch.nil (hcut _ _ _ (Stp.refl _ _ _) rfl (by rw [decide_eq_true hA]; rfl) (sub_skip rfl (sub_skip rfl (sub_skip rfl (sub_skip rfl (sub_skip rfl (sub_skip rfl (sub_skip rfl (sub_skip rfl (sub_skip rfl (sub_skip rfl (Sub.refl _))))))))))))
              · skip
                refine run_plain (id := 14) (ops := F15.o14) [(0, true), (1, true), (2, false), (3, true), (4, true), (5, true), (6, true), (7, false), (8, true), (9, true)] (by kernel_rfl) (by kernel_rfl) ?_
                refine yS (by kernel_rfl : opAt F15.o14 0 = some (some 46, .move (.tmp 12), none)) rfl rfl (fun w' hS => val_move rfl) ?_
                refine yS (by kernel_rfl : opAt F15.o14 1 = some (some 47, .fieldAddr 37 (.tmp 5) 0, none)) rfl rfl (fun w' hS => val_fieldAddr (off := 0) (by kernel_rfl) rfl) ?_
                refine nS (by kernel_rfl : opAt F15.o14 2 = some (some 48, .load 3 (.tmp 47), none)) rfl rfl trivial (val_loadOwn hc.at_ (by kernel_rfl) rfl rfl) ?_
                refine yS (by kernel_rfl : opAt F15.o14 3 = some (some 49, .binOp .eql 3 (.tmp 46) (.tmp 48) 3, none)) rfl rfl (fun w' hS => val_F (val_eql rfl rfl) hA) ?_
                refine yS (by kernel_rfl : opAt F15.o14 4 = some (some 50, .move (.tmp 49), none)) rfl rfl (fun w' hS => val_move rfl) ?_
                refine pS (by kernel_rfl : opAt F15.o14 5 = some (some 51, .move (.tmp 14), (some (4, true)))) rfl rfl ?_
                refine pS (by kernel_rfl : opAt F15.o14 6 = some (some 52, .fieldAddr 37 (.tmp 5) 1, (some (4, true)))) rfl rfl ?_
                refine pW (by kernel_rfl : opAt F15.o14 7 = some (some 53, .load 3 (.tmp 52), (some (4, true)))) rfl rfl trivial ?_
                refine pS (by kernel_rfl : opAt F15.o14 8 = some (some 54, .binOp .eql 3 (.tmp 51) (.tmp 53) 3, (some (4, true)))) rfl rfl ?_
                refine yS (by kernel_rfl : opAt F15.o14 9 = some (some 55, .pick (.tmp 50) (.tmp 54) (.const (.bool false)), none)) rfl rfl (fun w' hS => val_pick_f rfl rfl) ?_
                exact Sch.nil (hcut _ _ _ (Stp.refl _ _ _) rfl (by rw [decide_eq_false hA]; rfl) (sub_skip rfl (sub_skip rfl (sub_skip rfl (sub_skip rfl (sub_skip rfl (sub_skip rfl (sub_skip rfl (sub_skip rfl (sub_skip rfl (sub_skip rfl (Sub.refl _))))))))))))
            intro w10 hs
            replace hF := hF.st hs
            replace hT := hT.trans hs (by simp)
            replace ha := ha.st hs (by first | decide | (simp <;> omega))
            replace hb := hb.st hs (by first | decide | (simp <;> omega))
            replace hc := hc.st hs (by first | decide | (simp <;> omega))
            replace gu20 := gu20.st hs (by first | decide | (simp <;> omega))
            replace hx := hx.st hs (by first | decide | (simp <;> omega))
            replace gu26 := gu26.st hs (by first | decide | (simp <;> omega))
            replace hy := hy.st hs (by first | decide | (simp <;> omega))
            replace h44 := h44.st hs (by first | decide | (simp <;> omega))
            refine run_cond (x := F15.c68) (y := F15.c71) (o := .tmp 55) (by kernel_rfl) rfl (fun h55 => ?_) (fun h55 => ?_)
            · skip
              have hall : tog a b c = true := by
                unfold tog
                refine any_at _ a hia ?_
                refine any_at _ b hkb ?_
                simp only [h31, decide_true, Bool.true_and]
                refine any_at _ _ hsx ?_
                exact any_at _ _ hty h55
              refine run_seq (x := F15.c69) (y := F15.c70) (by kernel_rfl) ?_
              refine run_plain (id := 15) (ops := F15.o15) [(0, true)] (by kernel_rfl) (by kernel_rfl) ?_
              refine yS (by kernel_rfl : opAt F15.o15 0 = some (some 6, .assign (.const (.bool true)), none)) rfl rfl (fun w' hS => val_assign rfl) ?_
              refine Sch.nil ?_
              refine run_ret1 (by kernel_rfl) Try.func15 Try.results15 rfl ?_
              have hout := hT.out1 (by decide)
              exact ⟨by rw [hall], hout⟩
            · skip
              refine run_skip (by kernel_rfl) ?_
              refine run_inBlock ?_
              refine run_plain (id := 16) (ops := F15.o16) [(0, true), (1, true)] (by kernel_rfl) (by kernel_rfl) ?_
              refine yS (by kernel_rfl : opAt F15.o16 0 = some (some 56, .binOp .add 3 (.tmp 42) (.const (.int .i64 1)) 3, none)) rfl rfl (fun w' hS => val_addi rfl rfl (by omega) (by omega)) ?_
              refine yS (by kernel_rfl : opAt F15.o16 1 = some (some 42, .move (.tmp 56), none)) rfl rfl (fun w' hS => val_move rfl) ?_
              refine Sch.nil ?_
              refine kp (sub_cons 1 rfl rfl (sub_cons 5 rfl rfl (sub_cons 8 rfl rfl (sub_cons 10 rfl rfl (sub_cons 12 rfl rfl (sub_cons 15 rfl rfl (sub_cons 16 rfl rfl (sub_cons 17 rfl rfl (sub_cons 21 rfl rfl (sub_cons 22 rfl rfl (sub_cons 23 rfl rfl (sub_cons 33 rfl rfl (sub_cons 34 rfl rfl (sub_cons 35 rfl rfl (sub_cons 40 rfl rfl (sub_cons 41 rfl rfl (sub_cons 42 rfl (eq_int (by simp)) (sub_nil _)))))))))))))))))) (next (t + 1, C4) _ ⟨by simp only; omega, hF, hT, ha, hb, hc, gu20, hx, gu26, hy, ?_⟩ (by simp only; omega))
              simp only
              rw [any_take _ _ hty, hM3, Bool.false_or]
              exact h55
          · skip
            have he3 : t = (b[k]'hkb).ids.length := by omega
            subst he3
            rw [List.take_length] at hM3
            refine run_exit (id := 6) (by kernel_rfl) rfl ?_
            refine run_inBlock ?_
            refine run_plain (id := 17) (ops := F15.o17) [(0, true), (1, true)] (by kernel_rfl) (by kernel_rfl) ?_
            refine yS (by kernel_rfl : opAt F15.o17 0 = some (some 57, .binOp .add 3 (.tmp 35) (.const (.int .i64 1)) 3, none)) rfl rfl (fun w' hS => val_addi rfl rfl (by omega) (by omega)) ?_
            refine yS (by kernel_rfl : opAt F15.o17 1 = some (some 35, .move (.tmp 57), none)) rfl rfl (fun w' hS => val_move rfl) ?_
            refine Sch.nil ?_
            refine kp (sub_cons 1 rfl rfl (sub_cons 5 rfl rfl (sub_cons 8 rfl rfl (sub_cons 10 rfl rfl (sub_cons 15 rfl rfl (sub_cons 16 rfl rfl (sub_cons 17 rfl rfl (sub_cons 21 rfl rfl (sub_cons 22 rfl rfl (sub_cons 23 rfl rfl (sub_cons 33 rfl rfl (sub_cons 34 rfl rfl (sub_cons 35 rfl (eq_int (by simp)) (sub_nil _)))))))))))))) (next2x (s + 1, C4) _ ⟨by simp only; omega, hF, hT, ha, hb, hc, gu20, hx, gu26, hy, ?_⟩ (by simp only; omega))
            simp only
            rw [any_take _ _ hsx, hM2, Bool.false_or]
            exact hM3
        · skip
          have he2 : s = (a[i]'hia).ids.length := by omega
          subst he2
          rw [List.take_length] at hM2
          refine run_exit (id := 4) (by kernel_rfl) rfl ?_
          refine run_inBlock ?_
          refine run_plain (id := 18) (ops := F15.o18) [(0, true), (1, true)] (by kernel_rfl) (by kernel_rfl) ?_
          refine yS (by kernel_rfl : opAt F15.o18 0 = some (some 58, .binOp .add 3 (.tmp 23) (.const (.int .i64 1)) 3, none)) rfl rfl (fun w' hS => val_addi rfl rfl (by omega) (by omega)) ?_
          refine yS (by kernel_rfl : opAt F15.o18 1 = some (some 23, .move (.tmp 58), none)) rfl rfl (fun w' hS => val_move rfl) ?_
          refine Sch.nil ?_
          refine kp (sub_cons 1 rfl rfl (sub_cons 5 rfl rfl (sub_cons 8 rfl rfl (sub_cons 15 rfl rfl (sub_cons 16 rfl rfl (sub_cons 17 rfl rfl (sub_cons 21 rfl rfl (sub_cons 22 rfl rfl (sub_cons 23 rfl (eq_int (by simp)) (sub_nil _)))))))))) (next1x (k + 1, C3) _ ⟨by simp only; omega, hF, hT, ha, hb, hc, gu20, hx, ?_⟩ (by simp only; omega))
          simp only
          rw [any_take _ _ hkb, hM1, Bool.false_or]
          simp only [h31, decide_true, Bool.true_and]; exact hM2
    · skip
      have he1 : k = b.length := by omega
      subst he1
      rw [List.take_length] at hM1
      refine run_exit (id := 2) (by kernel_rfl) rfl ?_
      refine run_inBlock ?_
      refine run_plain (id := 19) (ops := F15.o19) [(0, true), (1, true)] (by kernel_rfl) (by kernel_rfl) ?_
      refine yS (by kernel_rfl : opAt F15.o19 0 = some (some 59, .binOp .add 3 (.tmp 17) (.const (.int .i64 1)) 3, none)) rfl rfl (fun w' hS => val_addi rfl rfl (by omega) (by omega)) ?_
      refine yS (by kernel_rfl : opAt F15.o19 1 = some (some 17, .move (.tmp 59), none)) rfl rfl (fun w' hS => val_move rfl) ?_
      refine Sch.nil ?_
      refine kp (sub_cons 1 rfl rfl (sub_cons 5 rfl rfl (sub_cons 15 rfl rfl (sub_cons 16 rfl rfl (sub_cons 17 rfl (eq_int (by simp)) (sub_nil _)))))) (next0x (i + 1, C2) _ ⟨by simp only; omega, hF, hT, ha, hb, hc, ?_⟩ (by simp only; omega))
      simp only
      rw [any_take _ _ hia, hM0, Bool.false_or]
      exact hM1
  · skip
    have he0 : i = a.length := by omega
    subst he0
    rw [List.take_length] at hM0
    refine run_exit (id := 0) (by kernel_rfl) rfl ?_
    refine run_seq (x := F15.c77) (y := F15.c78) (by kernel_rfl) ?_
    refine run_plain (id := 20) (ops := F15.o20) [(0, true)] (by kernel_rfl) (by kernel_rfl) ?_
    refine yS (by kernel_rfl : opAt F15.o20 0 = some (some 6, .assign (.const (.bool false)), none)) rfl rfl (fun w' hS => val_assign rfl) ?_
    refine Sch.nil ?_
    refine run_ret1 (by kernel_rfl) Try.func15 Try.results15 rfl ?_
    have hout := hT.out1 (by decide)
    exact ⟨by rw [show tog a b c = false from hM0], hout⟩
end Go.Proofs.Ytejbklahkkjmhaa

