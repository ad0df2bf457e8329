/- Steps through functions of the program. -/
import Derived.Test.YtejbklahkkjmhaaJP2
set_option linter.unusedVariables false
set_option linter.unusedSimpArgs false
set_option maxRecDepth 100000
set_option maxHeartbeats 400000
namespace Go.Proofs.Ytejbklahkkjmhaa
open Go.K Go.K.Rep

namespace F32
noncomputable def c0 : Code := bodyOf Try.f32
noncomputable def c1 : Code := cl c0
noncomputable def o0 : Array Oper := rops c1
noncomputable def c2 : Code := cr c0
noncomputable def c3 : Code := cl c2
noncomputable def o1 : Array Oper := rops c3
noncomputable def c4 : Code := cr c2
noncomputable def c5 : Code := cl c4
noncomputable def c6 : Code := cl c5
noncomputable def o2 : Array Oper := rops c6
noncomputable def c7 : Code := cr c5
noncomputable def c8 : Code := cl c7
noncomputable def c9 : Code := cl c8
noncomputable def c10 : Code := cl c9
noncomputable def o3 : Array Oper := rops c10
noncomputable def c11 : Code := cr c9
noncomputable def c12 : Code := cl c11
noncomputable def c13 : Code := cl c12
noncomputable def c14 : Code := cr c12
noncomputable def c15 : Code := cr c11
noncomputable def c16 : Code := cl c15
noncomputable def c17 : Code := cl c16
noncomputable def c18 : Code := cl c17
noncomputable def o4 : Array Oper := rops c18
noncomputable def c19 : Code := cr c17
noncomputable def c20 : Code := cl c19
noncomputable def o5 : Array Oper := rops c20
noncomputable def c21 : Code := cr c19
noncomputable def c22 : Code := cl c21
noncomputable def c23 : Code := cl c22
noncomputable def c24 : Code := cl c23
noncomputable def o6 : Array Oper := rops c24
noncomputable def c25 : Code := cr c23
noncomputable def c26 : Code := cl c25
noncomputable def c27 : Code := cl c26
noncomputable def c28 : Code := cr c26
noncomputable def c29 : Code := cr c25
noncomputable def c30 : Code := cl c29
noncomputable def c31 : Code := cl c30
noncomputable def c32 : Code := cl c31
noncomputable def o7 : Array Oper := rops c32
noncomputable def c33 : Code := cr c31
noncomputable def c34 : Code := cl c33
noncomputable def o8 : Array Oper := rops c34
noncomputable def c35 : Code := cr c33
noncomputable def c36 : Code := cl c35
noncomputable def c37 : Code := cl c36
noncomputable def c38 : Code := cl c37
noncomputable def o9 : Array Oper := rops c38
noncomputable def c39 : Code := cr c37
noncomputable def c40 : Code := cl c39
noncomputable def c41 : Code := cl c40
noncomputable def c42 : Code := cr c40
noncomputable def c43 : Code := cr c39
noncomputable def c44 : Code := cl c43
noncomputable def c45 : Code := cl c44
noncomputable def c46 : Code := cl c45
noncomputable def o10 : Array Oper := rops c46
noncomputable def c47 : Code := cr c45
noncomputable def c48 : Code := cl c47
noncomputable def c49 : Code := cl c48
noncomputable def o11 : Array Oper := rops c49
noncomputable def c50 : Code := cr c48
noncomputable def c51 : Code := cl c50
noncomputable def c52 : Code := cr c50
noncomputable def c53 : Code := cr c47
noncomputable def c54 : Code := cl c53
noncomputable def o12 : Array Oper := rops c54
noncomputable def c55 : Code := cr c53
noncomputable def c56 : Code := cl c55
noncomputable def c57 : Code := cl c56
noncomputable def c58 : Code := cl c57
noncomputable def o13 : Array Oper := rops c58
noncomputable def c59 : Code := cr c57
noncomputable def c60 : Code := cl c59
noncomputable def c61 : Code := cl c60
noncomputable def c62 : Code := cr c60
noncomputable def c63 : Code := cr c59
noncomputable def c64 : Code := cl c63
noncomputable def c65 : Code := cl c64
noncomputable def c66 : Code := cl c65
noncomputable def o14 : Array Oper := rops c66
noncomputable def c67 : Code := cr c65
noncomputable def c68 : Code := cl c67
noncomputable def o15 : Array Oper := rops c68
noncomputable def c69 : Code := cr c67
noncomputable def c70 : Code := cl c69
noncomputable def c71 : Code := cl c70
noncomputable def c72 : Code := cl c71
noncomputable def o16 : Array Oper := rops c72
noncomputable def c73 : Code := cr c71
noncomputable def c74 : Code := cl c73
noncomputable def c75 : Code := cl c74
noncomputable def c76 : Code := cr c74
noncomputable def c77 : Code := cr c73
noncomputable def c78 : Code := cl c77
noncomputable def c79 : Code := cl c78
noncomputable def c80 : Code := cl c79
noncomputable def o17 : Array Oper := rops c80
noncomputable def c81 : Code := cr c79
noncomputable def o18 : Array Oper := rops c81
noncomputable def c82 : Code := cr c77
noncomputable def o19 : Array Oper := rops c82
noncomputable def c83 : Code := cr c63
noncomputable def o20 : Array Oper := rops c83
noncomputable def c84 : Code := cr c43
noncomputable def o21 : Array Oper := rops c84
noncomputable def c85 : Code := cr c29
noncomputable def o22 : Array Oper := rops c85
noncomputable def c86 : Code := cr c15
noncomputable def o23 : Array Oper := rops c86
noncomputable def c87 : Code := cr c4
noncomputable def c88 : Code := cl c87
noncomputable def o24 : Array Oper := rops c88
noncomputable def c89 : Code := cr c87
end F32
theorem keyC : KeyOK Try.prog 37 kvC := keyOK_couple Try.underlying37 (by decide) (by decide) (by kernel_rfl) Try.underlying3
/-- The couples that agree, with their masks. -/
theorem agreements_ok {w₀ : World} {C : Nat → Nat} {a b : List (List Block)} {va vb : Value} (hF : Lim w₀ C) (ha : RV w₀ (Mc C) a va) (hb : RV w₀ (Mc C) b vb) (hlen : a.length = b.length) (h8 : a.length ≤ 8) : Calls Try.prog 32 #[va, vb] w₀ (Ret fun v w' => Stp [] w₀ C w' C ∧ RM w' (Mc C) kvC vvN (agrI a b a.length) v ∧ Sm (agrI a b a.length)) := by
  have hF0 := hF
  have hT := Stp.refl [2, 3, 4, 5, 6, 7, 8, 9] w₀ (col1 C)
  replace hF := hF.col1
  replace ha : RV w₀ (Mc (col1 C)) a va := by rw [Mc_col1]; exact ha
  replace hb : RV w₀ (Mc (col1 C)) b vb := by rw [Mc_col1]; exact hb
  refine calls_start (c := F32.c0) (N := 74) [va, vb] Try.func32 (by kernel_rfl) (by kernel_rfl) (by kernel_rfl) ?_
  show Run _ _ _ _ [(0, va), (1, vb)] _ _
  refine run_seq (x := F32.c1) (y := F32.c2) (by kernel_rfl) ?_
  refine run_plain (id := 0) (ops := F32.o0) [(0, true)] (by kernel_rfl) (by kernel_rfl) ?_
  refine yS (by kernel_rfl : opAt F32.o0 0 = some (some 4, .assign (.const (.map none)), none)) rfl rfl (fun w' hS => val_assign rfl) ?_
  refine Sch.nil ?_
  refine run_seq (x := F32.c3) (y := F32.c4) (by kernel_rfl) ?_
  refine run_plain (id := 1) (ops := F32.o1) [(0, false), (1, true)] (by kernel_rfl) (by kernel_rfl) ?_
  refine aS (by kernel_rfl : opAt F32.o1 0 = some (some 16, .makeMap 59 none, none)) rfl rfl (a_makeMap hF 3 kvC vvN) ?_
  rintro _ wm ⟨Cm, bm, rfl, hs, hm, hF⟩
  refine ⟨trivial, ?_⟩
  replace hT := hT.trans hs (by simp)
  replace ha := ha.st hs (by first | decide | (simp <;> omega))
  replace hb := hb.st hs (by first | decide | (simp <;> omega))
  refine yS (by kernel_rfl : opAt F32.o1 1 = some (some 5, .assign (.tmp 16), none)) rfl rfl (fun w' hS => val_assign rfl) ?_
  refine Sch.nil ?_
  refine run_seq (x := F32.c5) (y := F32.c87) (by kernel_rfl) ?_
  refine run_seq (x := F32.c6) (y := F32.c7) (by kernel_rfl) ?_
  refine run_plain (id := 2) (ops := F32.o2) [(0, true), (1, true), (2, true)] (by kernel_rfl) (by kernel_rfl) ?_
  refine yS (by kernel_rfl : opAt F32.o2 0 = some (some 17, .move (.tmp 0), none)) rfl rfl (fun w' hS => val_move rfl) ?_
  refine yS (by kernel_rfl : opAt F32.o2 1 = some (some 18, .call { callee := .builtin .len, args := #[(.tmp 17)], argTypes := #[28] }, none)) rfl rfl (fun w' hS => ha.lenV rfl Try.underlying28 w' ) ?_
  refine yS (by kernel_rfl : opAt F32.o2 2 = some (some 19, .move (.const (.int .i64 0)), none)) rfl rfl (fun w' hS => val_move rfl) ?_
  refine Sch.nil ?_
  refine run_block (x := F32.c8) (id := 0) (by kernel_rfl) ?_
  skip
  refine run_loop (ι := Nat × (Nat → Nat) × Agr) (I := fun x w => x.1 ≤ a.length ∧ Lim w x.2.1 ∧ Stp [2, 3, 4, 5, 6, 7, 8, 9] w₀ (col1 C) w x.2.1 ∧ OwnM w x.2.1 3 bm kvC vvN x.2.2 ∧ Sm x.2.2 ∧ RV w (Mc x.2.1) a va ∧ RV w (Mc x.2.1) b vb ∧ x.2.2 = agrI a b x.1) (e := fun x => [(1, vb), (5, .map (some bm)), (17, va), (18, .int .i64 a.length), (19, .int .i64 x.1)]) (m := fun x => a.length - x.1) (x₀ := (0, Cm, [])) (body := F32.c9) (by kernel_rfl) (sub_cons 1 rfl rfl (sub_cons 5 rfl rfl (sub_cons 17 rfl rfl (sub_cons 18 rfl rfl (sub_cons 19 rfl rfl (sub_nil _)))))) ?_ ?_
  · exact ⟨Nat.zero_le _, hF, hT, hm, Sm.nil, ha, hb, rfl⟩
  intro ⟨i, C1, m1⟩ w1 hI next
  obtain ⟨hi0, hF, hT, hm, hsm, ha, hb, hM0⟩ := hI
  simp only at hi0 hF hT hm hsm ha hb hM0
  show Run _ _ _ _ [(1, vb), (5, .map (some bm)), (17, va), (18, .int .i64 a.length), (19, .int .i64 (i : Int))] _ _
  have hll0 := ha.le
  refine run_seq (x := F32.c10) (y := F32.c11) (by kernel_rfl) ?_
  refine run_plain (id := 3) (ops := F32.o3) [(0, true)] (by kernel_rfl) (by kernel_rfl) ?_
  refine yS (by kernel_rfl : opAt F32.o3 0 = some (some 20, .binOp .lss 3 (.tmp 19) (.tmp 18) 3, none)) rfl rfl (fun w' hS => val_lss rfl rfl) ?_
  refine Sch.nil ?_
  refine run_seq (x := F32.c12) (y := F32.c15) (by kernel_rfl) ?_
  refine run_if (x := F32.c13) (y := F32.c14) (o := .tmp 20) (by kernel_rfl) rfl (fun h20 => ?_) (fun h20 => ?_)
  · skip
    have hia : i < a.length := by omega
    have hib : i < b.length := by omega
    have hi8 : i < 8 := by omega
    refine run_skip (by kernel_rfl) ?_
    refine run_seq (x := F32.c16) (y := F32.c86) (by kernel_rfl) ?_
    refine run_block (x := F32.c17) (id := 1) (by kernel_rfl) ?_
    refine run_seq (x := F32.c18) (y := F32.c19) (by kernel_rfl) ?_
    refine run_plain (id := 4) (ops := F32.o4) [(0, true), (1, true), (2, false), (3, true), (4, true)] (by kernel_rfl) (by kernel_rfl) ?_
    refine yS (by kernel_rfl : opAt F32.o4 0 = some (some 21, .move (.tmp 19), none)) rfl rfl (fun w' hS => val_move rfl) ?_
    refine iS (e := 39) (by kernel_rfl : opAt F32.o4 1 = some (some 22, .indexAddr 28 (.tmp 17) (.tmp 19), none)) rfl rfl ha rfl (by kernel_rfl) rfl (by omega) (by omega) ?_
    intro b22 o22 h22
    try simp only [Int.toNat_natCast] at h22
    refine lN (by kernel_rfl : opAt F32.o4 2 = some (some 23, .load 39 (.tmp 22), none)) rfl rfl trivial h22 (by kernel_rfl) rfl rfl ?_
    intro v23 g23
    refine yS (by kernel_rfl : opAt F32.o4 3 = some (some 6, .assign (.tmp 21), none)) rfl rfl (fun w' hS => val_assign rfl) ?_
    refine yS (by kernel_rfl : opAt F32.o4 4 = some (some 7, .assign (.tmp 23), none)) rfl rfl (fun w' hS => val_assign rfl) ?_
    refine Sch.nil ?_
    refine run_seq (x := F32.c20) (y := F32.c21) (by kernel_rfl) ?_
    refine run_plain (id := 5) (ops := F32.o5) [(0, true), (1, true), (2, true)] (by kernel_rfl) (by kernel_rfl) ?_
    refine yS (by kernel_rfl : opAt F32.o5 0 = some (some 24, .move (.tmp 7), none)) rfl rfl (fun w' hS => val_move rfl) ?_
    refine yS (by kernel_rfl : opAt F32.o5 1 = some (some 25, .call { callee := .builtin .len, args := #[(.tmp 24)], argTypes := #[39] }, none)) rfl rfl (fun w' hS => g23.lenV rfl Try.underlying39 w' ) ?_
    refine yS (by kernel_rfl : opAt F32.o5 2 = some (some 26, .move (.const (.int .i64 0)), none)) rfl rfl (fun w' hS => val_move rfl) ?_
    refine Sch.nil ?_
    refine run_block (x := F32.c22) (id := 2) (by kernel_rfl) ?_
    have next0x := next
    clear next
    refine run_loop (ι := Nat × (Nat → Nat) × Agr) (I := fun x w => x.1 ≤ (a[i]'hia).length ∧ Lim w x.2.1 ∧ Stp [2, 3, 4, 5, 6, 7, 8, 9] w₀ (col1 C) w x.2.1 ∧ OwnM w x.2.1 3 bm kvC vvN x.2.2 ∧ Sm x.2.2 ∧ RV w (Mc x.2.1) a va ∧ RV w (Mc x.2.1) b vb ∧ RV w (Mc x.2.1) (a[i]'hia) v23 ∧ x.2.2 = ((a[i]'hia).take x.1).foldl (agr2 (2 ^ i) (b[i]'hib)) m1) (e := fun x => [(1, vb), (5, .map (some bm)), (6, .int .i64 i), (17, va), (18, .int .i64 a.length), (19, .int .i64 i), (24, v23), (25, (.int .i64 (a[i]'hia).length)), (26, .int .i64 x.1)]) (m := fun x => (a[i]'hia).length - x.1) (x₀ := (0, C1, m1)) (body := F32.c23) (by kernel_rfl) (sub_cons 1 rfl rfl (sub_cons 5 rfl rfl (sub_cons 6 rfl rfl (sub_cons 17 rfl rfl (sub_cons 18 rfl rfl (sub_cons 19 rfl rfl (sub_cons 24 rfl rfl (sub_cons 25 rfl rfl (sub_cons 26 rfl rfl (sub_nil _)))))))))) ?_ ?_
    · exact ⟨Nat.zero_le _, hF, hT, hm, hsm, ha, hb, g23, rfl⟩
    intro ⟨j, C2, m2⟩ w2 hI next
    obtain ⟨hi1, hF, hT, hm, hsm, ha, hb, g23, hM1⟩ := hI
    simp only at hi1 hF hT hm hsm ha hb g23 hM1
    show Run _ _ _ _ [(1, vb), (5, .map (some bm)), (6, .int .i64 i), (17, va), (18, .int .i64 a.length), (19, .int .i64 i), (24, v23), (25, (.int .i64 (a[i]'hia).length)), (26, .int .i64 (j : Int))] _ _
    have hll1 := g23.le
    refine run_seq (x := F32.c24) (y := F32.c25) (by kernel_rfl) ?_
    refine run_plain (id := 6) (ops := F32.o6) [(0, true)] (by kernel_rfl) (by kernel_rfl) ?_
    refine yS (by kernel_rfl : opAt F32.o6 0 = some (some 27, .binOp .lss 3 (.tmp 26) (.tmp 25) 3, none)) rfl rfl (fun w' hS => val_lss rfl rfl) ?_
    refine Sch.nil ?_
    refine run_seq (x := F32.c26) (y := F32.c29) (by kernel_rfl) ?_
    refine run_if (x := F32.c27) (y := F32.c28) (o := .tmp 27) (by kernel_rfl) rfl (fun h27 => ?_) (fun h27 => ?_)
    · skip
      have hja : j < (a[i]'hia).length := by omega
      refine run_skip (by kernel_rfl) ?_
      refine run_seq (x := F32.c30) (y := F32.c85) (by kernel_rfl) ?_
      refine run_block (x := F32.c31) (id := 3) (by kernel_rfl) ?_
      refine run_seq (x := F32.c32) (y := F32.c33) (by kernel_rfl) ?_
      refine run_plain (id := 7) (ops := F32.o7) [(0, true), (1, false), (2, false), (3, false)] (by kernel_rfl) (by kernel_rfl) ?_
      refine iS (e := 44) (by kernel_rfl : opAt F32.o7 0 = some (some 28, .indexAddr 39 (.tmp 24) (.tmp 26), none)) rfl rfl g23 rfl (by kernel_rfl) rfl (by omega) (by omega) ?_
      intro b28 o28 h28
      try simp only [Int.toNat_natCast] at h28
      refine lNA (by kernel_rfl : opAt F32.o7 1 = some (some 29, .load 44 (.tmp 28), none)) rfl rfl trivial h28 (by kernel_rfl) (by kernel_rfl) rfl rfl ?_
      intro v29 g29
      obtain ⟨u29, rfl, gu29⟩ := rv_block' g29
      refine aS (by kernel_rfl : opAt F32.o7 2 = some (some 9, .alloc 44, none)) rfl rfl (a_alloc (cs := [.int .u64 0, .slice none 0 0]) hF 4 (by kernel_rfl)) ?_
      rintro _ w3 ⟨Cw3, bw3, rfl, hs, hx, hF⟩
      refine ⟨trivial, ?_⟩
      replace hT := hT.trans hs (by simp)
      replace hm := hm.st hs (by first | decide | (simp <;> omega))
      replace ha := ha.st hs (by first | decide | (simp <;> omega))
      replace hb := hb.st hs (by first | decide | (simp <;> omega))
      replace g23 := g23.st hs (by first | decide | (simp <;> omega))
      replace h28 := h28.st hs (by first | decide | (simp <;> omega))
      replace gu29 := gu29.st hs (by first | decide | (simp <;> omega))
      refine aN (by kernel_rfl : opAt F32.o7 3 = some (none, .store 44 (.tmp 9) (.tmp 29), none)) rfl (a_storeAll (vs := [.int .u64 ((a[i]'hia)[j]'hja).hash, u29]) (n := 2) rfl rfl (by kernel_rfl) rfl rfl (by intro u hu; simp only [List.mem_cons, List.not_mem_nil, or_false] at hu; rcases hu with rfl | rfl <;> first | rfl | exact (gu29.one rfl).2) hx rfl) ?_
      rintro _ w4 ⟨rfl, hs, hx⟩
      refine ⟨trivial, ?_⟩
      replace hF := hF.st hs
      replace hT := hT.trans hs (by simp)
      replace hm := hm.st hs (by first | decide | (simp <;> omega))
      replace ha := ha.st hs (by first | decide | (simp <;> omega))
      replace hb := hb.st hs (by first | decide | (simp <;> omega))
      replace g23 := g23.st hs (by first | decide | (simp <;> omega))
      replace h28 := h28.st hs (by first | decide | (simp <;> omega))
      replace gu29 := gu29.st hs (by first | decide | (simp <;> omega))
      refine Sch.nil ?_
      refine run_seq (x := F32.c34) (y := F32.c35) (by kernel_rfl) ?_
      refine run_plain (id := 8) (ops := F32.o8) [(0, true), (1, true), (2, true), (3, false), (4, true), (5, true)] (by kernel_rfl) (by kernel_rfl) ?_
      refine yS (by kernel_rfl : opAt F32.o8 0 = some (some 30, .move (.tmp 1), none)) rfl rfl (fun w' hS => val_move rfl) ?_
      refine yS (by kernel_rfl : opAt F32.o8 1 = some (some 31, .move (.tmp 6), none)) rfl rfl (fun w' hS => val_move rfl) ?_
      refine iS (e := 39) (by kernel_rfl : opAt F32.o8 2 = some (some 32, .indexAddr 28 (.tmp 30) (.tmp 31), none)) rfl rfl hb rfl (by kernel_rfl) rfl (by omega) (by omega) ?_
      intro b32 o32 h32
      try simp only [Int.toNat_natCast] at h32
      refine lN (by kernel_rfl : opAt F32.o8 3 = some (some 33, .load 39 (.tmp 32), none)) rfl rfl trivial h32 (by kernel_rfl) rfl rfl ?_
      intro v33 g33
      refine yS (by kernel_rfl : opAt F32.o8 4 = some (some 34, .call { callee := .builtin .len, args := #[(.tmp 33)], argTypes := #[39] }, none)) rfl rfl (fun w' hS => g33.lenV rfl Try.underlying39 w' ) ?_
      refine yS (by kernel_rfl : opAt F32.o8 5 = some (some 35, .move (.const (.int .i64 0)), none)) rfl rfl (fun w' hS => val_move rfl) ?_
      refine Sch.nil ?_
      refine run_block (x := F32.c36) (id := 4) (by kernel_rfl) ?_
      have next1x := next
      clear next
      refine run_loop (ι := Nat × (Nat → Nat) × Agr) (I := fun x w => x.1 ≤ (b[i]'hib).length ∧ Lim w x.2.1 ∧ Stp [2, 3, 4, 5, 6, 7, 8, 9] w₀ (col1 C) w x.2.1 ∧ OwnM w x.2.1 3 bm kvC vvN x.2.2 ∧ Sm x.2.2 ∧ RV w (Mc x.2.1) a va ∧ RV w (Mc x.2.1) b vb ∧ RV w (Mc x.2.1) (a[i]'hia) v23 ∧ RV w (Mc x.2.1) ((a[i]'hia)[j]'hja).ids u29 ∧ OwnB w x.2.1 4 bw3 (.cells [.int .u64 ((a[i]'hia)[j]'hja).hash, u29].toArray 44) ∧ RV w (Mc x.2.1) (b[i]'hib) v33 ∧ x.2.2 = ((b[i]'hib).take x.1).foldl (agr3 (2 ^ i) ((a[i]'hia)[j]'hja)) m2) (e := fun x => [(1, vb), (5, .map (some bm)), (6, .int .i64 i), (9, .pointer (some ⟨bw3, 0, none⟩)), (17, va), (18, .int .i64 a.length), (19, .int .i64 i), (24, v23), (25, (.int .i64 (a[i]'hia).length)), (26, .int .i64 j), (33, v33), (34, (.int .i64 (b[i]'hib).length)), (35, .int .i64 x.1)]) (m := fun x => (b[i]'hib).length - x.1) (x₀ := (0, Cw3, m2)) (body := F32.c37) (by kernel_rfl) (sub_cons 1 rfl rfl (sub_cons 5 rfl rfl (sub_cons 6 rfl rfl (sub_cons 9 rfl rfl (sub_cons 17 rfl rfl (sub_cons 18 rfl rfl (sub_cons 19 rfl rfl (sub_cons 24 rfl rfl (sub_cons 25 rfl rfl (sub_cons 26 rfl rfl (sub_cons 33 rfl rfl (sub_cons 34 rfl rfl (sub_cons 35 rfl rfl (sub_nil _)))))))))))))) ?_ ?_
      · exact ⟨Nat.zero_le _, hF, hT, hm, hsm, ha, hb, g23, gu29, hx, g33, rfl⟩
      intro ⟨k, C3, m3⟩ w5 hI next
      obtain ⟨hi2, hF, hT, hm, hsm, ha, hb, g23, gu29, hx, g33, hM2⟩ := hI
      simp only at hi2 hF hT hm hsm ha hb g23 gu29 hx g33 hM2
      show Run _ _ _ _ [(1, vb), (5, .map (some bm)), (6, .int .i64 i), (9, .pointer (some ⟨bw3, 0, none⟩)), (17, va), (18, .int .i64 a.length), (19, .int .i64 i), (24, v23), (25, (.int .i64 (a[i]'hia).length)), (26, .int .i64 j), (33, v33), (34, (.int .i64 (b[i]'hib).length)), (35, .int .i64 (k : Int))] _ _
      have hll2 := g33.le
      refine run_seq (x := F32.c38) (y := F32.c39) (by kernel_rfl) ?_
      refine run_plain (id := 9) (ops := F32.o9) [(0, true)] (by kernel_rfl) (by kernel_rfl) ?_
      refine yS (by kernel_rfl : opAt F32.o9 0 = some (some 36, .binOp .lss 3 (.tmp 35) (.tmp 34) 3, none)) rfl rfl (fun w' hS => val_lss rfl rfl) ?_
      refine Sch.nil ?_
      refine run_seq (x := F32.c40) (y := F32.c43) (by kernel_rfl) ?_
      refine run_if (x := F32.c41) (y := F32.c42) (o := .tmp 36) (by kernel_rfl) rfl (fun h36 => ?_) (fun h36 => ?_)
      · skip
        have hkb : k < (b[i]'hib).length := by omega
        refine run_skip (by kernel_rfl) ?_
        refine run_seq (x := F32.c44) (y := F32.c84) (by kernel_rfl) ?_
        refine run_block (x := F32.c45) (id := 5) (by kernel_rfl) ?_
        refine run_seq (x := F32.c46) (y := F32.c47) (by kernel_rfl) ?_
        refine run_plain (id := 10) (ops := F32.o10) [(0, true), (1, false), (2, false), (3, false)] (by kernel_rfl) (by kernel_rfl) ?_
        refine iS (e := 44) (by kernel_rfl : opAt F32.o10 0 = some (some 37, .indexAddr 39 (.tmp 33) (.tmp 35), none)) rfl rfl g33 rfl (by kernel_rfl) rfl (by omega) (by omega) ?_
        intro b37 o37 h37
        try simp only [Int.toNat_natCast] at h37
        refine lNA (by kernel_rfl : opAt F32.o10 1 = some (some 38, .load 44 (.tmp 37), none)) rfl rfl trivial h37 (by kernel_rfl) (by kernel_rfl) rfl rfl ?_
        intro v38 g38
        obtain ⟨u38, rfl, gu38⟩ := rv_block' g38
        refine aS (by kernel_rfl : opAt F32.o10 2 = some (some 11, .alloc 44, none)) rfl rfl (a_alloc (cs := [.int .u64 0, .slice none 0 0]) hF 5 (by kernel_rfl)) ?_
        rintro _ w6 ⟨Cw6, bw6, rfl, hs, hy, hF⟩
        refine ⟨trivial, ?_⟩
        replace hT := hT.trans hs (by simp)
        replace hm := hm.st hs (by first | decide | (simp <;> omega))
        replace ha := ha.st hs (by first | decide | (simp <;> omega))
        replace hb := hb.st hs (by first | decide | (simp <;> omega))
        replace g23 := g23.st hs (by first | decide | (simp <;> omega))
        replace gu29 := gu29.st hs (by first | decide | (simp <;> omega))
        replace hx := hx.st hs (by first | decide | (simp <;> omega))
        replace g33 := g33.st hs (by first | decide | (simp <;> omega))
        replace h37 := h37.st hs (by first | decide | (simp <;> omega))
        replace gu38 := gu38.st hs (by first | decide | (simp <;> omega))
        refine aN (by kernel_rfl : opAt F32.o10 3 = some (none, .store 44 (.tmp 11) (.tmp 38), none)) rfl (a_storeAll (vs := [.int .u64 ((b[i]'hib)[k]'hkb).hash, u38]) (n := 2) rfl rfl (by kernel_rfl) rfl rfl (by intro u hu; simp only [List.mem_cons, List.not_mem_nil, or_false] at hu; rcases hu with rfl | rfl <;> first | rfl | exact (gu38.one rfl).2) hy rfl) ?_
        rintro _ w7 ⟨rfl, hs, hy⟩
        refine ⟨trivial, ?_⟩
        replace hF := hF.st hs
        replace hT := hT.trans hs (by simp)
        replace hm := hm.st hs (by first | decide | (simp <;> omega))
        replace ha := ha.st hs (by first | decide | (simp <;> omega))
        replace hb := hb.st hs (by first | decide | (simp <;> omega))
        replace g23 := g23.st hs (by first | decide | (simp <;> omega))
        replace gu29 := gu29.st hs (by first | decide | (simp <;> omega))
        replace hx := hx.st hs (by first | decide | (simp <;> omega))
        replace g33 := g33.st hs (by first | decide | (simp <;> omega))
        replace h37 := h37.st hs (by first | decide | (simp <;> omega))
        replace gu38 := gu38.st hs (by first | decide | (simp <;> omega))
        refine Sch.nil ?_
        refine run_seq (x := F32.c48) (y := F32.c53) (by kernel_rfl) ?_
        refine run_seq (x := F32.c49) (y := F32.c50) (by kernel_rfl) ?_
        refine run_plain (id := 11) (ops := F32.o11) [(0, true), (1, false), (2, true), (3, false), (4, true)] (by kernel_rfl) (by kernel_rfl) ?_
        refine yS (by kernel_rfl : opAt F32.o11 0 = some (some 39, .fieldAddr 44 (.tmp 9) 0, none)) rfl rfl (fun w' hS => val_fieldAddr (off := 0) (by kernel_rfl) rfl) ?_
        refine nS (by kernel_rfl : opAt F32.o11 1 = some (some 40, .load 42 (.tmp 39), none)) rfl rfl trivial (val_loadOwn hx.at_ (by kernel_rfl) rfl rfl) ?_
        refine yS (by kernel_rfl : opAt F32.o11 2 = some (some 41, .fieldAddr 44 (.tmp 11) 0, none)) rfl rfl (fun w' hS => val_fieldAddr (off := 0) (by kernel_rfl) rfl) ?_
        refine nS (by kernel_rfl : opAt F32.o11 3 = some (some 42, .load 42 (.tmp 41), none)) rfl rfl trivial (val_loadOwn hy.at_ (by kernel_rfl) rfl rfl) ?_
        refine yS (by kernel_rfl : opAt F32.o11 4 = some (some 43, .binOp .neq 42 (.tmp 40) (.tmp 42) 42, none)) rfl rfl (fun w' hS => val_neq rfl rfl) ?_
        refine Sch.nil ?_
        refine run_if (x := F32.c51) (y := F32.c52) (o := .tmp 43) (by kernel_rfl) rfl (fun h43 => ?_) (fun h43 => ?_)
        · skip
          refine run_exit (id := 5) (by kernel_rfl) rfl ?_
          refine run_plain (id := 21) (ops := F32.o21) [(0, true), (1, true)] (by kernel_rfl) (by kernel_rfl) ?_
          refine yS (by kernel_rfl : opAt F32.o21 0 = some (some 70, .binOp .add 3 (.tmp 35) (.const (.int .i64 1)) 3, none)) rfl rfl (fun w' hS => val_addi rfl rfl (by omega) (by omega)) ?_
          refine yS (by kernel_rfl : opAt F32.o21 1 = some (some 35, .move (.tmp 70), none)) rfl rfl (fun w' hS => val_move rfl) ?_
          refine Sch.nil ?_
          have next2x := next
          refine kp (sub_cons 1 rfl rfl (sub_cons 5 rfl rfl (sub_cons 6 rfl rfl (sub_cons 9 rfl rfl (sub_cons 17 rfl rfl (sub_cons 18 rfl rfl (sub_cons 19 rfl rfl (sub_cons 24 rfl rfl (sub_cons 25 rfl rfl (sub_cons 26 rfl rfl (sub_cons 33 rfl rfl (sub_cons 34 rfl rfl (sub_cons 35 rfl (eq_int (by simp)) (sub_nil _)))))))))))))) (next2x (k + 1, Cw6, m3) _ ⟨by simp only; omega, hF, hT, hm, hsm, ha, hb, g23, gu29, hx, g33, ?_⟩ (by simp only; omega))
          simp only
          rw [foldl_take _ _ _ k hkb, ← hM2]
          unfold agr3; rw [if_neg h43]
        · skip
          have h43 : ((a[i]'hia)[j]'hja).hash = ((b[i]'hib)[k]'hkb).hash := by simpa using h43
          refine run_skip (by kernel_rfl) ?_
          refine run_seq (x := F32.c54) (y := F32.c55) (by kernel_rfl) ?_
          refine run_plain (id := 12) (ops := F32.o12) [(0, true), (1, false), (2, true), (3, true)] (by kernel_rfl) (by kernel_rfl) ?_
          refine yS (by kernel_rfl : opAt F32.o12 0 = some (some 44, .fieldAddr 44 (.tmp 9) 1, none)) rfl rfl (fun w' hS => val_fieldAddr (off := 1) (by kernel_rfl) rfl) ?_
          refine nS (by kernel_rfl : opAt F32.o12 1 = some (some 45, .load 22 (.tmp 44), none)) rfl rfl trivial (val_loadOwn hx.at_ (by kernel_rfl) rfl rfl) ?_
          refine yS (by kernel_rfl : opAt F32.o12 2 = some (some 46, .call { callee := .builtin .len, args := #[(.tmp 45)], argTypes := #[22] }, none)) rfl rfl (fun w' hS => gu29.lenV rfl Try.underlying22 w' ) ?_
          refine yS (by kernel_rfl : opAt F32.o12 3 = some (some 47, .move (.const (.int .i64 0)), none)) rfl rfl (fun w' hS => val_move rfl) ?_
          refine Sch.nil ?_
          refine run_block (x := F32.c56) (id := 6) (by kernel_rfl) ?_
          have next2x := next
          clear next
          refine run_loop (ι := Nat × (Nat → Nat) × Agr) (I := fun x w => x.1 ≤ ((a[i]'hia)[j]'hja).ids.length ∧ Lim w x.2.1 ∧ Stp [2, 3, 4, 5, 6, 7, 8, 9] w₀ (col1 C) w x.2.1 ∧ OwnM w x.2.1 3 bm kvC vvN x.2.2 ∧ Sm x.2.2 ∧ RV w (Mc x.2.1) a va ∧ RV w (Mc x.2.1) b vb ∧ RV w (Mc x.2.1) (a[i]'hia) v23 ∧ RV w (Mc x.2.1) ((a[i]'hia)[j]'hja).ids u29 ∧ OwnB w x.2.1 4 bw3 (.cells [.int .u64 ((a[i]'hia)[j]'hja).hash, u29].toArray 44) ∧ RV w (Mc x.2.1) (b[i]'hib) v33 ∧ RV w (Mc x.2.1) ((b[i]'hib)[k]'hkb).ids u38 ∧ OwnB w x.2.1 5 bw6 (.cells [.int .u64 ((b[i]'hib)[k]'hkb).hash, u38].toArray 44) ∧ x.2.2 = (((a[i]'hia)[j]'hja).ids.take x.1).foldl (agr5 (2 ^ i) ((b[i]'hib)[k]'hkb).ids) m3) (e := fun x => [(1, vb), (5, .map (some bm)), (6, .int .i64 i), (9, .pointer (some ⟨bw3, 0, none⟩)), (11, .pointer (some ⟨bw6, 0, none⟩)), (17, va), (18, .int .i64 a.length), (19, .int .i64 i), (24, v23), (25, (.int .i64 (a[i]'hia).length)), (26, .int .i64 j), (33, v33), (34, (.int .i64 (b[i]'hib).length)), (35, .int .i64 k), (45, u29), (46, (.int .i64 ((a[i]'hia)[j]'hja).ids.length)), (47, .int .i64 x.1)]) (m := fun x => ((a[i]'hia)[j]'hja).ids.length - x.1) (x₀ := (0, Cw6, m3)) (body := F32.c57) (by kernel_rfl) (sub_cons 1 rfl rfl (sub_cons 5 rfl rfl (sub_cons 6 rfl rfl (sub_cons 9 rfl rfl (sub_cons 11 rfl rfl (sub_cons 17 rfl rfl (sub_cons 18 rfl rfl (sub_cons 19 rfl rfl (sub_cons 24 rfl rfl (sub_cons 25 rfl rfl (sub_cons 26 rfl rfl (sub_cons 33 rfl rfl (sub_cons 34 rfl rfl (sub_cons 35 rfl rfl (sub_cons 45 rfl rfl (sub_cons 46 rfl rfl (sub_cons 47 rfl rfl (sub_nil _)))))))))))))))))) ?_ ?_
          · exact ⟨Nat.zero_le _, hF, hT, hm, hsm, ha, hb, g23, gu29, hx, g33, gu38, hy, rfl⟩
          intro ⟨s, C4, m4⟩ w8 hI next
          obtain ⟨hi3, hF, hT, hm, hsm, ha, hb, g23, gu29, hx, g33, gu38, hy, hM3⟩ := hI
          simp only at hi3 hF hT hm hsm ha hb g23 gu29 hx g33 gu38 hy hM3
          show Run _ _ _ _ [(1, vb), (5, .map (some bm)), (6, .int .i64 i), (9, .pointer (some ⟨bw3, 0, none⟩)), (11, .pointer (some ⟨bw6, 0, none⟩)), (17, va), (18, .int .i64 a.length), (19, .int .i64 i), (24, v23), (25, (.int .i64 (a[i]'hia).length)), (26, .int .i64 j), (33, v33), (34, (.int .i64 (b[i]'hib).length)), (35, .int .i64 k), (45, u29), (46, (.int .i64 ((a[i]'hia)[j]'hja).ids.length)), (47, .int .i64 (s : Int))] _ _
          have hll3 := gu29.le
          refine run_seq (x := F32.c58) (y := F32.c59) (by kernel_rfl) ?_
          refine run_plain (id := 13) (ops := F32.o13) [(0, true)] (by kernel_rfl) (by kernel_rfl) ?_
          refine yS (by kernel_rfl : opAt F32.o13 0 = some (some 48, .binOp .lss 3 (.tmp 47) (.tmp 46) 3, none)) rfl rfl (fun w' hS => val_lss rfl rfl) ?_
          refine Sch.nil ?_
          refine run_seq (x := F32.c60) (y := F32.c63) (by kernel_rfl) ?_
          refine run_if (x := F32.c61) (y := F32.c62) (o := .tmp 48) (by kernel_rfl) rfl (fun h48 => ?_) (fun h48 => ?_)
          · skip
            have hsx : s < ((a[i]'hia)[j]'hja).ids.length := by omega
            refine run_skip (by kernel_rfl) ?_
            refine run_seq (x := F32.c64) (y := F32.c83) (by kernel_rfl) ?_
            refine run_block (x := F32.c65) (id := 7) (by kernel_rfl) ?_
            refine run_seq (x := F32.c66) (y := F32.c67) (by kernel_rfl) ?_
            refine run_plain (id := 14) (ops := F32.o14) [(0, true), (1, false), (2, true)] (by kernel_rfl) (by kernel_rfl) ?_
            refine iS (e := 3) (by kernel_rfl : opAt F32.o14 0 = some (some 49, .indexAddr 22 (.tmp 45) (.tmp 47), none)) rfl rfl gu29 rfl (by kernel_rfl) rfl (by omega) (by omega) ?_
            intro b49 o49 h49
            try simp only [Int.toNat_natCast] at h49
            refine lN (by kernel_rfl : opAt F32.o14 1 = some (some 50, .load 3 (.tmp 49), none)) rfl rfl trivial h49 (by kernel_rfl) rfl rfl ?_
            intro v50 g50
            first | (obtain rfl := rv_nat.1 g50) | (obtain rfl := rv_int.1 g50)
            refine yS (by kernel_rfl : opAt F32.o14 2 = some (some 13, .assign (.tmp 50), none)) rfl rfl (fun w' hS => val_assign rfl) ?_
            refine Sch.nil ?_
            refine run_seq (x := F32.c68) (y := F32.c69) (by kernel_rfl) ?_
            refine run_plain (id := 15) (ops := F32.o15) [(0, true), (1, false), (2, true), (3, true)] (by kernel_rfl) (by kernel_rfl) ?_
            refine yS (by kernel_rfl : opAt F32.o15 0 = some (some 51, .fieldAddr 44 (.tmp 11) 1, none)) rfl rfl (fun w' hS => val_fieldAddr (off := 1) (by kernel_rfl) rfl) ?_
            refine nS (by kernel_rfl : opAt F32.o15 1 = some (some 52, .load 22 (.tmp 51), none)) rfl rfl trivial (val_loadOwn hy.at_ (by kernel_rfl) rfl rfl) ?_
            refine yS (by kernel_rfl : opAt F32.o15 2 = some (some 53, .call { callee := .builtin .len, args := #[(.tmp 52)], argTypes := #[22] }, none)) rfl rfl (fun w' hS => gu38.lenV rfl Try.underlying22 w' ) ?_
            refine yS (by kernel_rfl : opAt F32.o15 3 = some (some 54, .move (.const (.int .i64 0)), none)) rfl rfl (fun w' hS => val_move rfl) ?_
            refine Sch.nil ?_
            refine run_block (x := F32.c70) (id := 8) (by kernel_rfl) ?_
            have next3x := next
            clear next
            refine run_loop (ι := Nat × (Nat → Nat) × Agr) (I := fun x w => x.1 ≤ ((b[i]'hib)[k]'hkb).ids.length ∧ Lim w x.2.1 ∧ Stp [2, 3, 4, 5, 6, 7, 8, 9] w₀ (col1 C) w x.2.1 ∧ OwnM w x.2.1 3 bm kvC vvN x.2.2 ∧ Sm x.2.2 ∧ RV w (Mc x.2.1) a va ∧ RV w (Mc x.2.1) b vb ∧ RV w (Mc x.2.1) (a[i]'hia) v23 ∧ RV w (Mc x.2.1) ((a[i]'hia)[j]'hja).ids u29 ∧ OwnB w x.2.1 4 bw3 (.cells [.int .u64 ((a[i]'hia)[j]'hja).hash, u29].toArray 44) ∧ RV w (Mc x.2.1) (b[i]'hib) v33 ∧ RV w (Mc x.2.1) ((b[i]'hib)[k]'hkb).ids u38 ∧ OwnB w x.2.1 5 bw6 (.cells [.int .u64 ((b[i]'hib)[k]'hkb).hash, u38].toArray 44) ∧ x.2.2 = (((b[i]'hib)[k]'hkb).ids.take x.1).foldl (fun m t => put1 (2 ^ i) m ⟨((a[i]'hia)[j]'hja).ids[s]'hsx, t⟩) m4) (e := fun x => [(1, vb), (5, .map (some bm)), (6, .int .i64 i), (9, .pointer (some ⟨bw3, 0, none⟩)), (11, .pointer (some ⟨bw6, 0, none⟩)), (13, (.int .i64 (((a[i]'hia)[j]'hja).ids[s]'hsx))), (17, va), (18, .int .i64 a.length), (19, .int .i64 i), (24, v23), (25, (.int .i64 (a[i]'hia).length)), (26, .int .i64 j), (33, v33), (34, (.int .i64 (b[i]'hib).length)), (35, .int .i64 k), (45, u29), (46, (.int .i64 ((a[i]'hia)[j]'hja).ids.length)), (47, .int .i64 s), (52, u38), (53, (.int .i64 ((b[i]'hib)[k]'hkb).ids.length)), (54, .int .i64 x.1)]) (m := fun x => ((b[i]'hib)[k]'hkb).ids.length - x.1) (x₀ := (0, C4, m4)) (body := F32.c71) (by kernel_rfl) (sub_cons 1 rfl rfl (sub_cons 5 rfl rfl (sub_cons 6 rfl rfl (sub_cons 9 rfl rfl (sub_cons 11 rfl rfl (sub_cons 13 rfl rfl (sub_cons 17 rfl rfl (sub_cons 18 rfl rfl (sub_cons 19 rfl rfl (sub_cons 24 rfl rfl (sub_cons 25 rfl rfl (sub_cons 26 rfl rfl (sub_cons 33 rfl rfl (sub_cons 34 rfl rfl (sub_cons 35 rfl rfl (sub_cons 45 rfl rfl (sub_cons 46 rfl rfl (sub_cons 47 rfl rfl (sub_cons 52 rfl rfl (sub_cons 53 rfl rfl (sub_cons 54 rfl rfl (sub_nil _)))))))))))))))))))))) ?_ ?_
            · exact ⟨Nat.zero_le _, hF, hT, hm, hsm, ha, hb, g23, gu29, hx, g33, gu38, hy, rfl⟩
            intro ⟨t, C5, m5⟩ w9 hI next
            obtain ⟨hi4, hF, hT, hm, hsm, ha, hb, g23, gu29, hx, g33, gu38, hy, hM4⟩ := hI
            simp only at hi4 hF hT hm hsm ha hb g23 gu29 hx g33 gu38 hy hM4
            show Run _ _ _ _ [(1, vb), (5, .map (some bm)), (6, .int .i64 i), (9, .pointer (some ⟨bw3, 0, none⟩)), (11, .pointer (some ⟨bw6, 0, none⟩)), (13, (.int .i64 (((a[i]'hia)[j]'hja).ids[s]'hsx))), (17, va), (18, .int .i64 a.length), (19, .int .i64 i), (24, v23), (25, (.int .i64 (a[i]'hia).length)), (26, .int .i64 j), (33, v33), (34, (.int .i64 (b[i]'hib).length)), (35, .int .i64 k), (45, u29), (46, (.int .i64 ((a[i]'hia)[j]'hja).ids.length)), (47, .int .i64 s), (52, u38), (53, (.int .i64 ((b[i]'hib)[k]'hkb).ids.length)), (54, .int .i64 (t : Int))] _ _
            have hll4 := gu38.le
            refine run_seq (x := F32.c72) (y := F32.c73) (by kernel_rfl) ?_
            refine run_plain (id := 16) (ops := F32.o16) [(0, true)] (by kernel_rfl) (by kernel_rfl) ?_
            refine yS (by kernel_rfl : opAt F32.o16 0 = some (some 55, .binOp .lss 3 (.tmp 54) (.tmp 53) 3, none)) rfl rfl (fun w' hS => val_lss rfl rfl) ?_
            refine Sch.nil ?_
            refine run_seq (x := F32.c74) (y := F32.c77) (by kernel_rfl) ?_
            refine run_if (x := F32.c75) (y := F32.c76) (o := .tmp 55) (by kernel_rfl) rfl (fun h55 => ?_) (fun h55 => ?_)
            · skip
              have hty : t < ((b[i]'hib)[k]'hkb).ids.length := by omega
              refine run_skip (by kernel_rfl) ?_
              refine run_seq (x := F32.c78) (y := F32.c82) (by kernel_rfl) ?_
              refine run_block (x := F32.c79) (id := 9) (by kernel_rfl) ?_
              refine run_seq (x := F32.c80) (y := F32.c81) (by kernel_rfl) ?_
              refine run_plain (id := 17) (ops := F32.o17) [(0, true), (1, false), (2, true)] (by kernel_rfl) (by kernel_rfl) ?_
              refine iS (e := 3) (by kernel_rfl : opAt F32.o17 0 = some (some 56, .indexAddr 22 (.tmp 52) (.tmp 54), none)) rfl rfl gu38 rfl (by kernel_rfl) rfl (by omega) (by omega) ?_
              intro b56 o56 h56
              try simp only [Int.toNat_natCast] at h56
              refine lN (by kernel_rfl : opAt F32.o17 1 = some (some 57, .load 3 (.tmp 56), none)) rfl rfl trivial h56 (by kernel_rfl) rfl rfl ?_
              intro v57 g57
              first | (obtain rfl := rv_nat.1 g57) | (obtain rfl := rv_int.1 g57)
              refine yS (by kernel_rfl : opAt F32.o17 2 = some (some 15, .assign (.tmp 57), none)) rfl rfl (fun w' hS => val_assign rfl) ?_
              refine Sch.nil ?_
              refine run_draw2 (id := 18) (ops := F32.o18) [3] (C5) [0, 1, 2, 3, 5, 6] 4 [(7, true), (8, false), (9, true), (10, false)] 8 [(9, true), (4, false), (7, true), (10, false)] Try_mixed (by kernel_rfl) (by kernel_rfl) (by kernel_rfl) ?_ ?_
              · skip
                intro w10 hs
                replace hF := hF.st hs
                replace hT := hT.trans hs (by simp)
                replace hm := hm.st hs (by first | decide | (simp <;> omega))
                replace ha := ha.st hs (by first | decide | (simp <;> omega))
                replace hb := hb.st hs (by first | decide | (simp <;> omega))
                replace g23 := g23.st hs (by first | decide | (simp <;> omega))
                replace gu29 := gu29.st hs (by first | decide | (simp <;> omega))
                replace hx := hx.st hs (by first | decide | (simp <;> omega))
                replace g33 := g33.st hs (by first | decide | (simp <;> omega))
                replace gu38 := gu38.st hs (by first | decide | (simp <;> omega))
                replace hy := hy.st hs (by first | decide | (simp <;> omega))
                replace h56 := h56.st hs (by first | decide | (simp <;> omega))
                show Sch _ _ _ _ _ _ _ [(0, true), (1, true), (2, true), (3, true), (5, true), (6, true), (4, false), (7, true), (8, false), (9, true), (10, false)] _ _
                have hR := Stp.refl [3] w10 (C5)
                refine yS (by kernel_rfl : opAt F32.o18 0 = some (some 58, .move (.tmp 5), none)) rfl rfl (fun w' hS => val_move rfl) ?_
                refine yS (by kernel_rfl : opAt F32.o18 1 = some (some 59, .move (.tmp 13), none)) rfl rfl (fun w' hS => val_move rfl) ?_
                refine yS (by kernel_rfl : opAt F32.o18 2 = some (some 60, .move (.tmp 15), none)) rfl rfl (fun w' hS => val_move rfl) ?_
                refine yS (by kernel_rfl : opAt F32.o18 3 = some (some 61, .build 37 #[(0, (.tmp 59)), (1, (.tmp 60))], none)) rfl rfl (fun w' hS => val_build (zs := [.int .i64 0, .int .i64 0]) (ps := [(0, 1), (1, 1)]) (qs := [(0, [.int .i64 (((a[i]'hia)[j]'hja).ids[s]'hsx)]), (1, [.int .i64 (((b[i]'hib)[k]'hkb).ids[t]'hty)])]) (cs := [.int .i64 (((a[i]'hia)[j]'hja).ids[s]'hsx), .int .i64 (((b[i]'hib)[k]'hkb).ids[t]'hty)]) (by kernel_rfl) (by kernel_rfl) (by exact ⟨rfl, ⟨_, rfl, rfl⟩, rfl, ⟨_, rfl, rfl⟩, trivial⟩) rfl) ?_
                refine yS (by kernel_rfl : opAt F32.o18 5 = some (some 63, .move (.tmp 6), none)) rfl rfl (fun w' hS => val_move rfl) ?_
                refine yS (by kernel_rfl : opAt F32.o18 6 = some (some 64, .binOp .shl 3 (.const (.int .i64 1)) (.tmp 63) 3, none)) rfl rfl (fun w' hS => val_shlE (r := ((2 ^ i : Nat) : Int)) rfl rfl (by omega) (shl1N (by omega))) ?_
                refine nS (by kernel_rfl : opAt F32.o18 4 = some (some 62, .lookup 59 (.tmp 58) (.tmp 61) false, none)) rfl rfl hR.ext (val_is (hm.lookup (z0 := 0) (k := (⟨(((a[i]'hia)[j]'hja).ids[s]'hsx), (((b[i]'hib)[k]'hkb).ids[t]'hty)⟩ : Couple)) Try.underlying59 keyC Try.zeroValue3 rfl rfl) (show _ = Value.int .i64 (((mget m5 (⟨(((a[i]'hia)[j]'hja).ids[s]'hsx), (((b[i]'hib)[k]'hkb).ids[t]'hty)⟩ : Couple)).getD 0 : Nat) : Int) from rfl)) ?_
                refine yS (by kernel_rfl : opAt F32.o18 7 = some (some 65, .binOp .or 3 (.tmp 62) (.tmp 64) 3, none)) rfl rfl (fun w' hS => val_orE (r := (((mget m5 (⟨(((a[i]'hia)[j]'hja).ids[s]'hsx), (((b[i]'hib)[k]'hkb).ids[t]'hty)⟩ : Couple)).getD 0 ||| 2 ^ i : Nat) : Int)) rfl rfl (bits_or (Nat.lt_trans (hsm _) (by decide)) (Nat.lt_trans (Nat.pow_lt_pow_right (by decide) hi8) (by decide)))) ?_
                refine aS (by kernel_rfl : opAt F32.o18 8 = some (some 66, .mapEntry 59 (.tmp 58) (.tmp 61), none)) rfl rfl (a_mapEntry (z0 := 0) (k := (⟨(((a[i]'hia)[j]'hja).ids[s]'hsx), (((b[i]'hib)[k]'hkb).ids[t]'hty)⟩ : Couple)) hm Try.underlying59 keyC Try.zeroValue3 rfl rfl) ?_
                rintro _ w11 ⟨nb, rfl, hs, hm, hbn⟩
                refine ⟨(hR.trans hs (by simp)).ext, ?_⟩
                replace hF := hF.st hs
                replace hT := hT.trans hs (by simp)
                replace ha := ha.st hs (by first | decide | (simp <;> omega))
                replace hb := hb.st hs (by first | decide | (simp <;> omega))
                replace g23 := g23.st hs (by first | decide | (simp <;> omega))
                replace gu29 := gu29.st hs (by first | decide | (simp <;> omega))
                replace hx := hx.st hs (by first | decide | (simp <;> omega))
                replace g33 := g33.st hs (by first | decide | (simp <;> omega))
                replace gu38 := gu38.st hs (by first | decide | (simp <;> omega))
                replace hy := hy.st hs (by first | decide | (simp <;> omega))
                replace h56 := h56.st hs (by first | decide | (simp <;> omega))
                replace hR := hR.trans hs (by simp)
                refine yS (by kernel_rfl : opAt F32.o18 9 = some (some 67, .extract (.tmp 66) 1, none)) rfl rfl (fun w' hS => val_extract rfl rfl) ?_
                refine Sch.free rfl ?_
                refine aN (by kernel_rfl : opAt F32.o18 10 = some (none, .entryStore 59 (.tmp 58) (.tmp 67) (.tmp 65), none)) rfl (a_entryStore (k := (⟨(((a[i]'hia)[j]'hja).ids[s]'hsx), (((b[i]'hib)[k]'hkb).ids[t]'hty)⟩ : Couple)) (u := (mget m5 (⟨(((a[i]'hia)[j]'hja).ids[s]'hsx), (((b[i]'hib)[k]'hkb).ids[t]'hty)⟩ : Couple)).getD 0 ||| 2 ^ i) hm keyC hbn rfl rfl rfl) ?_
                rintro _ w12 ⟨rfl, hs, hm⟩
                rw [mput_mput] at hm
                refine ⟨trivial, ?_⟩
                replace hF := hF.st hs
                replace hT := hT.trans hs (by simp)
                replace ha := ha.st hs (by first | decide | (simp <;> omega))
                replace hb := hb.st hs (by first | decide | (simp <;> omega))
                replace g23 := g23.st hs (by first | decide | (simp <;> omega))
                replace gu29 := gu29.st hs (by first | decide | (simp <;> omega))
                replace hx := hx.st hs (by first | decide | (simp <;> omega))
                replace g33 := g33.st hs (by first | decide | (simp <;> omega))
                replace gu38 := gu38.st hs (by first | decide | (simp <;> omega))
                replace hy := hy.st hs (by first | decide | (simp <;> omega))
                replace h56 := h56.st hs (by first | decide | (simp <;> omega))
                refine Sch.nil ?_
                refine run_inBlock ?_
                refine run_plain (id := 19) (ops := F32.o19) [(0, true), (1, true)] (by kernel_rfl) (by kernel_rfl) ?_
                refine yS (by kernel_rfl : opAt F32.o19 0 = some (some 68, .binOp .add 3 (.tmp 54) (.const (.int .i64 1)) 3, none)) rfl rfl (fun w' hS => val_addi rfl rfl (by omega) (by omega)) ?_
                refine yS (by kernel_rfl : opAt F32.o19 1 = some (some 54, .move (.tmp 68), none)) rfl rfl (fun w' hS => val_move rfl) ?_
                refine Sch.nil ?_
                replace hsm := hsm.put1 hi8 (⟨(((a[i]'hia)[j]'hja).ids[s]'hsx), (((b[i]'hib)[k]'hkb).ids[t]'hty)⟩ : Couple)
                refine kp (sub_cons 1 rfl rfl (sub_cons 5 rfl rfl (sub_cons 6 rfl rfl (sub_cons 9 rfl rfl (sub_cons 11 rfl rfl (sub_cons 13 rfl rfl (sub_cons 17 rfl rfl (sub_cons 18 rfl rfl (sub_cons 19 rfl rfl (sub_cons 24 rfl rfl (sub_cons 25 rfl rfl (sub_cons 26 rfl rfl (sub_cons 33 rfl rfl (sub_cons 34 rfl rfl (sub_cons 35 rfl rfl (sub_cons 45 rfl rfl (sub_cons 46 rfl rfl (sub_cons 47 rfl rfl (sub_cons 52 rfl rfl (sub_cons 53 rfl rfl (sub_cons 54 rfl (eq_int (by simp)) (sub_nil _)))))))))))))))))))))) (next (t + 1, C5, put1 (2 ^ i) m5 (⟨(((a[i]'hia)[j]'hja).ids[s]'hsx), (((b[i]'hib)[k]'hkb).ids[t]'hty)⟩ : Couple)) _ ⟨by simp only; omega, hF, hT, hm, hsm, ha, hb, g23, gu29, hx, g33, gu38, hy, ?_⟩ (by simp only; omega))
                simp only
                rw [foldl_take _ _ _ t hty, ← hM4]
              · skip
                intro w13 hs
                replace hF := hF.st hs
                replace hT := hT.trans hs (by simp)
                replace hm := hm.st hs (by first | decide | (simp <;> omega))
                replace ha := ha.st hs (by first | decide | (simp <;> omega))
                replace hb := hb.st hs (by first | decide | (simp <;> omega))
                replace g23 := g23.st hs (by first | decide | (simp <;> omega))
                replace gu29 := gu29.st hs (by first | decide | (simp <;> omega))
                replace hx := hx.st hs (by first | decide | (simp <;> omega))
                replace g33 := g33.st hs (by first | decide | (simp <;> omega))
                replace gu38 := gu38.st hs (by first | decide | (simp <;> omega))
                replace hy := hy.st hs (by first | decide | (simp <;> omega))
                replace h56 := h56.st hs (by first | decide | (simp <;> omega))
                show Sch _ _ _ _ _ _ _ [(0, true), (1, true), (2, true), (3, true), (5, true), (6, true), (8, false), (9, true), (4, false), (7, true), (10, false)] _ _
                have hR := Stp.refl [3] w13 (C5)
                refine yS (by kernel_rfl : opAt F32.o18 0 = some (some 58, .move (.tmp 5), none)) rfl rfl (fun w' hS => val_move rfl) ?_
                refine yS (by kernel_rfl : opAt F32.o18 1 = some (some 59, .move (.tmp 13), none)) rfl rfl (fun w' hS => val_move rfl) ?_
                refine yS (by kernel_rfl : opAt F32.o18 2 = some (some 60, .move (.tmp 15), none)) rfl rfl (fun w' hS => val_move rfl) ?_
                refine yS (by kernel_rfl : opAt F32.o18 3 = some (some 61, .build 37 #[(0, (.tmp 59)), (1, (.tmp 60))], none)) rfl rfl (fun w' hS => val_build (zs := [.int .i64 0, .int .i64 0]) (ps := [(0, 1), (1, 1)]) (qs := [(0, [.int .i64 (((a[i]'hia)[j]'hja).ids[s]'hsx)]), (1, [.int .i64 (((b[i]'hib)[k]'hkb).ids[t]'hty)])]) (cs := [.int .i64 (((a[i]'hia)[j]'hja).ids[s]'hsx), .int .i64 (((b[i]'hib)[k]'hkb).ids[t]'hty)]) (by kernel_rfl) (by kernel_rfl) (by exact ⟨rfl, ⟨_, rfl, rfl⟩, rfl, ⟨_, rfl, rfl⟩, trivial⟩) rfl) ?_
                refine yS (by kernel_rfl : opAt F32.o18 5 = some (some 63, .move (.tmp 6), none)) rfl rfl (fun w' hS => val_move rfl) ?_
                refine yS (by kernel_rfl : opAt F32.o18 6 = some (some 64, .binOp .shl 3 (.const (.int .i64 1)) (.tmp 63) 3, none)) rfl rfl (fun w' hS => val_shlE (r := ((2 ^ i : Nat) : Int)) rfl rfl (by omega) (shl1N (by omega))) ?_
                refine aS (by kernel_rfl : opAt F32.o18 8 = some (some 66, .mapEntry 59 (.tmp 58) (.tmp 61), none)) rfl rfl (a_mapEntry (z0 := 0) (k := (⟨(((a[i]'hia)[j]'hja).ids[s]'hsx), (((b[i]'hib)[k]'hkb).ids[t]'hty)⟩ : Couple)) hm Try.underlying59 keyC Try.zeroValue3 rfl rfl) ?_
                rintro _ w14 ⟨nb, rfl, hs, hm, hbn⟩
                refine ⟨(hR.trans hs (by simp)).ext, ?_⟩
                replace hF := hF.st hs
                replace hT := hT.trans hs (by simp)
                replace ha := ha.st hs (by first | decide | (simp <;> omega))
                replace hb := hb.st hs (by first | decide | (simp <;> omega))
                replace g23 := g23.st hs (by first | decide | (simp <;> omega))
                replace gu29 := gu29.st hs (by first | decide | (simp <;> omega))
                replace hx := hx.st hs (by first | decide | (simp <;> omega))
                replace g33 := g33.st hs (by first | decide | (simp <;> omega))
                replace gu38 := gu38.st hs (by first | decide | (simp <;> omega))
                replace hy := hy.st hs (by first | decide | (simp <;> omega))
                replace h56 := h56.st hs (by first | decide | (simp <;> omega))
                replace hR := hR.trans hs (by simp)
                refine yS (by kernel_rfl : opAt F32.o18 9 = some (some 67, .extract (.tmp 66) 1, none)) rfl rfl (fun w' hS => val_extract rfl rfl) ?_
                refine nS (by kernel_rfl : opAt F32.o18 4 = some (some 62, .lookup 59 (.tmp 58) (.tmp 61) false, none)) rfl rfl hR.ext (val_is (hm.lookup (z0 := 0) (k := (⟨(((a[i]'hia)[j]'hja).ids[s]'hsx), (((b[i]'hib)[k]'hkb).ids[t]'hty)⟩ : Couple)) Try.underlying59 keyC Try.zeroValue3 rfl rfl) (show _ = Value.int .i64 (((mget m5 (⟨(((a[i]'hia)[j]'hja).ids[s]'hsx), (((b[i]'hib)[k]'hkb).ids[t]'hty)⟩ : Couple)).getD 0 : Nat) : Int) from by rw [mget_mput_self])) ?_
                refine yS (by kernel_rfl : opAt F32.o18 7 = some (some 65, .binOp .or 3 (.tmp 62) (.tmp 64) 3, none)) rfl rfl (fun w' hS => val_orE (r := (((mget m5 (⟨(((a[i]'hia)[j]'hja).ids[s]'hsx), (((b[i]'hib)[k]'hkb).ids[t]'hty)⟩ : Couple)).getD 0 ||| 2 ^ i : Nat) : Int)) rfl rfl (bits_or (Nat.lt_trans (hsm _) (by decide)) (Nat.lt_trans (Nat.pow_lt_pow_right (by decide) hi8) (by decide)))) ?_
                refine Sch.free rfl ?_
                refine aN (by kernel_rfl : opAt F32.o18 10 = some (none, .entryStore 59 (.tmp 58) (.tmp 67) (.tmp 65), none)) rfl (a_entryStore (k := (⟨(((a[i]'hia)[j]'hja).ids[s]'hsx), (((b[i]'hib)[k]'hkb).ids[t]'hty)⟩ : Couple)) (u := (mget m5 (⟨(((a[i]'hia)[j]'hja).ids[s]'hsx), (((b[i]'hib)[k]'hkb).ids[t]'hty)⟩ : Couple)).getD 0 ||| 2 ^ i) hm keyC hbn rfl rfl rfl) ?_
                rintro _ w15 ⟨rfl, hs, hm⟩
                rw [mput_mput] at hm
                refine ⟨trivial, ?_⟩
                replace hF := hF.st hs
                replace hT := hT.trans hs (by simp)
                replace ha := ha.st hs (by first | decide | (simp <;> omega))
                replace hb := hb.st hs (by first | decide | (simp <;> omega))
                replace g23 := g23.st hs (by first | decide | (simp <;> omega))
                replace gu29 := gu29.st hs (by first | decide | (simp <;> omega))
                replace hx := hx.st hs (by first | decide | (simp <;> omega))
                replace g33 := g33.st hs (by first | decide | (simp <;> omega))
                replace gu38 := gu38.st hs (by first | decide | (simp <;> omega))
                replace hy := hy.st hs (by first | decide | (simp <;> omega))
                replace h56 := h56.st hs (by first | decide | (simp <;> omega))
                refine Sch.nil ?_
                refine run_inBlock ?_
                refine run_plain (id := 19) (ops := F32.o19) [(0, true), (1, true)] (by kernel_rfl) (by kernel_rfl) ?_
                refine yS (by kernel_rfl : opAt F32.o19 0 = some (some 68, .binOp .add 3 (.tmp 54) (.const (.int .i64 1)) 3, none)) rfl rfl (fun w' hS => val_addi rfl rfl (by omega) (by omega)) ?_
                refine yS (by kernel_rfl : opAt F32.o19 1 = some (some 54, .move (.tmp 68), none)) rfl rfl (fun w' hS => val_move rfl) ?_
                refine Sch.nil ?_
                replace hsm := hsm.put1 hi8 (⟨(((a[i]'hia)[j]'hja).ids[s]'hsx), (((b[i]'hib)[k]'hkb).ids[t]'hty)⟩ : Couple)
                refine kp (sub_cons 1 rfl rfl (sub_cons 5 rfl rfl (sub_cons 6 rfl rfl (sub_cons 9 rfl rfl (sub_cons 11 rfl rfl (sub_cons 13 rfl rfl (sub_cons 17 rfl rfl (sub_cons 18 rfl rfl (sub_cons 19 rfl rfl (sub_cons 24 rfl rfl (sub_cons 25 rfl rfl (sub_cons 26 rfl rfl (sub_cons 33 rfl rfl (sub_cons 34 rfl rfl (sub_cons 35 rfl rfl (sub_cons 45 rfl rfl (sub_cons 46 rfl rfl (sub_cons 47 rfl rfl (sub_cons 52 rfl rfl (sub_cons 53 rfl rfl (sub_cons 54 rfl (eq_int (by simp)) (sub_nil _)))))))))))))))))))))) (next (t + 1, C5, put1 (2 ^ i) m5 (⟨(((a[i]'hia)[j]'hja).ids[s]'hsx), (((b[i]'hib)[k]'hkb).ids[t]'hty)⟩ : Couple)) _ ⟨by simp only; omega, hF, hT, hm, hsm, ha, hb, g23, gu29, hx, g33, gu38, hy, ?_⟩ (by simp only; omega))
                simp only
                rw [foldl_take _ _ _ t hty, ← hM4]
            · skip
              have he4 : t = ((b[i]'hib)[k]'hkb).ids.length := by omega
              subst he4
              refine run_exit (id := 8) (by kernel_rfl) rfl ?_
              refine run_inBlock ?_
              refine run_plain (id := 20) (ops := F32.o20) [(0, true), (1, true)] (by kernel_rfl) (by kernel_rfl) ?_
              refine yS (by kernel_rfl : opAt F32.o20 0 = some (some 69, .binOp .add 3 (.tmp 47) (.const (.int .i64 1)) 3, none)) rfl rfl (fun w' hS => val_addi rfl rfl (by omega) (by omega)) ?_
              refine yS (by kernel_rfl : opAt F32.o20 1 = some (some 47, .move (.tmp 69), none)) rfl rfl (fun w' hS => val_move rfl) ?_
              refine Sch.nil ?_
              refine kp (sub_cons 1 rfl rfl (sub_cons 5 rfl rfl (sub_cons 6 rfl rfl (sub_cons 9 rfl rfl (sub_cons 11 rfl rfl (sub_cons 17 rfl rfl (sub_cons 18 rfl rfl (sub_cons 19 rfl rfl (sub_cons 24 rfl rfl (sub_cons 25 rfl rfl (sub_cons 26 rfl rfl (sub_cons 33 rfl rfl (sub_cons 34 rfl rfl (sub_cons 35 rfl rfl (sub_cons 45 rfl rfl (sub_cons 46 rfl rfl (sub_cons 47 rfl (eq_int (by simp)) (sub_nil _)))))))))))))))))) (next3x (s + 1, C5, m5) _ ⟨by simp only; omega, hF, hT, hm, hsm, ha, hb, g23, gu29, hx, g33, gu38, hy, ?_⟩ (by simp only; omega))
              rw [List.take_length] at hM4
              simp only
              rw [foldl_take _ _ _ s hsx, ← hM3]
              exact hM4
          · skip
            have he3 : s = ((a[i]'hia)[j]'hja).ids.length := by omega
            subst he3
            refine run_exit (id := 6) (by kernel_rfl) rfl ?_
            refine run_inBlock ?_
            refine run_plain (id := 21) (ops := F32.o21) [(0, true), (1, true)] (by kernel_rfl) (by kernel_rfl) ?_
            refine yS (by kernel_rfl : opAt F32.o21 0 = some (some 70, .binOp .add 3 (.tmp 35) (.const (.int .i64 1)) 3, none)) rfl rfl (fun w' hS => val_addi rfl rfl (by omega) (by omega)) ?_
            refine yS (by kernel_rfl : opAt F32.o21 1 = some (some 35, .move (.tmp 70), none)) rfl rfl (fun w' hS => val_move rfl) ?_
            refine Sch.nil ?_
            refine kp (sub_cons 1 rfl rfl (sub_cons 5 rfl rfl (sub_cons 6 rfl rfl (sub_cons 9 rfl rfl (sub_cons 17 rfl rfl (sub_cons 18 rfl rfl (sub_cons 19 rfl rfl (sub_cons 24 rfl rfl (sub_cons 25 rfl rfl (sub_cons 26 rfl rfl (sub_cons 33 rfl rfl (sub_cons 34 rfl rfl (sub_cons 35 rfl (eq_int (by simp)) (sub_nil _)))))))))))))) (next2x (k + 1, C4, m4) _ ⟨by simp only; omega, hF, hT, hm, hsm, ha, hb, g23, gu29, hx, g33, ?_⟩ (by simp only; omega))
            rw [List.take_length] at hM3
            simp only
            rw [foldl_take _ _ _ k hkb, ← hM2, hM3]
            unfold agr3; rw [if_pos h43]
      · skip
        have he2 : k = (b[i]'hib).length := by omega
        subst he2
        refine run_exit (id := 4) (by kernel_rfl) rfl ?_
        refine run_inBlock ?_
        refine run_plain (id := 22) (ops := F32.o22) [(0, true), (1, true)] (by kernel_rfl) (by kernel_rfl) ?_
        refine yS (by kernel_rfl : opAt F32.o22 0 = some (some 71, .binOp .add 3 (.tmp 26) (.const (.int .i64 1)) 3, none)) rfl rfl (fun w' hS => val_addi rfl rfl (by omega) (by omega)) ?_
        refine yS (by kernel_rfl : opAt F32.o22 1 = some (some 26, .move (.tmp 71), none)) rfl rfl (fun w' hS => val_move rfl) ?_
        refine Sch.nil ?_
        refine kp (sub_cons 1 rfl rfl (sub_cons 5 rfl rfl (sub_cons 6 rfl rfl (sub_cons 17 rfl rfl (sub_cons 18 rfl rfl (sub_cons 19 rfl rfl (sub_cons 24 rfl rfl (sub_cons 25 rfl rfl (sub_cons 26 rfl (eq_int (by simp)) (sub_nil _)))))))))) (next1x (j + 1, C3, m3) _ ⟨by simp only; omega, hF, hT, hm, hsm, ha, hb, g23, ?_⟩ (by simp only; omega))
        rw [List.take_length] at hM2
        simp only
        rw [foldl_take _ _ _ j hja, ← hM1]
        exact hM2
    · skip
      have he1 : j = (a[i]'hia).length := by omega
      subst he1
      refine run_exit (id := 2) (by kernel_rfl) rfl ?_
      refine run_inBlock ?_
      refine run_plain (id := 23) (ops := F32.o23) [(0, true), (1, true)] (by kernel_rfl) (by kernel_rfl) ?_
      refine yS (by kernel_rfl : opAt F32.o23 0 = some (some 72, .binOp .add 3 (.tmp 19) (.const (.int .i64 1)) 3, none)) rfl rfl (fun w' hS => val_addi rfl rfl (by omega) (by omega)) ?_
      refine yS (by kernel_rfl : opAt F32.o23 1 = some (some 19, .move (.tmp 72), none)) rfl rfl (fun w' hS => val_move rfl) ?_
      refine Sch.nil ?_
      refine kp (sub_cons 1 rfl rfl (sub_cons 5 rfl rfl (sub_cons 17 rfl rfl (sub_cons 18 rfl rfl (sub_cons 19 rfl (eq_int (by simp)) (sub_nil _)))))) (next0x (i + 1, C2, m2) _ ⟨by simp only; omega, hF, hT, hm, hsm, ha, hb, ?_⟩ (by simp only; omega))
      rw [List.take_length] at hM1
      simp only
      rw [agrI_succ hia hib, ← hM0]
      exact hM1
  · skip
    have he0 : i = a.length := by omega
    subst he0
    refine run_exit (id := 0) (by kernel_rfl) rfl ?_
    refine run_seq (x := F32.c88) (y := F32.c89) (by kernel_rfl) ?_
    refine run_plain (id := 24) (ops := F32.o24) [(0, true), (1, true)] (by kernel_rfl) (by kernel_rfl) ?_
    refine yS (by kernel_rfl : opAt F32.o24 0 = some (some 73, .move (.tmp 5), none)) rfl rfl (fun w' hS => val_move rfl) ?_
    refine yS (by kernel_rfl : opAt F32.o24 1 = some (some 4, .assign (.tmp 73), none)) rfl rfl (fun w' hS => val_assign rfl) ?_
    refine Sch.nil ?_
    refine run_ret1 (by kernel_rfl) Try.func32 Try.results32 rfl ?_
    exact ⟨hT.out1 (by decide), hM0 ▸ hm.out hT hF0 (Mc_col1 C) (fun b _ => col1_lt C (by decide) b), by rw [← hM0]; exact hsm⟩
end Go.Proofs.Ytejbklahkkjmhaa
