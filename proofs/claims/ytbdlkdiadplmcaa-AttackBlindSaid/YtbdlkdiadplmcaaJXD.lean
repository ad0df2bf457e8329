/- Steps through functions of the program. -/
import Derived.Test.YtbdlkdiadplmcaaJXC
set_option linter.unusedVariables false
set_option linter.unusedSimpArgs false
set_option maxRecDepth 100000
set_option maxHeartbeats 4000000
namespace Go.Proofs.Ytbdlkdiadplmcaa
open Go.K Go.K.Rep

namespace F22
noncomputable def c0 : Code := bodyOf Try.f22
noncomputable def c1 : Code := cl c0
noncomputable def o0 : Array Oper := rops c1
noncomputable def c2 : Code := cr c0
noncomputable def c3 : Code := cl c2
noncomputable def o1 : Array Oper := rops c3
noncomputable def c4 : Code := cr c2
noncomputable def c5 : Code := cl c4
noncomputable def c6 : Code := cl c5
noncomputable def o2 : Array Oper := rops c6
noncomputable def c7 : Code := cr c5
noncomputable def c8 : Code := cl c7
noncomputable def c9 : Code := cl c8
noncomputable def c10 : Code := cl c9
noncomputable def c11 : Code := cl c10
noncomputable def o3 : Array Oper := rops c11
noncomputable def c12 : Code := cr c10
noncomputable def c13 : Code := cl c12
noncomputable def c14 : Code := cr c12
noncomputable def c15 : Code := cr c9
noncomputable def c16 : Code := cl c15
noncomputable def c17 : Code := cl c16
noncomputable def c18 : Code := cl c17
noncomputable def c19 : Code := cl c18
noncomputable def o5 : Array Oper := rops c19
noncomputable def c20 : Code := cr c18
noncomputable def c21 : Code := cl c20
noncomputable def c22 : Code := cr c20
noncomputable def c23 : Code := cr c17
noncomputable def c24 : Code := cl c23
noncomputable def o6 : Array Oper := rops c24
noncomputable def c25 : Code := cr c23
noncomputable def c26 : Code := cl c25
noncomputable def c27 : Code := cl c26
noncomputable def o7 : Array Oper := rops c27
noncomputable def c28 : Code := cr c26
noncomputable def c29 : Code := cl c28
noncomputable def c30 : Code := cl c29
noncomputable def c31 : Code := cl c30
noncomputable def c32 : Code := cl c31
noncomputable def o8 : Array Oper := rops c32
noncomputable def c33 : Code := cr c31
noncomputable def c34 : Code := cl c33
noncomputable def c35 : Code := cr c33
noncomputable def c36 : Code := cr c30
noncomputable def c37 : Code := cl c36
noncomputable def c38 : Code := cl c37
noncomputable def c39 : Code := cl c38
noncomputable def o10 : Array Oper := rops c39
noncomputable def c40 : Code := cr c38
noncomputable def c41 : Code := cl c40
noncomputable def o11 : Array Oper := rops c41
noncomputable def c42 : Code := cr c40
noncomputable def c43 : Code := cr c36
noncomputable def o9 : Array Oper := rops c43
noncomputable def c44 : Code := cr c25
noncomputable def c45 : Code := cl c44
noncomputable def c46 : Code := cl c45
noncomputable def o12 : Array Oper := rops c46
noncomputable def c47 : Code := cr c45
noncomputable def c48 : Code := cl c47
noncomputable def c49 : Code := cl c48
noncomputable def o13 : Array Oper := rops c49
noncomputable def c50 : Code := cr c48
noncomputable def o14 : Array Oper := rops c50
noncomputable def c51 : Code := cr c47
noncomputable def c52 : Code := cr c44
noncomputable def o15 : Array Oper := rops c52
noncomputable def c53 : Code := cr c15
noncomputable def o4 : Array Oper := rops c53
noncomputable def c54 : Code := cr c4
noncomputable def c55 : Code := cl c54
noncomputable def o16 : Array Oper := rops c55
noncomputable def c56 : Code := cr c54
end F22
theorem refGroups_ok {w₀ : World} {C : Nat → Nat} {cl : List Bits} {vc : Value} (hF : Lim w₀ C) (hc : RV w₀ (Mc C) cl vc) (hlen : cl.length ≤ 1000) : Calls Try.prog 22 #[vc] w₀ (Ret fun v w' => Stp [] w₀ C w' C ∧ RV w' (Mc C) (grpsOf cl cl.length) v) := by
  have hF0 := hF
  have hT := Stp.refl [2, 3, 4, 5, 6, 7, 8, 9] w₀ (col1 C)
  replace hF := hF.col1
  replace hc : RV w₀ (Mc (col1 C)) cl vc := by rw [Mc_col1]; exact hc
  refine calls_start (c := F22.c0) (N := 64) [vc] Try.func22 (by kernel_rfl) (by kernel_rfl) (by kernel_rfl) ?_
  show Run _ _ _ _ [(0, vc)] _ _
  refine run_seq (x := F22.c1) (y := F22.c2) (by kernel_rfl) ?_
  refine run_plain (id := 0) (ops := F22.o0) [(0, true)] (by kernel_rfl) (by kernel_rfl) ?_
  refine yS (by kernel_rfl : opAt F22.o0 0 = some (some 2, .assign (.const (.slice none 0 0)), none)) rfl rfl (fun w' hS => val_assign rfl) ?_
  refine Sch.nil ?_
  refine run_seq (x := F22.c3) (y := F22.c4) (by kernel_rfl) ?_
  refine run_plain (id := 1) (ops := F22.o1) [(0, true)] (by kernel_rfl) (by kernel_rfl) ?_
  refine yS (by kernel_rfl : opAt F22.o1 0 = some (some 3, .assign (.const (.slice none 0 0)), none)) rfl rfl (fun w' hS => val_assign rfl) ?_
  refine Sch.nil ?_
  refine run_seq (x := F22.c5) (y := F22.c54) (by kernel_rfl) ?_
  refine run_seq (x := F22.c6) (y := F22.c7) (by kernel_rfl) ?_
  refine run_plain (id := 2) (ops := F22.o2) [(0, true)] (by kernel_rfl) (by kernel_rfl) ?_
  refine yS (by kernel_rfl : opAt F22.o2 0 = some (some 4, .assign (.const (.int .i64 0)), none)) rfl rfl (fun w' hS => val_assign rfl) ?_
  refine Sch.nil ?_
  refine run_block (x := F22.c8) (id := 0) (by kernel_rfl) ?_
  replace hT : Stp ([2, 3, 4, 5, 6, 7, 8, 9] ++ List.range' 10 (cl.length + 1)) w₀ (col1 C) _ _ := hT.mono (by intro c hc; exact List.mem_append_left _ hc)
  refine run_loop (ι := Nat × Value × (Nat → Value) × (Nat → Value) × (Nat → Nat)) (I := fun x w => x.1 ≤ cl.length ∧ Lim w x.2.2.2.2 ∧ Stp ([2, 3, 4, 5, 6, 7, 8, 9] ++ List.range' 10 (cl.length + 1)) w₀ (col1 C) w x.2.2.2.2 ∧ RV w (Mc x.2.2.2.2) cl vc ∧ OwnL w x.2.2.2.2 3 35 x.2.1 (gvs cl x.1 x.2.2.1 x.2.2.2.1) ∧ (∀ g, g < (fsts cl x.1).length → RV w (Mc x.2.2.2.2) (atB cl ((fsts cl x.1).getD g 0)).words (x.2.2.1 g)) ∧ (∀ g, g < (fsts cl x.1).length → OwnL w x.2.2.2.2 (10 + g) 3 (x.2.2.2.1 g) (ints (mems cl x.1 g)))) (e := fun x => [(0, vc), (3, x.2.1), (4, .int .i64 x.1)]) (m := fun x => cl.length - x.1) (x₀ := (0, .slice none 0 0, fun _ => .slice none 0 0, fun _ => .slice none 0 0, col1 C)) (body := F22.c9) (by kernel_rfl) (sub_cons 0 rfl rfl (sub_cons 3 rfl rfl (sub_cons 4 rfl rfl (sub_nil _)))) ?_ ?_
  · exact ⟨Nat.zero_le _, hF, hT, hc, gvs_start, fun g hg => (fsts_no hg).elim, fun g hg => (fsts_no hg).elim⟩
  intro ⟨i, vo, wf, mf, C1⟩ w1 hI next
  obtain ⟨hi, hF, hT, hc, ho, hwd, hin⟩ := hI
  try simp only at hi hF hT hc ho hwd hin
  have next1 := next
  clear next
  show Run _ _ _ _ [(0, vc), (3, vo), (4, .int .i64 i)] _ _
  have hfl := fsts_le (cl := cl) (k := i)
  have hgl := gvs_len (cl := cl) (k := i) (wf := wf) (mf := mf)
  refine run_seq (x := F22.c10) (y := F22.c15) (by kernel_rfl) ?_
  refine run_seq (x := F22.c11) (y := F22.c12) (by kernel_rfl) ?_
  refine run_plain (id := 3) (ops := F22.o3) [(0, true), (1, true), (2, true), (3, true)] (by kernel_rfl) (by kernel_rfl) ?_
  refine yS (by kernel_rfl : opAt F22.o3 0 = some (some 7, .move (.tmp 4), none)) rfl rfl (fun w' hS => val_move rfl) ?_
  refine yS (by kernel_rfl : opAt F22.o3 1 = some (some 8, .move (.tmp 0), none)) rfl rfl (fun w' hS => val_move rfl) ?_
  refine yS (by kernel_rfl : opAt F22.o3 2 = some (some 9, .call { callee := .builtin .len, args := #[(.tmp 8)], argTypes := #[27] }, none)) rfl rfl (fun w' hS => hc.lenV rfl Try.underlying27 w' ) ?_
  refine yS (by kernel_rfl : opAt F22.o3 3 = some (some 10, .binOp .lss 3 (.tmp 7) (.tmp 9) 3, none)) rfl rfl (fun w' hS => val_lss rfl rfl) ?_
  refine Sch.nil ?_
  refine run_if (x := F22.c13) (y := F22.c14) (o := .tmp 10) (by kernel_rfl) rfl (fun h10 => ?_) (fun h10 => ?_)
  · skip
    have hil : i < cl.length := by omega
    have hat : atB cl i = cl[i] := getDi _
    refine run_skip (by kernel_rfl) ?_
    refine run_seq (x := F22.c16) (y := F22.c53) (by kernel_rfl) ?_
    refine run_block (x := F22.c17) (id := 1) (by kernel_rfl) ?_
    refine run_seq (x := F22.c18) (y := F22.c23) (by kernel_rfl) ?_
    refine run_seq (x := F22.c19) (y := F22.c20) (by kernel_rfl) ?_
    refine run_plain (id := 5) (ops := F22.o5) [(0, true), (1, true), (2, true), (3, false), (4, false), (5, true)] (by kernel_rfl) (by kernel_rfl) ?_
    refine yS (by kernel_rfl : opAt F22.o5 0 = some (some 13, .move (.tmp 0), none)) rfl rfl (fun w' hS => val_move rfl) ?_
    refine yS (by kernel_rfl : opAt F22.o5 1 = some (some 14, .move (.tmp 4), none)) rfl rfl (fun w' hS => val_move rfl) ?_
    refine iS (e := 33) (by kernel_rfl : opAt F22.o5 2 = some (some 15, .indexAddr 27 (.tmp 13) (.tmp 14), none)) rfl rfl hc rfl (by kernel_rfl) rfl (by omega) (by omega) ?_
    intro b15 o15 h15
    try simp only [Int.toNat_natCast] at h15
    refine lNA (by kernel_rfl : opAt F22.o5 3 = some (some 16, .load 33 (.tmp 15), none)) rfl rfl trivial h15 (by kernel_rfl) (by kernel_rfl) rfl rfl ?_
    intro v16 g16
    obtain ⟨u, rfl, hwx⟩ := rv_bits.1 g16
    clear g16
    refine cS (by kernel_rfl : opAt F22.o5 4 = some (some 17, .call { callee := .value (.func 13), args := #[(.tmp 16)], argTypes := #[33] }, none)) rfl rfl (ent Try.call13 rfl) (refValid_ok hF hwx) ?_
    rintro vw2 w2 ⟨rfl, hs⟩
    refine ⟨trivial, ?_⟩
    replace hF := hF.st hs
    replace hT := hT.trans hs (by simp)
    replace hc := hc.st hs (by first | decide | (simp <;> omega))
    replace ho := ho.st hs (by first | decide | (simp <;> omega)) (by first | decide | (simp <;> omega))
    replace hwd := fun k hk => (hwd k hk).st hs (by first | decide | (simp <;> omega))
    replace hin := fun k hk => (hin k hk).st hs (by simp <;> omega) (by simp <;> omega)
    replace h15 := h15.st hs (by first | decide | (simp <;> omega))
    replace hwx := hwx.st hs (by first | decide | (simp <;> omega))
    refine yS (by kernel_rfl : opAt F22.o5 5 = some (some 18, .unOp .not 4 (.tmp 17), none)) rfl rfl (fun w' hS => val_not rfl) ?_
    refine Sch.nil ?_
    refine run_cond (x := F22.c21) (y := F22.c22) (o := .tmp 18) (by kernel_rfl) rfl (fun h18 => ?_) (fun h18 => ?_)
    · skip
      have hv : validB (atB cl i) = false := by rw [hat]; simpa using h18
      have hvi := fsts_skip hv
      refine run_exit (id := 1) (by kernel_rfl) rfl ?_
      refine run_plain (id := 4) (ops := F22.o4) [(0, true), (1, true), (2, true)] (by kernel_rfl) (by kernel_rfl) ?_
      refine yS (by kernel_rfl : opAt F22.o4 0 = some (some 11, .move (.tmp 4), none)) rfl rfl (fun w' hS => val_move rfl) ?_
      refine yS (by kernel_rfl : opAt F22.o4 1 = some (some 12, .binOp .add 3 (.tmp 11) (.const (.int .i64 1)) 3, none)) rfl rfl (fun w' hS => val_addi rfl rfl (by omega) (by omega)) ?_
      refine yS (by kernel_rfl : opAt F22.o4 2 = some (some 4, .assign (.tmp 12), none)) rfl rfl (fun w' hS => val_assign rfl) ?_
      refine Sch.nil ?_
      have e1 : fsts cl (i + 1) = fsts cl i := by show firstsS _ _ = firstsS _ _; rw [hvi]
      have e2 : ∀ g, mems cl (i + 1) g = mems cl i g := fun g => by show (groupS _ _).getD g [] = (groupS _ _).getD g []; rw [hvi]
      refine kp (sub_cons 0 rfl rfl (sub_cons 3 rfl rfl (sub_cons 4 rfl (eq_int (by simp)) (sub_nil _)))) (next1 (i + 1, vo, wf, mf, C1) _ ⟨(by first | omega | (simp only; omega)), hF, hT, hc, (by simp only; rw [gvs_same e1]; exact ho), (fun g hg => by simp only at hg ⊢; rw [e1] at hg ⊢; exact hwd g hg), (fun g hg => by simp only at hg ⊢; rw [e1] at hg; rw [e2]; exact hin g hg)⟩ (by first | omega | (simp only; omega)))
    · skip
      have hv : validB (atB cl i) = true := by rw [hat]; simpa using h18
      have hvx := validB_iff.1 hv
      rw [hat] at hvx
      refine run_skip (by kernel_rfl) ?_
      refine run_seq (x := F22.c24) (y := F22.c25) (by kernel_rfl) ?_
      refine run_plain (id := 6) (ops := F22.o6) [(0, true)] (by kernel_rfl) (by kernel_rfl) ?_
      refine yS (by kernel_rfl : opAt F22.o6 0 = some (some 5, .assign (.const (.int .i64 (-1))), none)) rfl rfl (fun w' hS => val_assign rfl) ?_
      refine Sch.nil ?_
      refine run_seq (x := F22.c26) (y := F22.c44) (by kernel_rfl) ?_
      refine run_seq (x := F22.c27) (y := F22.c28) (by kernel_rfl) ?_
      refine run_plain (id := 7) (ops := F22.o7) [(0, true)] (by kernel_rfl) (by kernel_rfl) ?_
      refine yS (by kernel_rfl : opAt F22.o7 0 = some (some 6, .assign (.const (.int .i64 0)), none)) rfl rfl (fun w' hS => val_assign rfl) ?_
      refine Sch.nil ?_
      refine run_block (x := F22.c29) (id := 2) (by kernel_rfl) ?_
      have hFA := hF
      have hTA := hT
      have hcA := hc
      have hoA := ho
      have hwdA := hwd
      have hinA := hin
      have hwxA := hwx
      clear hF hT
      have hF : Lim w2 (fun _ => 0) := fun b hb => absurd rfl hb
      have hT := Stp.refl [] w2 (fun _ => 0)
      replace hc : RV w2 (Mc (fun _ => 0)) cl vc := hc.sub (fun b _ hb => absurd rfl hb)
      replace hwx : RV w2 (Mc (fun _ => 0)) (cl[i]'hil).words u := hwx.sub (fun b _ hb => absurd rfl hb)
      have hgr : RV w2 (Mc (fun _ => 0)) (grpsOf cl i) vo := rv_grps (ho.own.read (fun b _ hb => absurd rfl hb) (by omega)) (fun g hg => (hwd g hg).sub (fun b _ hb => absurd rfl hb)) (fun g hg => (hin g hg).own.read (fun b _ hb => absurd rfl hb) (by rw [ints_len]; have := mems_len (cl := cl) (k := i) (g := g); omega))
      clear ho hwd hin
      refine run_loop (ι := Nat × Int) (I := fun x w => x.1 ≤ (grpsOf cl i).length ∧ ((x.2 = -1 ∧ ∀ g (hg : g < (grpsOf cl i).length), g < x.1 → (grpsOf cl i)[g].arr ≠ cl[i]'hil) ∨ ∃ i0 : Nat, x.2 = i0 ∧ ∃ hi : i0 < (grpsOf cl i).length, (grpsOf cl i)[i0].arr = cl[i]'hil) ∧ Lim w (fun _ => 0) ∧ Stp [] w2 (fun _ => 0) w (fun _ => 0) ∧ RV w (Mc (fun _ => 0)) cl vc ∧ RV w (Mc (fun _ => 0)) (grpsOf cl i) vo ∧ RV w (Mc (fun _ => 0)) (cl[i]'hil).words u) (e := fun x => [(0, vc), (3, vo), (4, .int .i64 i), (5, .int .i64 x.2), (6, .int .i64 x.1)]) (m := fun x => (grpsOf cl i).length - x.1) (x₀ := (0, (-1 : Int))) (body := F22.c30) (by kernel_rfl) (sub_cons 0 rfl rfl (sub_cons 3 rfl rfl (sub_cons 4 rfl rfl (sub_cons 5 rfl rfl (sub_cons 6 rfl rfl (sub_nil _)))))) ?_ ?_
      · exact ⟨Nat.zero_le _, (.inl ⟨rfl, fun g _ hg => by first | omega | (simp only at hg; omega)⟩), hF, hT, hc, hgr, hwx⟩
      intro ⟨q, idx⟩ w3 hI next
      obtain ⟨hq, hfind, hF, hT, hc, hgr, hwx⟩ := hI
      try simp only at hq hfind hF hT hc hgr hwx
      have next2 := next
      clear next
      show Run _ _ _ _ [(0, vc), (3, vo), (4, .int .i64 i), (5, .int .i64 idx), (6, .int .i64 q)] _ _
      have hgo := grpsOf_len (cl := cl) (k := i)
      refine run_seq (x := F22.c31) (y := F22.c36) (by kernel_rfl) ?_
      refine run_seq (x := F22.c32) (y := F22.c33) (by kernel_rfl) ?_
      refine run_plain (id := 8) (ops := F22.o8) [(0, true), (1, true), (2, true), (3, true)] (by kernel_rfl) (by kernel_rfl) ?_
      refine yS (by kernel_rfl : opAt F22.o8 0 = some (some 19, .move (.tmp 6), none)) rfl rfl (fun w' hS => val_move rfl) ?_
      refine yS (by kernel_rfl : opAt F22.o8 1 = some (some 20, .move (.tmp 3), none)) rfl rfl (fun w' hS => val_move rfl) ?_
      refine yS (by kernel_rfl : opAt F22.o8 2 = some (some 21, .call { callee := .builtin .len, args := #[(.tmp 20)], argTypes := #[29] }, none)) rfl rfl (fun w' hS => hgr.lenV rfl Try.underlying29 w' ) ?_
      refine yS (by kernel_rfl : opAt F22.o8 3 = some (some 22, .binOp .lss 3 (.tmp 19) (.tmp 21) 3, none)) rfl rfl (fun w' hS => val_lss rfl rfl) ?_
      refine Sch.nil ?_
      refine run_if (x := F22.c34) (y := F22.c35) (o := .tmp 22) (by kernel_rfl) rfl (fun h22 => ?_) (fun h22 => ?_)
      · skip
        have hql : q < (grpsOf cl i).length := by omega
        refine run_skip (by kernel_rfl) ?_
        refine run_seq (x := F22.c37) (y := F22.c43) (by kernel_rfl) ?_
        refine run_block (x := F22.c38) (id := 3) (by kernel_rfl) ?_
        refine run_seq (x := F22.c39) (y := F22.c40) (by kernel_rfl) ?_
        refine run_draw (id := 10) (ops := F22.o10) [] ((fun _ => 0)) [(0, true), (1, true), (2, true), (3, true), (4, true), (5, true), (6, true), (7, true), (8, true), (9, false), (10, true)] Try_mixed (by kernel_rfl) (by kernel_rfl) (by kernel_rfl) ?_
        intro w4 hs
        replace hF := hF.st hs
        replace hT := hT.trans hs (by simp)
        replace hc := hc.st hs (by first | decide | (simp <;> omega))
        replace hgr := hgr.st hs (by first | decide | (simp <;> omega))
        replace hwx := hwx.st hs (by first | decide | (simp <;> omega))
        have hR := Stp.refl [] w4 ((fun _ => 0))
        refine yS (by kernel_rfl : opAt F22.o10 0 = some (some 25, .move (.tmp 3), none)) rfl rfl (fun w' hS => val_move rfl) ?_
        refine yS (by kernel_rfl : opAt F22.o10 1 = some (some 26, .move (.tmp 6), none)) rfl rfl (fun w' hS => val_move rfl) ?_
        refine iS (e := 35) (by kernel_rfl : opAt F22.o10 2 = some (some 27, .indexAddr 29 (.tmp 25) (.tmp 26), none)) rfl rfl hgr rfl (by kernel_rfl) rfl (by omega) (by omega) ?_
        intro b27 o27 h27
        try simp only [Int.toNat_natCast] at h27
        have h28 := RA.garr h27
        refine yS (by kernel_rfl : opAt F22.o10 3 = some (some 28, .fieldAddr 35 (.tmp 27) 0, none)) rfl rfl (fun w' hS => val_fieldAddr (off := 0) (by kernel_rfl) rfl) ?_
        refine lSA (by kernel_rfl : opAt F22.o10 4 = some (some 29, .load 33 (.tmp 28), none)) rfl rfl (fun w' hS => h28.stay hS (by first | decide | (simp <;> omega))) h28 (by kernel_rfl) (by kernel_rfl) rfl rfl ?_
        intro v29 g29
        obtain ⟨u1, rfl, hw1⟩ := rv_bits.1 g29
        clear g29
        refine yS (by kernel_rfl : opAt F22.o10 5 = some (some 30, .move (.tmp 0), none)) rfl rfl (fun w' hS => val_move rfl) ?_
        refine yS (by kernel_rfl : opAt F22.o10 6 = some (some 31, .move (.tmp 4), none)) rfl rfl (fun w' hS => val_move rfl) ?_
        refine iS (e := 33) (by kernel_rfl : opAt F22.o10 7 = some (some 32, .indexAddr 27 (.tmp 30) (.tmp 31), none)) rfl rfl hc rfl (by kernel_rfl) rfl (by omega) (by omega) ?_
        intro b32 o32 h32
        try simp only [Int.toNat_natCast] at h32
        refine lSA (by kernel_rfl : opAt F22.o10 8 = some (some 33, .load 33 (.tmp 32), none)) rfl rfl (fun w' hS => h32.stay hS (by first | decide | (simp <;> omega))) h32 (by kernel_rfl) (by kernel_rfl) rfl rfl ?_
        intro v33 g33
        obtain ⟨u2, rfl, hw2⟩ := rv_bits.1 g33
        clear g33
        refine cS (by kernel_rfl : opAt F22.o10 9 = some (some 34, .call { callee := .value (.func 12), args := #[(.tmp 29), (.tmp 33)], argTypes := #[33, 33] }, none)) rfl rfl (ent Try.call12 rfl) (refBitsCmp_ok hF hw1 hw2) ?_
        rintro vw5 w5 ⟨c, rfl, hcc, hs⟩
        refine ⟨(hR.trans hs (by simp)).ext, ?_⟩
        replace hF := hF.st hs
        replace hT := hT.trans hs (by simp)
        replace hc := hc.st hs (by first | decide | (simp <;> omega))
        replace hgr := hgr.st hs (by first | decide | (simp <;> omega))
        replace hwx := hwx.st hs (by first | decide | (simp <;> omega))
        replace hR := hR.trans hs (by simp)
        replace h27 := h27.st hs (by first | decide | (simp <;> omega))
        replace h28 := h28.st hs (by first | decide | (simp <;> omega))
        replace hw1 := hw1.st hs (by first | decide | (simp <;> omega))
        replace h32 := h32.st hs (by first | decide | (simp <;> omega))
        replace hw2 := hw2.st hs (by first | decide | (simp <;> omega))
        refine yS (by kernel_rfl : opAt F22.o10 10 = some (some 35, .binOp .eql 3 (.tmp 34) (.const (.int .i64 0)) 3, none)) rfl rfl (fun w' hS => val_eql rfl rfl) ?_
        refine Sch.nil ?_
        refine run_if (x := F22.c41) (y := F22.c42) (o := .tmp 35) (by kernel_rfl) rfl (fun h35 => ?_) (fun h35 => ?_)
        · skip
          have heq := hcc.1 h35
          refine run_plain (id := 11) (ops := F22.o11) [(0, true), (1, true)] (by kernel_rfl) (by kernel_rfl) ?_
          refine yS (by kernel_rfl : opAt F22.o11 0 = some (some 36, .move (.tmp 6), none)) rfl rfl (fun w' hS => val_move rfl) ?_
          refine yS (by kernel_rfl : opAt F22.o11 1 = some (some 5, .assign (.tmp 36), none)) rfl rfl (fun w' hS => val_assign rfl) ?_
          refine Sch.nil ?_
          refine run_inBlock ?_
          refine run_plain (id := 9) (ops := F22.o9) [(0, true), (1, true), (2, true)] (by kernel_rfl) (by kernel_rfl) ?_
          refine yS (by kernel_rfl : opAt F22.o9 0 = some (some 23, .move (.tmp 6), none)) rfl rfl (fun w' hS => val_move rfl) ?_
          refine yS (by kernel_rfl : opAt F22.o9 1 = some (some 24, .binOp .add 3 (.tmp 23) (.const (.int .i64 1)) 3, none)) rfl rfl (fun w' hS => val_addi rfl rfl (by omega) (by omega)) ?_
          refine yS (by kernel_rfl : opAt F22.o9 2 = some (some 6, .assign (.tmp 24), none)) rfl rfl (fun w' hS => val_assign rfl) ?_
          refine Sch.nil ?_
          refine kp (sub_cons 0 rfl rfl (sub_cons 3 rfl rfl (sub_cons 4 rfl rfl (sub_cons 5 rfl rfl (sub_cons 6 rfl (eq_int (by simp)) (sub_nil _)))))) (next2 (q + 1, (q : Int)) _ ⟨(by first | omega | (simp only; omega)), (.inr ⟨q, rfl, hql, heq⟩), hF, hT, hc, hgr, hwx⟩ (by first | omega | (simp only; omega)))
        · skip
          have hne : (grpsOf cl i)[q].arr ≠ cl[i] := fun e => h35 (hcc.2 e)
          refine run_skip (by kernel_rfl) ?_
          refine run_inBlock ?_
          refine run_plain (id := 9) (ops := F22.o9) [(0, true), (1, true), (2, true)] (by kernel_rfl) (by kernel_rfl) ?_
          refine yS (by kernel_rfl : opAt F22.o9 0 = some (some 23, .move (.tmp 6), none)) rfl rfl (fun w' hS => val_move rfl) ?_
          refine yS (by kernel_rfl : opAt F22.o9 1 = some (some 24, .binOp .add 3 (.tmp 23) (.const (.int .i64 1)) 3, none)) rfl rfl (fun w' hS => val_addi rfl rfl (by omega) (by omega)) ?_
          refine yS (by kernel_rfl : opAt F22.o9 2 = some (some 6, .assign (.tmp 24), none)) rfl rfl (fun w' hS => val_assign rfl) ?_
          refine Sch.nil ?_
          refine kp (sub_cons 0 rfl rfl (sub_cons 3 rfl rfl (sub_cons 4 rfl rfl (sub_cons 5 rfl rfl (sub_cons 6 rfl (eq_int (by simp)) (sub_nil _)))))) (next2 (q + 1, idx) _ ⟨(by first | omega | (simp only; omega)), (by
              rcases hfind with ⟨e, h⟩ | h
              · exact .inl ⟨e, fun g hg hlt => by
                  try simp only at hlt
                  by_cases e : g = q
                  · subst e; exact hne
                  · exact h g hg (by omega)⟩
              · exact .inr h), hF, hT, hc, hgr, hwx⟩ (by first | omega | (simp only; omega)))
      · skip
        have hql : q = (grpsOf cl i).length := by omega
        have hsA := hT.unfrz C1
        clear hF hT hc hgr hwx
        have hF := hFA.st hsA
        have hT := hTA.trans hsA (by simp)
        have hc := hcA.st hsA (by decide)
        have hwx := hwxA.st hsA (by decide)
        have ho := hoA.st hsA (by decide) (by decide)
        have hwd := fun g hg => (hwdA g hg).st hsA (by decide)
        have hin := fun g hg => (hinA g hg).st hsA (by simp) (by simp)
        clear hFA hTA hcA hwxA hoA hwdA hinA hsA
        replace hfind : (idx = -1 ∧ ∀ g (hg : g < (grpsOf cl i).length), (grpsOf cl i)[g].arr ≠ cl[i]'hil) ∨ ∃ i0 : Nat, idx = i0 ∧ ∃ hi : i0 < (grpsOf cl i).length, (grpsOf cl i)[i0].arr = cl[i]'hil := by
          rcases hfind with ⟨e, h⟩ | h
          · exact .inl ⟨e, fun g hg => h g hg (by omega)⟩
          · exact .inr h
        refine run_exit (id := 2) (by kernel_rfl) rfl ?_
        refine run_seq (x := F22.c45) (y := F22.c52) (by kernel_rfl) ?_
        refine run_seq (x := F22.c46) (y := F22.c47) (by kernel_rfl) ?_
        refine run_plain (id := 12) (ops := F22.o12) [(0, true), (1, true)] (by kernel_rfl) (by kernel_rfl) ?_
        refine yS (by kernel_rfl : opAt F22.o12 0 = some (some 37, .move (.tmp 5), none)) rfl rfl (fun w' hS => val_move rfl) ?_
        refine yS (by kernel_rfl : opAt F22.o12 1 = some (some 38, .binOp .lss 3 (.tmp 37) (.const (.int .i64 0)) 3, none)) rfl rfl (fun w' hS => val_lss rfl rfl) ?_
        refine Sch.nil ?_
        refine run_if (x := F22.c48) (y := F22.c51) (o := .tmp 38) (by kernel_rfl) rfl (fun h38 => ?_) (fun h38 => ?_)
        · skip
          have hno : ∀ g, g < (fsts cl i).length → atB cl ((fsts cl i).getD g 0) ≠ atB cl i := by
            rcases hfind with ⟨_, h⟩ | ⟨i0, e, _⟩
            · intro g hg
              have := h g (by rw [grpsOf_len]; exact hg)
              rw [grps_find] at this; rw [hat]; exact this
            · omega
          clear hfind
          obtain ⟨hf1, hm1⟩ := fsts_new hv hno
          refine run_seq (x := F22.c49) (y := F22.c50) (by kernel_rfl) ?_
          refine run_plain (id := 13) (ops := F22.o13) [(0, true), (1, true), (2, true), (3, true), (4, false), (5, false), (6, true), (7, false), (8, false), (9, true)] (by kernel_rfl) (by kernel_rfl) ?_
          refine yS (by kernel_rfl : opAt F22.o13 0 = some (some 39, .move (.tmp 3), none)) rfl rfl (fun w' hS => val_move rfl) ?_
          refine yS (by kernel_rfl : opAt F22.o13 1 = some (some 40, .move (.tmp 0), none)) rfl rfl (fun w' hS => val_move rfl) ?_
          refine yS (by kernel_rfl : opAt F22.o13 2 = some (some 41, .move (.tmp 4), none)) rfl rfl (fun w' hS => val_move rfl) ?_
          refine iS (e := 33) (by kernel_rfl : opAt F22.o13 3 = some (some 42, .indexAddr 27 (.tmp 40) (.tmp 41), none)) rfl rfl hc rfl (by kernel_rfl) rfl (by omega) (by omega) ?_
          intro b42 o42 h42
          try simp only [Int.toNat_natCast] at h42
          refine lNA (by kernel_rfl : opAt F22.o13 4 = some (some 43, .load 33 (.tmp 42), none)) rfl rfl trivial h42 (by kernel_rfl) (by kernel_rfl) rfl rfl ?_
          intro v43 g43
          obtain ⟨u9, rfl, hw9⟩ := rv_bits.1 g43
          clear g43
          refine cS (by kernel_rfl : opAt F22.o13 5 = some (some 44, .call { callee := .value (.func 28), args := #[(.tmp 43)], argTypes := #[33] }, none)) rfl rfl (ent Try.call28 rfl) (copy_ok (x := (cl[i]'hil)) hF hw9 (by omega)) ?_
          rintro vw6 w6 ⟨u3, rfl, hs, hcw⟩
          refine ⟨trivial, ?_⟩
          replace hF := hF.st hs
          replace hT := hT.trans hs (by simp)
          replace hc := hc.st hs (by first | decide | (simp <;> omega))
          replace hwx := hwx.st hs (by first | decide | (simp <;> omega))
          replace ho := ho.st hs (by first | decide | (simp <;> omega)) (by first | decide | (simp <;> omega))
          replace hwd := fun k hk => (hwd k hk).st hs (by first | decide | (simp <;> omega))
          replace hin := fun k hk => (hin k hk).st hs (by simp <;> omega) (by simp <;> omega)
          replace h42 := h42.st hs (by first | decide | (simp <;> omega))
          replace hw9 := hw9.st hs (by first | decide | (simp <;> omega))
          refine yS (by kernel_rfl : opAt F22.o13 6 = some (some 45, .build 35 #[(0, (.tmp 44))], none)) rfl rfl (fun w' hS => val_build (zs := [.int .i64 0, .slice none 0 0, .slice none 0 0]) (ps := [(0, 2), (2, 1)]) (qs := [(0, [.int .i64 (cl[i]'hil).len, u3])]) (cs := [.int .i64 (cl[i]'hil).len, u3, .slice none 0 0]) (by kernel_rfl) (by kernel_rfl) (by exact ⟨rfl, ⟨_, rfl, rfl⟩, trivial⟩) rfl) ?_
          refine aS (by kernel_rfl : opAt F22.o13 7 = some (some 46, .buildSlice 29 1 #[(0, (.tmp 45))], none)) rfl rfl (a_buildSlice (ys := ([⟨(cl[i]'hil).len, u3, .slice none 0 0⟩] : List Gv)) (e := 35) (bytes := 56) hF (by kernel_rfl) rfl (by decide) (by decide) ⟨rfl, ⟨_, rfl, rv_gv.2 ⟨rfl, (hcw.one rfl).2, rfl⟩⟩, trivial⟩) ?_
          rintro v46 w7 ⟨hs, g46, hF⟩
          refine ⟨trivial, ?_⟩
          replace hT := hT.trans hs (by simp)
          replace hc := hc.st hs (by first | decide | (simp <;> omega))
          replace hwx := hwx.st hs (by first | decide | (simp <;> omega))
          replace ho := ho.st hs (by first | decide | (simp <;> omega)) (by first | decide | (simp <;> omega))
          replace hwd := fun k hk => (hwd k hk).st hs (by first | decide | (simp <;> omega))
          replace hin := fun k hk => (hin k hk).st hs (by simp <;> omega) (by simp <;> omega)
          replace h42 := h42.st hs (by first | decide | (simp <;> omega))
          replace hw9 := hw9.st hs (by first | decide | (simp <;> omega))
          replace hcw := hcw.st hs (by first | decide | (simp <;> omega))
          refine aS (by kernel_rfl : opAt F22.o13 8 = some (some 47, .call { callee := .builtin .append, args := #[(.tmp 39), (.tmp 46)], argTypes := #[29, 29] }, none)) rfl rfl (a_append (e := 35) (bytes := 56) hF (by decide) rfl rfl (by kernel_rfl) (by decide) ho g46 (by simp only [List.length_cons, List.length_nil]; omega) (by simp only [List.length_cons, List.length_nil]; omega)) ?_
          rintro v47 w8 ⟨Cw8, hs, ho, hF⟩
          refine ⟨trivial, ?_⟩
          replace hT := hT.trans hs (by simp)
          replace hc := hc.st hs (by first | decide | (simp <;> omega))
          replace hwx := hwx.st hs (by first | decide | (simp <;> omega))
          replace hwd := fun k hk => (hwd k hk).st hs (by first | decide | (simp <;> omega))
          replace hin := fun k hk => (hin k hk).st hs (by simp <;> omega) (by simp <;> omega)
          replace h42 := h42.st hs (by first | decide | (simp <;> omega))
          replace hw9 := hw9.st hs (by first | decide | (simp <;> omega))
          replace hcw := hcw.st hs (by first | decide | (simp <;> omega))
          replace g46 := g46.st hs (by first | decide | (simp <;> omega))
          refine yS (by kernel_rfl : opAt F22.o13 9 = some (some 3, .assign (.tmp 47), none)) rfl rfl (fun w' hS => val_assign rfl) ?_
          refine Sch.nil ?_
          rw [← hat, gvs_snoc hf1] at ho
          rw [← hat] at hcw
          obtain ⟨i0, hi0d⟩ : ∃ i0, i0 = (fsts cl i).length := ⟨_, rfl⟩
          have hfl2 : (fsts cl (i + 1)).length = i0 + 1 := by rw [hf1, List.length_append, hi0d]; rfl
          have hi0 : i0 < (fsts cl (i + 1)).length := by omega
          have hmid : (fsts cl (i + 1)).getD i0 0 = i := by rw [hf1, hi0d, List.getD_eq_getElem?_getD, List.getElem?_append_right (Nat.le_refl _)]; simp
          have hmlt : ∀ g, g < i0 → (fsts cl (i + 1)).getD g 0 = (fsts cl i).getD g 0 := fun g hg => by rw [hf1, List.getD_eq_getElem?_getD, List.getD_eq_getElem?_getD, List.getElem?_append_left (by omega)]
          rw [← hi0d] at ho hm1 hgl
          obtain ⟨wf2, hwf2⟩ : ∃ x, x = updV wf i0 u3 := ⟨_, rfl⟩
          obtain ⟨mf2, hmf2⟩ : ∃ x, x = updV mf i0 (.slice none 0 0) := ⟨_, rfl⟩
          rw [← hwf2, ← hmf2] at ho
          have hgl2 := gvs_len (cl := cl) (k := i + 1) (wf := wf2) (mf := mf2)
          obtain ⟨ol, hol⟩ : ∃ x : List Int, x = [] := ⟨_, rfl⟩
          have holl : ol.length ≤ i := by rw [hol]; exact Nat.zero_le _
          have hme : ints (mems cl (i + 1) i0) = ol ++ [(i : Int)] := by rw [hm1, if_pos rfl, hol]; rfl
          replace hwd : ∀ g, g < (fsts cl (i + 1)).length → RV _ _ (atB cl ((fsts cl (i + 1)).getD g 0)).words (wf2 g) := fun g hg => by
            rw [hwf2]
            by_cases e : g = i0
            · subst e; rw [hmid]; simp only [updV, if_true]; exact hcw
            · rw [hmlt g (by omega)]; simp only [updV, if_neg e]; exact hwd g (by omega)
          replace hin : ∀ g, g < (fsts cl (i + 1)).length → OwnL _ _ (10 + g) 3 (mf2 g) (if g = i0 then ol else ints (mems cl (i + 1) g)) := fun g hg => by
            rw [hmf2]
            by_cases e : g = i0
            · subst e; simp only [updV, if_true]; rw [hol]; exact OwnL.nil
            · simp only [updV, if_neg e]; rw [hm1, if_neg e]; exact hin g (by omega)
          clear hcw
          refine run_plain (id := 14) (ops := F22.o14) [(0, true), (1, true), (2, true), (3, true)] (by kernel_rfl) (by kernel_rfl) ?_
          refine yS (by kernel_rfl : opAt F22.o14 0 = some (some 48, .move (.tmp 3), none)) rfl rfl (fun w' hS => val_move rfl) ?_
          refine yS (by kernel_rfl : opAt F22.o14 1 = some (some 49, .call { callee := .builtin .len, args := #[(.tmp 48)], argTypes := #[29] }, none)) rfl rfl (fun w' hS => ho.lenV rfl Try.underlying29 w' ) ?_
          refine yS (by kernel_rfl : opAt F22.o14 2 = some (some 50, .binOp .sub 3 (.tmp 49) (.const (.int .i64 1)) 3, none)) rfl rfl (fun w' hS => val_subi rfl rfl (by omega) (by omega)) ?_
          refine yS (by kernel_rfl : opAt F22.o14 3 = some (some 5, .assign (.tmp 50), none)) rfl rfl (fun w' hS => val_assign rfl) ?_
          refine Sch.nil ?_
          rw [show (((gvs cl (i + 1) wf2 mf2).length : Nat) : Int) - 1 = (i0 : Int) from by omega]
          refine run_plain (id := 15) (ops := F22.o15) [(0, true), (1, true), (2, true), (3, true), (4, true), (5, true), (6, false), (7, true), (8, false), (9, false), (10, true), (11, true), (12, false)] (by kernel_rfl) (by kernel_rfl) ?_
          refine yS (by kernel_rfl : opAt F22.o15 0 = some (some 51, .move (.tmp 3), none)) rfl rfl (fun w' hS => val_move rfl) ?_
          refine yS (by kernel_rfl : opAt F22.o15 1 = some (some 52, .move (.tmp 5), none)) rfl rfl (fun w' hS => val_move rfl) ?_
          refine yS (by kernel_rfl : opAt F22.o15 2 = some (some 53, .move (.tmp 3), none)) rfl rfl (fun w' hS => val_move rfl) ?_
          refine yS (by kernel_rfl : opAt F22.o15 3 = some (some 54, .move (.tmp 5), none)) rfl rfl (fun w' hS => val_move rfl) ?_
          have hi0g : (i0 : Int) < (gvs cl (i + 1) wf2 mf2).length := by omega
          refine oI (e' := 35) (by kernel_rfl : opAt F22.o15 4 = some (some 55, .indexAddr 29 (.tmp 53) (.tmp 54), none)) rfl rfl ho rfl (by kernel_rfl) rfl (by omega) (by omega) ?_
          intro g55 hg55
          try simp only [Int.toNat_natCast]
          refine yS (by kernel_rfl : opAt F22.o15 5 = some (some 56, .fieldAddr 35 (.tmp 55) 1, none)) rfl rfl (fun w' hS => val_fieldAddr (off := 2) (by kernel_rfl) rfl) ?_
          refine nS (by kernel_rfl : opAt F22.o15 6 = some (some 57, .load 22 (.tmp 56), none)) rfl rfl trivial (OwnL.cell (off := 2) (u := mf2 i0) ho hg55 (by omega) (by decide) (by kernel_rfl) (fun vs hv => by rw [gvs_get] at hv; obtain ⟨rfl, _, _⟩ := hv; rfl) rfl _ rfl) ?_
          refine yS (by kernel_rfl : opAt F22.o15 7 = some (some 58, .move (.tmp 4), none)) rfl rfl (fun w' hS => val_move rfl) ?_
          refine aS (by kernel_rfl : opAt F22.o15 8 = some (some 59, .buildSlice 22 1 #[(0, (.tmp 58))], none)) rfl rfl (a_buildSlice (ys := ([(i : Int)] : List Int)) (e := 3) (bytes := 8) hF (by kernel_rfl) rfl (by decide) (by decide) ⟨rfl, ⟨_, rfl, rv_int.2 rfl⟩, trivial⟩) ?_
          rintro v59 w9 ⟨hs, g59, hF⟩
          refine ⟨trivial, ?_⟩
          replace hT := hT.trans hs (by simp)
          replace hc := hc.st hs (by first | decide | (simp <;> omega))
          replace hwx := hwx.st hs (by first | decide | (simp <;> omega))
          replace ho := ho.st hs (by first | decide | (simp <;> omega)) (by first | decide | (simp <;> omega))
          replace hwd := fun k hk => (hwd k hk).st hs (by first | decide | (simp <;> omega))
          replace hin := fun k hk => (hin k hk).st hs (by simp <;> omega) (by simp <;> omega)
          replace h42 := h42.st hs (by first | decide | (simp <;> omega))
          replace hw9 := hw9.st hs (by first | decide | (simp <;> omega))
          have hin0 := hin i0 hi0
          rw [if_pos rfl] at hin0
          refine aS (by kernel_rfl : opAt F22.o15 9 = some (some 60, .call { callee := .builtin .append, args := #[(.tmp 57), (.tmp 59)], argTypes := #[22, 22] }, none)) rfl rfl (a_append (e := 3) (bytes := 8) hF (by omega) rfl rfl (by kernel_rfl) (by decide) hin0 g59 (by simp only [List.length_cons, List.length_nil]; omega) (by simp only [List.length_cons, List.length_nil]; omega)) ?_
          rintro v60 w10 ⟨Cw10, hs, h60, hF⟩
          refine ⟨trivial, ?_⟩
          replace hT := hT.trans hs (by simp <;> omega)
          replace hc := hc.st hs (by first | decide | (simp <;> omega))
          replace hwx := hwx.st hs (by first | decide | (simp <;> omega))
          replace ho := ho.st hs (by first | decide | (simp <;> omega)) (by first | decide | (simp <;> omega))
          replace hwd := fun k hk => (hwd k hk).st hs (by first | decide | (simp <;> omega))
          replace h42 := h42.st hs (by first | decide | (simp <;> omega))
          replace hw9 := hw9.st hs (by first | decide | (simp <;> omega))
          replace g59 := g59.st hs (by first | decide | (simp <;> omega))
          replace hin := fun k hk (hne : k ≠ i0) => (hin k hk).st hs (by simp <;> omega) (by simp <;> omega)
          refine oI (e' := 35) (by kernel_rfl : opAt F22.o15 10 = some (some 61, .indexAddr 29 (.tmp 51) (.tmp 52), none)) rfl rfl ho rfl (by kernel_rfl) rfl (by omega) (by omega) ?_
          intro g61 hg61
          try simp only [Int.toNat_natCast]
          refine yS (by kernel_rfl : opAt F22.o15 11 = some (some 62, .fieldAddr 35 (.tmp 61) 1, none)) rfl rfl (fun w' hS => val_fieldAddr (off := 2) (by kernel_rfl) rfl) ?_
          refine aN (by kernel_rfl : opAt F22.o15 12 = some (none, .store 22 (.tmp 62) (.tmp 60), none)) rfl (a_storeF (off := 2) (k := 1) (us := [v60]) (x0 := (⟨(atB cl ((fsts cl (i + 1)).getD i0 0)).len, wf2 i0, v60⟩ : Gv)) ho hg61 (by omega) rfl rfl (by kernel_rfl) h60.one.1 rfl (by intro z hz; rw [List.mem_singleton.1 hz]; exact h60.one.2) (by decide) (fun vs hv => by rw [gvs_get] at hv; obtain ⟨rfl, h1, _⟩ := hv; exact ⟨rfl, h1, h60.one.2⟩)) ?_
          rintro _ w11 ⟨rfl, hs, ho⟩
          refine ⟨trivial, ?_⟩
          replace hF := hF.st hs
          replace hT := hT.trans hs (by simp)
          replace hc := hc.st hs (by first | decide | (simp <;> omega))
          replace hwx := hwx.st hs (by first | decide | (simp <;> omega))
          replace hwd := fun k hk => (hwd k hk).st hs (by first | decide | (simp <;> omega))
          replace h42 := h42.st hs (by first | decide | (simp <;> omega))
          replace hw9 := hw9.st hs (by first | decide | (simp <;> omega))
          replace g59 := g59.st hs (by first | decide | (simp <;> omega))
          replace h60 := h60.st hs (by first | decide | (simp <;> omega)) (by first | decide | (simp <;> omega))
          replace hin := fun k hk hne => (hin k hk hne).st hs (by simp <;> omega) (by simp <;> omega)
          rw [gvs_set] at ho
          refine Sch.nil ?_
          refine run_inBlock ?_
          refine run_plain (id := 4) (ops := F22.o4) [(0, true), (1, true), (2, true)] (by kernel_rfl) (by kernel_rfl) ?_
          refine yS (by kernel_rfl : opAt F22.o4 0 = some (some 11, .move (.tmp 4), none)) rfl rfl (fun w' hS => val_move rfl) ?_
          refine yS (by kernel_rfl : opAt F22.o4 1 = some (some 12, .binOp .add 3 (.tmp 11) (.const (.int .i64 1)) 3, none)) rfl rfl (fun w' hS => val_addi rfl rfl (by omega) (by omega)) ?_
          refine yS (by kernel_rfl : opAt F22.o4 2 = some (some 4, .assign (.tmp 12), none)) rfl rfl (fun w' hS => val_assign rfl) ?_
          refine Sch.nil ?_
          refine kp (sub_cons 0 rfl rfl (sub_cons 3 rfl rfl (sub_cons 4 rfl (eq_int (by simp)) (sub_nil _)))) (next1 (i + 1, v47, wf2, updV mf2 i0 v60, Cw10) _ ⟨(by first | omega | (simp only; omega)), hF, hT, hc, ho, hwd, (fun g hg => by
              simp only at hg ⊢
              by_cases e : g = i0
              · subst e; simp only [updV, if_true]; rw [hme]; exact h60
              · have := hin g hg e
                rw [if_neg e] at this; simp only [updV, if_neg e]; exact this)⟩ (by first | omega | (simp only; omega)))
        · skip
          obtain ⟨i0, rfl, hi0, he0⟩ : ∃ i0 : Nat, idx = i0 ∧ ∃ hi : i0 < (fsts cl i).length, atB cl ((fsts cl i).getD i0 0) = atB cl i := by
            rcases hfind with ⟨e, _⟩ | ⟨i0, e, hi, he⟩
            · omega
            · rw [grps_find] at he
              exact ⟨i0, e, by rwa [grpsOf_len] at hi, by rw [hat]; exact he⟩
          clear hfind
          obtain ⟨hf1, hm1⟩ := fsts_old hv hi0 he0
          have hfl2 := congrArg List.length hf1
          rw [← gvs_same hf1] at ho
          have hgl2 := gvs_len (cl := cl) (k := i + 1) (wf := wf) (mf := mf)
          obtain ⟨wf2, hwf2⟩ : ∃ x, x = wf := ⟨_, rfl⟩
          obtain ⟨mf2, hmf2⟩ : ∃ x, x = mf := ⟨_, rfl⟩
          obtain ⟨ol, hol⟩ : ∃ x, x = ints (mems cl i i0) := ⟨_, rfl⟩
          have holl : ol.length ≤ i := by rw [hol, ints_len]; exact mems_len
          have hme : ints (mems cl (i + 1) i0) = ol ++ [(i : Int)] := by rw [hm1, if_pos rfl, ints_snoc, hol]
          replace hwd : ∀ g, g < (fsts cl (i + 1)).length → RV _ _ (atB cl ((fsts cl (i + 1)).getD g 0)).words (wf2 g) := fun g hg => by rw [hf1, hwf2]; exact hwd g (by rw [hfl2] at hg; exact hg)
          replace hin : ∀ g, g < (fsts cl (i + 1)).length → OwnL _ _ (10 + g) 3 (mf2 g) (if g = i0 then ol else ints (mems cl (i + 1) g)) := fun g hg => by
            have := hin g (by rw [hfl2] at hg; exact hg)
            rw [hmf2]
            by_cases e : g = i0
            · rw [if_pos e, hol, ← e]; exact this
            · rw [if_neg e, hm1, if_neg e]; exact this
          rw [← hwf2, ← hmf2] at ho hgl2
          replace hi0 : i0 < (fsts cl (i + 1)).length := by rw [hfl2]; exact hi0
          refine run_skip (by kernel_rfl) ?_
          refine run_plain (id := 15) (ops := F22.o15) [(0, true), (1, true), (2, true), (3, true), (4, true), (5, true), (6, false), (7, true), (8, false), (9, false), (10, true), (11, true), (12, false)] (by kernel_rfl) (by kernel_rfl) ?_
          refine yS (by kernel_rfl : opAt F22.o15 0 = some (some 51, .move (.tmp 3), none)) rfl rfl (fun w' hS => val_move rfl) ?_
          refine yS (by kernel_rfl : opAt F22.o15 1 = some (some 52, .move (.tmp 5), none)) rfl rfl (fun w' hS => val_move rfl) ?_
          refine yS (by kernel_rfl : opAt F22.o15 2 = some (some 53, .move (.tmp 3), none)) rfl rfl (fun w' hS => val_move rfl) ?_
          refine yS (by kernel_rfl : opAt F22.o15 3 = some (some 54, .move (.tmp 5), none)) rfl rfl (fun w' hS => val_move rfl) ?_
          have hi0g : (i0 : Int) < (gvs cl (i + 1) wf2 mf2).length := by omega
          refine oI (e' := 35) (by kernel_rfl : opAt F22.o15 4 = some (some 55, .indexAddr 29 (.tmp 53) (.tmp 54), none)) rfl rfl ho rfl (by kernel_rfl) rfl (by omega) (by omega) ?_
          intro g55 hg55
          try simp only [Int.toNat_natCast]
          refine yS (by kernel_rfl : opAt F22.o15 5 = some (some 56, .fieldAddr 35 (.tmp 55) 1, none)) rfl rfl (fun w' hS => val_fieldAddr (off := 2) (by kernel_rfl) rfl) ?_
          refine nS (by kernel_rfl : opAt F22.o15 6 = some (some 57, .load 22 (.tmp 56), none)) rfl rfl trivial (OwnL.cell (off := 2) (u := mf2 i0) ho hg55 (by omega) (by decide) (by kernel_rfl) (fun vs hv => by rw [gvs_get] at hv; obtain ⟨rfl, _, _⟩ := hv; rfl) rfl _ rfl) ?_
          refine yS (by kernel_rfl : opAt F22.o15 7 = some (some 58, .move (.tmp 4), none)) rfl rfl (fun w' hS => val_move rfl) ?_
          refine aS (by kernel_rfl : opAt F22.o15 8 = some (some 59, .buildSlice 22 1 #[(0, (.tmp 58))], none)) rfl rfl (a_buildSlice (ys := ([(i : Int)] : List Int)) (e := 3) (bytes := 8) hF (by kernel_rfl) rfl (by decide) (by decide) ⟨rfl, ⟨_, rfl, rv_int.2 rfl⟩, trivial⟩) ?_
          rintro v59 w12 ⟨hs, g59, hF⟩
          refine ⟨trivial, ?_⟩
          replace hT := hT.trans hs (by simp)
          replace hc := hc.st hs (by first | decide | (simp <;> omega))
          replace hwx := hwx.st hs (by first | decide | (simp <;> omega))
          replace ho := ho.st hs (by first | decide | (simp <;> omega)) (by first | decide | (simp <;> omega))
          replace hwd := fun k hk => (hwd k hk).st hs (by first | decide | (simp <;> omega))
          replace hin := fun k hk => (hin k hk).st hs (by simp <;> omega) (by simp <;> omega)
          have hin0 := hin i0 hi0
          rw [if_pos rfl] at hin0
          refine aS (by kernel_rfl : opAt F22.o15 9 = some (some 60, .call { callee := .builtin .append, args := #[(.tmp 57), (.tmp 59)], argTypes := #[22, 22] }, none)) rfl rfl (a_append (e := 3) (bytes := 8) hF (by omega) rfl rfl (by kernel_rfl) (by decide) hin0 g59 (by simp only [List.length_cons, List.length_nil]; omega) (by simp only [List.length_cons, List.length_nil]; omega)) ?_
          rintro v60 w13 ⟨Cw13, hs, h60, hF⟩
          refine ⟨trivial, ?_⟩
          replace hT := hT.trans hs (by simp <;> omega)
          replace hc := hc.st hs (by first | decide | (simp <;> omega))
          replace hwx := hwx.st hs (by first | decide | (simp <;> omega))
          replace ho := ho.st hs (by first | decide | (simp <;> omega)) (by first | decide | (simp <;> omega))
          replace hwd := fun k hk => (hwd k hk).st hs (by first | decide | (simp <;> omega))
          replace g59 := g59.st hs (by first | decide | (simp <;> omega))
          replace hin := fun k hk (hne : k ≠ i0) => (hin k hk).st hs (by simp <;> omega) (by simp <;> omega)
          refine oI (e' := 35) (by kernel_rfl : opAt F22.o15 10 = some (some 61, .indexAddr 29 (.tmp 51) (.tmp 52), none)) rfl rfl ho rfl (by kernel_rfl) rfl (by omega) (by omega) ?_
          intro g61 hg61
          try simp only [Int.toNat_natCast]
          refine yS (by kernel_rfl : opAt F22.o15 11 = some (some 62, .fieldAddr 35 (.tmp 61) 1, none)) rfl rfl (fun w' hS => val_fieldAddr (off := 2) (by kernel_rfl) rfl) ?_
          refine aN (by kernel_rfl : opAt F22.o15 12 = some (none, .store 22 (.tmp 62) (.tmp 60), none)) rfl (a_storeF (off := 2) (k := 1) (us := [v60]) (x0 := (⟨(atB cl ((fsts cl (i + 1)).getD i0 0)).len, wf2 i0, v60⟩ : Gv)) ho hg61 (by omega) rfl rfl (by kernel_rfl) h60.one.1 rfl (by intro z hz; rw [List.mem_singleton.1 hz]; exact h60.one.2) (by decide) (fun vs hv => by rw [gvs_get] at hv; obtain ⟨rfl, h1, _⟩ := hv; exact ⟨rfl, h1, h60.one.2⟩)) ?_
          rintro _ w14 ⟨rfl, hs, ho⟩
          refine ⟨trivial, ?_⟩
          replace hF := hF.st hs
          replace hT := hT.trans hs (by simp)
          replace hc := hc.st hs (by first | decide | (simp <;> omega))
          replace hwx := hwx.st hs (by first | decide | (simp <;> omega))
          replace hwd := fun k hk => (hwd k hk).st hs (by first | decide | (simp <;> omega))
          replace g59 := g59.st hs (by first | decide | (simp <;> omega))
          replace h60 := h60.st hs (by first | decide | (simp <;> omega)) (by first | decide | (simp <;> omega))
          replace hin := fun k hk hne => (hin k hk hne).st hs (by simp <;> omega) (by simp <;> omega)
          rw [gvs_set] at ho
          refine Sch.nil ?_
          refine run_inBlock ?_
          refine run_plain (id := 4) (ops := F22.o4) [(0, true), (1, true), (2, true)] (by kernel_rfl) (by kernel_rfl) ?_
          refine yS (by kernel_rfl : opAt F22.o4 0 = some (some 11, .move (.tmp 4), none)) rfl rfl (fun w' hS => val_move rfl) ?_
          refine yS (by kernel_rfl : opAt F22.o4 1 = some (some 12, .binOp .add 3 (.tmp 11) (.const (.int .i64 1)) 3, none)) rfl rfl (fun w' hS => val_addi rfl rfl (by omega) (by omega)) ?_
          refine yS (by kernel_rfl : opAt F22.o4 2 = some (some 4, .assign (.tmp 12), none)) rfl rfl (fun w' hS => val_assign rfl) ?_
          refine Sch.nil ?_
          refine kp (sub_cons 0 rfl rfl (sub_cons 3 rfl rfl (sub_cons 4 rfl (eq_int (by simp)) (sub_nil _)))) (next1 (i + 1, vo, wf2, updV mf2 i0 v60, Cw13) _ ⟨(by first | omega | (simp only; omega)), hF, hT, hc, ho, hwd, (fun g hg => by
              simp only at hg ⊢
              by_cases e : g = i0
              · subst e; simp only [updV, if_true]; rw [hme]; exact h60
              · have := hin g hg e
                rw [if_neg e] at this; simp only [updV, if_neg e]; exact this)⟩ (by first | omega | (simp only; omega)))
  · skip
    have hil : i = cl.length := by omega
    rw [hil] at ho hwd hin hfl hgl
    refine run_exit (id := 0) (by kernel_rfl) rfl ?_
    refine run_seq (x := F22.c55) (y := F22.c56) (by kernel_rfl) ?_
    refine run_plain (id := 16) (ops := F22.o16) [(0, true), (1, true)] (by kernel_rfl) (by kernel_rfl) ?_
    refine yS (by kernel_rfl : opAt F22.o16 0 = some (some 63, .move (.tmp 3), none)) rfl rfl (fun w' hS => val_move rfl) ?_
    refine yS (by kernel_rfl : opAt F22.o16 1 = some (some 2, .assign (.tmp 63), none)) rfl rfl (fun w' hS => val_assign rfl) ?_
    refine Sch.nil ?_
    refine run_ret1 (by kernel_rfl) Try.func22 Try.results22 rfl ?_
    exact ⟨hT.out1 big_ge, rv_grps (ho.out hT hF0 (Mc_col1 C) (fun b _ => col1_lt C (by decide) b) (by omega)) (fun g hg => (hwd g hg).out hT hF0 (Mc_col1 C)) (fun g hg => (hin g hg).out hT hF0 (Mc_col1 C) (fun b _ => col1_lt C (by omega) b) (by rw [ints_len]; have := mems_len (cl := cl) (k := cl.length) (g := g); omega))⟩
end Go.Proofs.Ytbdlkdiadplmcaa
