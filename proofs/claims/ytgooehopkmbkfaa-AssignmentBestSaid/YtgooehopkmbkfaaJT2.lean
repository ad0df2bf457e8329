/- Steps through functions of the program. -/
import Derived.Test.YtgooehopkmbkfaaJT1
set_option linter.unusedVariables false
set_option linter.unusedSimpArgs false
set_option maxRecDepth 100000
set_option maxHeartbeats 4000000
namespace Go.Proofs.Ytgooehopkmbkfaa
open Go.K Go.K.Rep

namespace F57
noncomputable def c0 : Code := bodyOf Try.f57
noncomputable def c1 : Code := cl c0
noncomputable def o0 : Array Oper := rops c1
noncomputable def c2 : Code := cr c0
noncomputable def c3 : Code := cl c2
noncomputable def o1 : Array Oper := rops c3
noncomputable def c4 : Code := cr c2
noncomputable def c5 : Code := cl c4
noncomputable def o2 : Array Oper := rops c5
noncomputable def c6 : Code := cr c4
noncomputable def c7 : Code := cl c6
noncomputable def c8 : Code := cl c7
noncomputable def o3 : Array Oper := rops c8
noncomputable def c9 : Code := cr c7
noncomputable def c10 : Code := cl c9
noncomputable def c11 : Code := cl c10
noncomputable def c12 : Code := cl c11
noncomputable def o4 : Array Oper := rops c12
noncomputable def c13 : Code := cr c11
noncomputable def c14 : Code := cl c13
noncomputable def c15 : Code := cl c14
noncomputable def c16 : Code := cr c14
noncomputable def c17 : Code := cr c13
noncomputable def c18 : Code := cl c17
noncomputable def c19 : Code := cl c18
noncomputable def c20 : Code := cl c19
noncomputable def o5 : Array Oper := rops c20
noncomputable def c21 : Code := cr c19
noncomputable def o6 : Array Oper := rops c21
noncomputable def c22 : Code := cr c17
noncomputable def o7 : Array Oper := rops c22
noncomputable def c23 : Code := cr c6
noncomputable def c24 : Code := cl c23
noncomputable def o8 : Array Oper := rops c24
noncomputable def c25 : Code := cr c23
noncomputable def c26 : Code := cl c25
noncomputable def c27 : Code := cl c26
noncomputable def c28 : Code := cl c27
noncomputable def c29 : Code := cl c28
noncomputable def c30 : Code := cl c29
noncomputable def o9 : Array Oper := rops c30
noncomputable def c31 : Code := cr c29
noncomputable def c32 : Code := cl c31
noncomputable def o10 : Array Oper := rops c32
noncomputable def c33 : Code := cr c31
noncomputable def c34 : Code := cl c33
noncomputable def o11 : Array Oper := rops c34
noncomputable def c35 : Code := cr c33
noncomputable def c36 : Code := cl c35
noncomputable def c37 : Code := cr c35
noncomputable def c38 : Code := cr c25
noncomputable def c39 : Code := cl c38
noncomputable def c40 : Code := cl c39
noncomputable def c41 : Code := cl c40
noncomputable def c42 : Code := cl c41
noncomputable def o12 : Array Oper := rops c42
noncomputable def c43 : Code := cr c41
noncomputable def c44 : Code := cl c43
noncomputable def c45 : Code := cr c43
noncomputable def c46 : Code := cr c40
noncomputable def c47 : Code := cl c46
noncomputable def c48 : Code := cl c47
noncomputable def o13 : Array Oper := rops c48
noncomputable def c49 : Code := cr c47
noncomputable def c50 : Code := cl c49
noncomputable def o14 : Array Oper := rops c50
noncomputable def c51 : Code := cr c49
noncomputable def o15 : Array Oper := rops c51
end F57
/-- 'add'. -/
theorem add_ok {w₀ : World} {C : Nat → Nat} {sb : Nat} {xw xu xv xr xy xl xc : Value} {wl : List (List Int)} {ul vl : List Int} {rl yl : List Nat} {ll : List Int} {cl : List Bool} {k n : Nat} {W : Int} (hF : Lim w₀ C) (hs : SV w₀ C sb xw xu xv xr xy xl xc wl ul vl rl yl ll cl)
    (hk : wl.length = k) (hrows : ∀ r ∈ wl, r.length = k) (hI : HI k (cW wl) W n (gI ul) (gI vl) (gN rl)) (hnk : n < k) (hc : ∀ r j, 1 ≤ r → r ≤ k → 1 ≤ j → j ≤ k → -W ≤ cW wl r j ∧ cW wl r j ≤ 0) (hW0 : 0 ≤ W) (hW1 : W ≤ 288230376151711744) (hWk : (k + 1) * W ≤ 288230376151711744) (hkb : k ≤ 1000000) :
    Calls Try.prog 57 #[.pointer (some ⟨sb, 0, none⟩), .int .i64 ((n + 1 : Nat) : Int)] w₀ (Ret fun v w' => ∃ (ul' vl' : List Int) (rl' yl' : List Nat) (ll' : List Int) (cl' : List Bool), v = .tuple #[] ∧ Stp [11, 12, 13, 14, 15, 16] w₀ C w' C ∧ SV w' C sb xw xu xv xr xy xl xc wl ul' vl' rl' yl' ll' cl' ∧
      HI k (cW wl) W (n + 1) (gI ul') (gI vl') (gN rl')) := by
  obtain ⟨hsb, hW, hu, hv, hr, hy, hl, hcc, e1, e2, e3, e4, e5, e6⟩ := hs
  have hT := Stp.refl [11, 12, 13, 14, 15, 16] w₀ C
  replace hWk : Hid ((k + 1) * W ≤ 288230376151711744) := hWk
  replace hW0 : Hid (0 ≤ W) := hW0
  replace hW1 : Hid (W ≤ 288230376151711744) := hW1
  refine calls_start (c := F57.c0) (N := 75) [.pointer (some ⟨sb, 0, none⟩), .int .i64 ((n + 1 : Nat) : Int)] Try.func57 (by kernel_rfl) (by kernel_rfl) (by kernel_rfl) ?_
  show Run _ _ _ _ [(0, .pointer (some ⟨sb, 0, none⟩)), (1, .int .i64 ((n + 1 : Nat) : Int))] _ _
  refine run_seq (x := F57.c1) (y := F57.c2) (by kernel_rfl) ?_
  refine run_plain (id := 0) (ops := F57.o0) [(0, true), (1, true), (2, true), (3, false), (4, true), (5, true)] (by kernel_rfl) (by kernel_rfl) ?_
  refine yS (by kernel_rfl : opAt F57.o0 0 = some (some 8, .move (.tmp 0), none)) rfl rfl (fun w' hS => val_move rfl) ?_
  refine yS (by kernel_rfl : opAt F57.o0 1 = some (some 9, .nilCheck (.tmp 8), none)) rfl rfl (fun w' hS => val_nilCheck rfl) ?_
  refine yS (by kernel_rfl : opAt F57.o0 2 = some (some 10, .fieldAddr 93 (.tmp 9) 0, none)) rfl rfl (fun w' hS => val_fieldAddr (off := 0) (by kernel_rfl) rfl) ?_
  refine nS (by kernel_rfl : opAt F57.o0 3 = some (some 11, .load 70 (.tmp 10), none)) rfl rfl trivial (val_loadOwn hsb.at_ (by kernel_rfl) rfl rfl) ?_
  refine yS (by kernel_rfl : opAt F57.o0 4 = some (some 12, .call { callee := .builtin .len, args := #[(.tmp 11)], argTypes := #[70] }, none)) rfl rfl (fun w' hS => hW.lenV rfl Try.underlying70 w' ) ?_
  refine yS (by kernel_rfl : opAt F57.o0 5 = some (some 4, .assign (.tmp 12), none)) rfl rfl (fun w' hS => val_assign rfl) ?_
  refine Sch.nil ?_
  refine run_seq (x := F57.c3) (y := F57.c4) (by kernel_rfl) ?_
  refine run_plain (id := 1) (ops := F57.o1) [(0, true), (1, true), (2, true), (3, false), (4, true), (5, true), (6, false)] (by kernel_rfl) (by kernel_rfl) ?_
  refine yS (by kernel_rfl : opAt F57.o1 0 = some (some 13, .move (.tmp 0), none)) rfl rfl (fun w' hS => val_move rfl) ?_
  refine yS (by kernel_rfl : opAt F57.o1 1 = some (some 14, .nilCheck (.tmp 13), none)) rfl rfl (fun w' hS => val_nilCheck rfl) ?_
  refine yS (by kernel_rfl : opAt F57.o1 2 = some (some 15, .fieldAddr 93 (.tmp 14) 3, none)) rfl rfl (fun w' hS => val_fieldAddr (off := 3) (by kernel_rfl) rfl) ?_
  refine nS (by kernel_rfl : opAt F57.o1 3 = some (some 16, .load 22 (.tmp 15), none)) rfl rfl trivial (val_loadOwn hsb.at_ (by kernel_rfl) rfl rfl) ?_
  refine yS (by kernel_rfl : opAt F57.o1 4 = some (some 17, .move (.tmp 1), none)) rfl rfl (fun w' hS => val_move rfl) ?_
  refine oI (e' := 3) (by kernel_rfl : opAt F57.o1 5 = some (some 18, .indexAddr 22 (.tmp 16) (.const (.int .i64 0)), none)) rfl rfl hr rfl (by kernel_rfl) rfl (by omega) (by omega) ?_
  intro g18 hg18
  try simp only [Int.toNat_natCast]
  refine aN (by kernel_rfl : opAt F57.o1 6 = some (none, .store 3 (.tmp 18) (.tmp 17), none)) rfl (a_storeO hr hg18 (by omega) rfl rfl (by kernel_rfl) (rv_nat.2 rfl)) ?_
  rintro _ w1 ⟨rfl, hs, hr⟩
  refine ⟨trivial, ?_⟩
  replace hF := hF.st hs
  replace hT := hT.trans hs (by simp)
  replace hsb := hsb.st hs (by first | decide | (simp <;> omega))
  replace hW := hW.st hs (by first | decide | (simp <;> omega))
  replace hu := hu.st hs (by first | decide | (simp <;> omega)) (by first | decide | (simp <;> omega))
  replace hv := hv.st hs (by first | decide | (simp <;> omega)) (by first | decide | (simp <;> omega))
  replace hy := hy.st hs (by first | decide | (simp <;> omega)) (by first | decide | (simp <;> omega))
  replace hl := hl.st hs (by first | decide | (simp <;> omega)) (by first | decide | (simp <;> omega))
  replace hcc := hcc.st hs (by first | decide | (simp <;> omega)) (by first | decide | (simp <;> omega))
  refine Sch.nil ?_
  simp only [show (0 : Int).toNat = 0 from rfl] at hr
  obtain ⟨rl1, hrl1⟩ : ∃ l, l = rl.set 0 (n + 1) := ⟨_, rfl⟩
  rw [← hrl1] at hr
  have hlr : rl1.length = wl.length + 1 := by rw [hrl1, List.length_set]; exact e3
  have hr0 : gN rl1 0 = n + 1 := by rw [hrl1]; show (rl.set 0 (n + 1)).getD 0 0 = _; rw [getD_set (by omega), if_pos rfl]
  have hrr : ∀ j, j ≠ 0 → gN rl1 j = gN rl j := fun j hj => by rw [hrl1]; show (rl.set 0 (n + 1)).getD j 0 = _; rw [getD_set (by omega), if_neg (fun e => hj e.symm)]
  clear hrl1
  replace hr0 : Hid (gN rl1 0 = n + 1) := hr0
  refine run_seq (x := F57.c5) (y := F57.c6) (by kernel_rfl) ?_
  refine run_plain (id := 2) (ops := F57.o2) [(0, true), (1, true), (2, true), (3, false), (4, false)] (by kernel_rfl) (by kernel_rfl) ?_
  refine yS (by kernel_rfl : opAt F57.o2 0 = some (some 19, .move (.tmp 0), none)) rfl rfl (fun w' hS => val_move rfl) ?_
  refine yS (by kernel_rfl : opAt F57.o2 1 = some (some 20, .nilCheck (.tmp 19), none)) rfl rfl (fun w' hS => val_nilCheck rfl) ?_
  refine yS (by kernel_rfl : opAt F57.o2 2 = some (some 21, .fieldAddr 93 (.tmp 20) 6, none)) rfl rfl (fun w' hS => val_fieldAddr (off := 6) (by kernel_rfl) rfl) ?_
  refine nS (by kernel_rfl : opAt F57.o2 3 = some (some 22, .load 48 (.tmp 21), none)) rfl rfl trivial (val_loadOwn hsb.at_ (by kernel_rfl) rfl rfl) ?_
  refine aN (by kernel_rfl : opAt F57.o2 4 = some (none, .call { callee := .builtin .clear, args := #[(.tmp 22)], argTypes := #[48] }, none)) rfl (a_clear (x0 := false) (zs := [.bool false]) hcc (hcc.subSelf (by omega)) (by omega) (by omega) Try.underlying48 (by kernel_rfl) (fun h M => rfl) rfl) ?_
  rintro _ wc ⟨hs, hcc⟩
  refine ⟨trivial, ?_⟩
  replace hF := hF.st hs
  replace hT := hT.trans hs (by simp)
  replace hsb := hsb.st hs (by first | decide | (simp <;> omega))
  replace hW := hW.st hs (by first | decide | (simp <;> omega))
  replace hu := hu.st hs (by first | decide | (simp <;> omega)) (by first | decide | (simp <;> omega))
  replace hv := hv.st hs (by first | decide | (simp <;> omega)) (by first | decide | (simp <;> omega))
  replace hr := hr.st hs (by first | decide | (simp <;> omega)) (by first | decide | (simp <;> omega))
  replace hy := hy.st hs (by first | decide | (simp <;> omega)) (by first | decide | (simp <;> omega))
  replace hl := hl.st hs (by first | decide | (simp <;> omega)) (by first | decide | (simp <;> omega))
  obtain ⟨cl1, hcl1⟩ : ∃ l : List Bool, l = List.replicate cl.length false := ⟨_, rfl⟩
  simp only [List.take_zero, List.nil_append] at hcc
  rw [← hcl1] at hcc
  have hlc : cl1.length = wl.length + 1 := by rw [hcl1, List.length_replicate]; exact e6
  have hcf : ∀ j, gB cl1 j = false := fun j => by rw [hcl1]; exact getD_rep
  refine Sch.nil ?_
  refine run_seq (x := F57.c7) (y := F57.c23) (by kernel_rfl) ?_
  refine run_seq (x := F57.c8) (y := F57.c9) (by kernel_rfl) ?_
  refine run_plain (id := 3) (ops := F57.o3) [(0, true), (1, true), (2, true)] (by kernel_rfl) (by kernel_rfl) ?_
  refine yS (by kernel_rfl : opAt F57.o3 0 = some (some 23, .move (.tmp 4), none)) rfl rfl (fun w' hS => val_move rfl) ?_
  refine yS (by kernel_rfl : opAt F57.o3 1 = some (some 24, .binOp .add 3 (.tmp 23) (.const (.int .i64 1)) 3, none)) rfl rfl (fun w' hS => val_addi rfl rfl (by omega) (by omega)) ?_
  refine yS (by kernel_rfl : opAt F57.o3 2 = some (some 25, .move (.const (.int .i64 0)), none)) rfl rfl (fun w' hS => val_move rfl) ?_
  refine Sch.nil ?_
  refine run_block (x := F57.c10) (id := 0) (by kernel_rfl) ?_
  
  refine run_loop (ι := Nat × (List Int)) (I := fun x w => x.1 ≤ k + 1 ∧ x.2.length = k + 1 ∧ (∀ q, q < x.1 → gI x.2 q = 4611686018427387904) ∧ Lim w C ∧ Stp [11, 12, 13, 14, 15, 16] w₀ C w C ∧ OwnB w C 10 sb (.cells [xw, xu, xv, xr, xy, xl, xc].toArray 93) ∧ RV w (Mc C) wl xw ∧ OwnL w C 11 3 xu ul ∧ OwnL w C 12 3 xv vl ∧ OwnL w C 13 3 xr rl1 ∧ OwnL w C 14 3 xy yl ∧ OwnL w C 15 3 xl x.2 ∧ OwnL w C 16 4 xc cl1) (e := fun x => [(0, .pointer (some ⟨sb, 0, none⟩)), (4, .int .i64 wl.length), (24, .int .i64 ((k + 1 : Nat) : Int)), (25, .int .i64 x.1)]) (m := fun x => k + 1 - x.1) (x₀ := (0, ll)) (body := F57.c11) (by kernel_rfl) (sub_cons 0 rfl rfl (sub_cons 4 rfl rfl (sub_cons 24 rfl (eq_int (by omega)) (sub_cons 25 rfl rfl (sub_nil _))))) ?_ ?_
  · exact ⟨Nat.zero_le _, (by simp only; omega), (fun q hq => by simp only at hq; omega), hF, hT, hsb, hW, hu, hv, hr, hy, hl, hcc⟩
  intro ⟨j, ll1⟩ w2 hI next
  obtain ⟨hj, hll, hlf, hF, hT, hsb, hW, hu, hv, hr, hy, hl, hcc⟩ := hI
  try simp only at hj hll hlf hF hT hsb hW hu hv hr hy hl hcc
  have next1 := next
  clear next
  show Run _ _ _ _ [(0, .pointer (some ⟨sb, 0, none⟩)), (4, .int .i64 wl.length), (24, .int .i64 ((k + 1 : Nat) : Int)), (25, .int .i64 j)] _ _
  refine run_seq (x := F57.c12) (y := F57.c13) (by kernel_rfl) ?_
  refine run_plain (id := 4) (ops := F57.o4) [(0, true)] (by kernel_rfl) (by kernel_rfl) ?_
  refine yS (by kernel_rfl : opAt F57.o4 0 = some (some 26, .binOp .lss 3 (.tmp 25) (.tmp 24) 3, none)) rfl rfl (fun w' hS => val_lss rfl rfl) ?_
  refine Sch.nil ?_
  refine run_seq (x := F57.c14) (y := F57.c17) (by kernel_rfl) ?_
  refine run_if (x := F57.c15) (y := F57.c16) (o := .tmp 26) (by kernel_rfl) rfl (fun h26 => ?_) (fun h26 => ?_)
  · skip
    have hjk : j ≤ k := by omega
    refine run_skip (by kernel_rfl) ?_
    refine run_seq (x := F57.c18) (y := F57.c22) (by kernel_rfl) ?_
    refine run_block (x := F57.c19) (id := 1) (by kernel_rfl) ?_
    refine run_seq (x := F57.c20) (y := F57.c21) (by kernel_rfl) ?_
    refine run_plain (id := 5) (ops := F57.o5) [(0, true), (1, true)] (by kernel_rfl) (by kernel_rfl) ?_
    refine yS (by kernel_rfl : opAt F57.o5 0 = some (some 27, .move (.tmp 25), none)) rfl rfl (fun w' hS => val_move rfl) ?_
    refine yS (by kernel_rfl : opAt F57.o5 1 = some (some 5, .assign (.tmp 27), none)) rfl rfl (fun w' hS => val_assign rfl) ?_
    refine Sch.nil ?_
    refine run_plain (id := 6) (ops := F57.o6) [(0, true), (1, true), (2, true), (3, false), (4, true), (5, true), (6, false)] (by kernel_rfl) (by kernel_rfl) ?_
    refine yS (by kernel_rfl : opAt F57.o6 0 = some (some 28, .move (.tmp 0), none)) rfl rfl (fun w' hS => val_move rfl) ?_
    refine yS (by kernel_rfl : opAt F57.o6 1 = some (some 29, .nilCheck (.tmp 28), none)) rfl rfl (fun w' hS => val_nilCheck rfl) ?_
    refine yS (by kernel_rfl : opAt F57.o6 2 = some (some 30, .fieldAddr 93 (.tmp 29) 5, none)) rfl rfl (fun w' hS => val_fieldAddr (off := 5) (by kernel_rfl) rfl) ?_
    refine nS (by kernel_rfl : opAt F57.o6 3 = some (some 31, .load 22 (.tmp 30), none)) rfl rfl trivial (val_loadOwn hsb.at_ (by kernel_rfl) rfl rfl) ?_
    refine yS (by kernel_rfl : opAt F57.o6 4 = some (some 32, .move (.tmp 5), none)) rfl rfl (fun w' hS => val_move rfl) ?_
    refine oI (e' := 3) (by kernel_rfl : opAt F57.o6 5 = some (some 33, .indexAddr 22 (.tmp 31) (.tmp 32), none)) rfl rfl hl rfl (by kernel_rfl) rfl (by omega) (by omega) ?_
    intro g33 hg33
    try simp only [Int.toNat_natCast]
    refine aN (by kernel_rfl : opAt F57.o6 6 = some (none, .store 3 (.tmp 33) (.const (.int .i64 4611686018427387904)), none)) rfl (a_storeO hl hg33 (by omega) rfl rfl (by kernel_rfl) (rv_int.2 rfl)) ?_
    rintro _ w3 ⟨rfl, hs, hl⟩
    refine ⟨trivial, ?_⟩
    replace hF := hF.st hs
    replace hT := hT.trans hs (by simp)
    replace hsb := hsb.st hs (by first | decide | (simp <;> omega))
    replace hW := hW.st hs (by first | decide | (simp <;> omega))
    replace hu := hu.st hs (by first | decide | (simp <;> omega)) (by first | decide | (simp <;> omega))
    replace hv := hv.st hs (by first | decide | (simp <;> omega)) (by first | decide | (simp <;> omega))
    replace hr := hr.st hs (by first | decide | (simp <;> omega)) (by first | decide | (simp <;> omega))
    replace hy := hy.st hs (by first | decide | (simp <;> omega)) (by first | decide | (simp <;> omega))
    replace hcc := hcc.st hs (by first | decide | (simp <;> omega)) (by first | decide | (simp <;> omega))
    refine Sch.nil ?_
    refine run_inBlock ?_
    refine run_plain (id := 7) (ops := F57.o7) [(0, true), (1, true)] (by kernel_rfl) (by kernel_rfl) ?_
    refine yS (by kernel_rfl : opAt F57.o7 0 = some (some 34, .binOp .add 3 (.tmp 25) (.const (.int .i64 1)) 3, none)) rfl rfl (fun w' hS => val_addi rfl rfl (by omega) (by omega)) ?_
    refine yS (by kernel_rfl : opAt F57.o7 1 = some (some 25, .move (.tmp 34), none)) rfl rfl (fun w' hS => val_move rfl) ?_
    refine Sch.nil ?_
    refine kp (sub_cons 0 rfl rfl (sub_cons 4 rfl rfl (sub_cons 24 rfl rfl (sub_cons 25 rfl (eq_int (by simp)) (sub_nil _))))) (next1 (j + 1, ll1.set j 4611686018427387904) _ ⟨(by first | omega | (simp only; omega)), (by simp only [List.length_set]; exact hll), (fun q hq => by
        simp only at hq
        show (ll1.set j 4611686018427387904).getD q 0 = _
        rw [getD_set (by omega)]
        split
        · rfl
        · exact hlf q (by omega)), hF, hT, hsb, hW, hu, hv, hr, hy, hl, hcc⟩ (by first | omega | (simp only; omega)))
  · skip
    have hjk : j = k + 1 := by omega
    subst hjk
    clear h26 hj e3 e5 e6
    obtain ⟨hB0, hP1⟩ := hI.begin (far := 4611686018427387904) (cl := fun q => if q = 0 then true else gB cl1 q) (least := gI ll1) (row' := gN rl1) hnk hr0 hrr (fun q a b => hlf q (by omega)) (fun q a b => by rw [if_neg (by omega)]; exact hcf q) (if_pos rfl) (gN yl)
    refine run_exit (id := 0) (by kernel_rfl) rfl ?_
    refine run_seq (x := F57.c24) (y := F57.c25) (by kernel_rfl) ?_
    refine run_plain (id := 8) (ops := F57.o8) [(0, true)] (by kernel_rfl) (by kernel_rfl) ?_
    refine yS (by kernel_rfl : opAt F57.o8 0 = some (some 6, .assign (.const (.int .i64 0)), none)) rfl rfl (fun w' hS => val_assign rfl) ?_
    refine Sch.nil ?_
    refine run_seq (x := F57.c26) (y := F57.c38) (by kernel_rfl) ?_
    refine run_block (x := F57.c27) (id := 2) (by kernel_rfl) ?_
    
    refine run_loop (ι := Nat × (List Int) × (List Int) × (List Nat) × (List Int) × (List Bool) × (Nat → Nat) × Nat) (I := fun x w => x.1 ≤ k ∧ gB x.2.2.2.2.2.1 x.1 = false ∧ (x.2.1.length = k + 1 ∧ x.2.2.1.length = k + 1 ∧ x.2.2.2.1.length = k + 1 ∧ x.2.2.2.2.1.length = k + 1 ∧ x.2.2.2.2.2.1.length = k + 1) ∧ HB k (cW wl) W n (gI x.2.1) (gI x.2.2.1) (gN rl1) (gN x.2.2.2.1) (fun q => if q = x.1 then true else gB x.2.2.2.2.2.1 q) x.2.2.2.2.2.2.1 x.2.2.2.2.2.2.2 ∧ (HP1 k 4611686018427387904 n (gI x.2.1) (gI x.2.2.2.2.1) (fun q => if q = x.1 then true else gB x.2.2.2.2.2.1 q) ∧ x.1 = 0 ∨ HP2 k (cW wl) W n x.1 (gI x.2.1) (gI x.2.2.1) (gN rl1) (gN x.2.2.2.1) (gI x.2.2.2.2.1) (fun q => if q = x.1 then true else gB x.2.2.2.2.2.1 q)) ∧ Lim w C ∧ Stp [11, 12, 13, 14, 15, 16] w₀ C w C ∧ OwnB w C 10 sb (.cells [xw, xu, xv, xr, xy, xl, xc].toArray 93) ∧ RV w (Mc C) wl xw ∧ OwnL w C 11 3 xu x.2.1 ∧ OwnL w C 12 3 xv x.2.2.1 ∧ OwnL w C 13 3 xr rl1 ∧ OwnL w C 14 3 xy x.2.2.2.1 ∧ OwnL w C 15 3 xl x.2.2.2.2.1 ∧ OwnL w C 16 4 xc x.2.2.2.2.2.1) (e := fun x => [(0, .pointer (some ⟨sb, 0, none⟩)), (6, .int .i64 x.1)]) (m := fun x => x.2.2.2.2.2.1.count false) (x₀ := (0, ul, vl, yl, ll1, cl1, fun _ => 0, 0)) (body := F57.c28) (by kernel_rfl) (sub_cons 0 rfl rfl (sub_cons 6 rfl rfl (sub_nil _))) ?_ ?_
    · exact ⟨Nat.zero_le _, (hcf 0), (by simp only; omega), hB0, (.inl ⟨hP1, rfl⟩), hF, hT, hsb, hW, hu, hv, hr, hy, hl, hcc⟩
    intro ⟨a, ul1, vl1, yl1, ll2, cl2, rk, T⟩ w4 hI next
    obtain ⟨hak, hac, hls, hB, hP, hF, hT, hsb, hW, hu, hv, hr, hy, hl, hcc⟩ := hI
    try simp only at hak hac hls hB hP hF hT hsb hW hu hv hr hy hl hcc
    have next2 := next
    clear next
    show Run _ _ _ _ [(0, .pointer (some ⟨sb, 0, none⟩)), (6, .int .i64 a)] _ _
    obtain ⟨s1, s2, s3, s4, s5⟩ := hls
    refine run_block (x := F57.c29) (id := 3) (by kernel_rfl) ?_
    refine run_seq (x := F57.c30) (y := F57.c31) (by kernel_rfl) ?_
    refine run_plain (id := 9) (ops := F57.o9) [(0, true), (1, true), (2, true), (3, false), (4, true), (5, true), (6, false)] (by kernel_rfl) (by kernel_rfl) ?_
    refine yS (by kernel_rfl : opAt F57.o9 0 = some (some 35, .move (.tmp 0), none)) rfl rfl (fun w' hS => val_move rfl) ?_
    refine yS (by kernel_rfl : opAt F57.o9 1 = some (some 36, .nilCheck (.tmp 35), none)) rfl rfl (fun w' hS => val_nilCheck rfl) ?_
    refine yS (by kernel_rfl : opAt F57.o9 2 = some (some 37, .fieldAddr 93 (.tmp 36) 6, none)) rfl rfl (fun w' hS => val_fieldAddr (off := 6) (by kernel_rfl) rfl) ?_
    refine nS (by kernel_rfl : opAt F57.o9 3 = some (some 38, .load 48 (.tmp 37), none)) rfl rfl trivial (val_loadOwn hsb.at_ (by kernel_rfl) rfl rfl) ?_
    refine yS (by kernel_rfl : opAt F57.o9 4 = some (some 39, .move (.tmp 6), none)) rfl rfl (fun w' hS => val_move rfl) ?_
    refine oI (e' := 4) (by kernel_rfl : opAt F57.o9 5 = some (some 40, .indexAddr 48 (.tmp 38) (.tmp 39), none)) rfl rfl hcc rfl (by kernel_rfl) rfl (by omega) (by omega) ?_
    intro g40 hg40
    try simp only [Int.toNat_natCast]
    refine aN (by kernel_rfl : opAt F57.o9 6 = some (none, .store 4 (.tmp 40) (.const (.bool true)), none)) rfl (a_storeO hcc hg40 (by omega) rfl rfl (by kernel_rfl) (rv_bool.2 rfl)) ?_
    rintro _ w5 ⟨rfl, hs, hcc⟩
    refine ⟨trivial, ?_⟩
    replace hF := hF.st hs
    replace hT := hT.trans hs (by simp)
    replace hsb := hsb.st hs (by first | decide | (simp <;> omega))
    replace hW := hW.st hs (by first | decide | (simp <;> omega))
    replace hu := hu.st hs (by first | decide | (simp <;> omega)) (by first | decide | (simp <;> omega))
    replace hv := hv.st hs (by first | decide | (simp <;> omega)) (by first | decide | (simp <;> omega))
    replace hr := hr.st hs (by first | decide | (simp <;> omega)) (by first | decide | (simp <;> omega))
    replace hy := hy.st hs (by first | decide | (simp <;> omega)) (by first | decide | (simp <;> omega))
    replace hl := hl.st hs (by first | decide | (simp <;> omega)) (by first | decide | (simp <;> omega))
    refine Sch.nil ?_
    have hce := gB_set (cl := cl2) (a := a) (by omega)
    rw [← hce] at hB hP
    have hct := count_set (cl := cl2) (a := a) (by omega) (by rw [← hac]; exact (getD_in (by omega)).symm)
    obtain ⟨cl3, hcl3⟩ : ∃ l, l = cl2.set a true := ⟨_, rfl⟩
    rw [← hcl3] at hB hP hcc hct hce
    have hl3 : cl3.length = k + 1 := by rw [hcl3, List.length_set]; exact s5
    have hca : gB cl3 a = true := by rw [hce]; exact if_pos rfl
    replace hP : Hid (HP1 k 4611686018427387904 n (gI ul1) (gI ll2) (gB cl3) ∧ a = 0 ∨ HP2 k (cW wl) W n a (gI ul1) (gI vl1) (gN rl1) (gN yl1) (gI ll2) (gB cl3)) := hP
    replace hct : Hid (cl3.count false < cl2.count false) := hct
    clear hcl3 hce hac
    refine run_seq (x := F57.c32) (y := F57.c33) (by kernel_rfl) ?_
    refine run_plain (id := 10) (ops := F57.o10) [(0, true), (1, true), (2, false), (3, true)] (by kernel_rfl) (by kernel_rfl) ?_
    refine yS (by kernel_rfl : opAt F57.o10 0 = some (some 41, .move (.tmp 0), none)) rfl rfl (fun w' hS => val_move rfl) ?_
    refine yS (by kernel_rfl : opAt F57.o10 1 = some (some 42, .move (.tmp 6), none)) rfl rfl (fun w' hS => val_move rfl) ?_
    refine cS (by kernel_rfl : opAt F57.o10 2 = some (some 43, .call { callee := .value (.func 61), args := #[(.tmp 41), (.tmp 42)], argTypes := #[91, 3] }, none)) rfl rfl (ent Try.call61 rfl) (reach_ok (rk := rk) (T := T) hF ⟨hsb, hW, hu, hv, hr, hy, hl, hcc, by omega, by omega, by omega, by omega, by omega, by omega⟩ hk hrows hB hc hW0 hW1 hWk hkb hP hak hca) ?_
    rintro vw6 w6 ⟨nx, ul2, vl2, yl2, ll3, rfl, hs, ⟨hsb, hW, hu, hv, hr, hy, hl, hcc, t1, t2, t3, t4, t5, t6⟩, q1, q2, q3, hB, hP, q6⟩
    refine ⟨trivial, ?_⟩
    replace hF := hF.st hs
    replace hT := hT.trans hs (by simp)
    replace q6 : Hid (gI ll3 nx = 0) := q6
    clear s1 s2 s3 s4 s5
    refine yS (by kernel_rfl : opAt F57.o10 3 = some (some 6, .assign (.tmp 43), none)) rfl rfl (fun w' hS => val_assign rfl) ?_
    refine Sch.nil ?_
    refine run_seq (x := F57.c34) (y := F57.c35) (by kernel_rfl) ?_
    refine run_plain (id := 11) (ops := F57.o11) [(0, true), (1, true), (2, true), (3, false), (4, true), (5, true), (6, false), (7, true)] (by kernel_rfl) (by kernel_rfl) ?_
    refine yS (by kernel_rfl : opAt F57.o11 0 = some (some 44, .move (.tmp 0), none)) rfl rfl (fun w' hS => val_move rfl) ?_
    refine yS (by kernel_rfl : opAt F57.o11 1 = some (some 45, .nilCheck (.tmp 44), none)) rfl rfl (fun w' hS => val_nilCheck rfl) ?_
    refine yS (by kernel_rfl : opAt F57.o11 2 = some (some 46, .fieldAddr 93 (.tmp 45) 3, none)) rfl rfl (fun w' hS => val_fieldAddr (off := 3) (by kernel_rfl) rfl) ?_
    refine nS (by kernel_rfl : opAt F57.o11 3 = some (some 47, .load 22 (.tmp 46), none)) rfl rfl trivial (val_loadOwn hsb.at_ (by kernel_rfl) rfl rfl) ?_
    refine yS (by kernel_rfl : opAt F57.o11 4 = some (some 48, .move (.tmp 6), none)) rfl rfl (fun w' hS => val_move rfl) ?_
    refine oI (e' := 3) (by kernel_rfl : opAt F57.o11 5 = some (some 49, .indexAddr 22 (.tmp 47) (.tmp 48), none)) rfl rfl hr rfl (by kernel_rfl) rfl (by omega) (by omega) ?_
    intro g49 hg49
    try simp only [Int.toNat_natCast]
    refine oN (by kernel_rfl : opAt F57.o11 6 = some (some 50, .load 3 (.tmp 49), none)) rfl rfl trivial hr hg49 (by omega) (by kernel_rfl) rfl rfl ?_
    intro v50 g50
    try simp only [Int.toNat_natCast] at g50
    first | (obtain rfl := rv_nat.1 g50) | (obtain rfl := rv_int.1 g50)
    refine yS (by kernel_rfl : opAt F57.o11 7 = some (some 51, .binOp .eql 3 (.tmp 50) (.const (.int .i64 0)) 3, none)) rfl rfl (fun w' hS => val_eql rfl rfl) ?_
    refine Sch.nil ?_
    refine run_if (x := F57.c36) (y := F57.c37) (o := .tmp 51) (by kernel_rfl) rfl (fun h51 => ?_) (fun h51 => ?_)
    · skip
      have hrz : Hid (gN rl1 nx = 0) := (getD_in (by omega)).trans (by omega)
      clear h51
      have hfl := hB.flip0 q1 q2 hrz
      refine run_exit (id := 2) (by kernel_rfl) rfl ?_
      refine run_block (x := F57.c39) (id := 4) (by kernel_rfl) ?_
      
      refine run_loop (ι := Nat × (List Nat)) (I := fun x w => x.2.length = k + 1 ∧ HFl k (cW wl) n nx (gI ul2) (gI vl2) (gN rl1) (gB cl3) rk x.1 (gN x.2) ∧ Lim w C ∧ Stp [11, 12, 13, 14, 15, 16] w₀ C w C ∧ OwnB w C 10 sb (.cells [xw, xu, xv, xr, xy, xl, xc].toArray 93) ∧ RV w (Mc C) wl xw ∧ OwnL w C 11 3 xu ul2 ∧ OwnL w C 12 3 xv vl2 ∧ OwnL w C 13 3 xr x.2 ∧ OwnL w C 14 3 xy yl2 ∧ OwnL w C 15 3 xl ll3 ∧ OwnL w C 16 4 xc cl3) (e := fun x => [(0, .pointer (some ⟨sb, 0, none⟩)), (6, .int .i64 x.1)]) (m := fun x => (if x.1 = nx then T + 1 else rk x.1)) (x₀ := (nx, rl1)) (body := F57.c40) (by kernel_rfl) (sub_cons 0 rfl rfl (sub_cons 6 rfl rfl (sub_nil _))) ?_ ?_
      · exact ⟨(by simp only; omega), hfl, hF, hT, hsb, hW, hu, hv, hr, hy, hl, hcc⟩
      intro ⟨p, rl2⟩ w7 hI next
      obtain ⟨hlr2, hfl, hF, hT, hsb, hW, hu, hv, hr, hy, hl, hcc⟩ := hI
      try simp only at hlr2 hfl hF hT hsb hW hu hv hr hy hl hcc
      have next3 := next
      clear next
      show Run _ _ _ _ [(0, .pointer (some ⟨sb, 0, none⟩)), (6, .int .i64 p)] _ _
      have hpk := hfl.pk
      refine run_seq (x := F57.c41) (y := F57.c46) (by kernel_rfl) ?_
      refine run_seq (x := F57.c42) (y := F57.c43) (by kernel_rfl) ?_
      refine run_plain (id := 12) (ops := F57.o12) [(0, true), (1, true)] (by kernel_rfl) (by kernel_rfl) ?_
      refine yS (by kernel_rfl : opAt F57.o12 0 = some (some 52, .move (.tmp 6), none)) rfl rfl (fun w' hS => val_move rfl) ?_
      refine yS (by kernel_rfl : opAt F57.o12 1 = some (some 53, .binOp .neq 3 (.tmp 52) (.const (.int .i64 0)) 3, none)) rfl rfl (fun w' hS => val_neq rfl rfl) ?_
      refine Sch.nil ?_
      refine run_if (x := F57.c44) (y := F57.c45) (o := .tmp 53) (by kernel_rfl) rfl (fun h53 => ?_) (fun h53 => ?_)
      · skip
        have hp0 : p ≠ 0 := by omega
        refine run_skip (by kernel_rfl) ?_
        refine run_block (x := F57.c47) (id := 5) (by kernel_rfl) ?_
        refine run_seq (x := F57.c48) (y := F57.c49) (by kernel_rfl) ?_
        refine run_plain (id := 13) (ops := F57.o13) [(0, true), (1, true), (2, true), (3, false), (4, true), (5, true), (6, false), (7, true)] (by kernel_rfl) (by kernel_rfl) ?_
        refine yS (by kernel_rfl : opAt F57.o13 0 = some (some 54, .move (.tmp 0), none)) rfl rfl (fun w' hS => val_move rfl) ?_
        refine yS (by kernel_rfl : opAt F57.o13 1 = some (some 55, .nilCheck (.tmp 54), none)) rfl rfl (fun w' hS => val_nilCheck rfl) ?_
        refine yS (by kernel_rfl : opAt F57.o13 2 = some (some 56, .fieldAddr 93 (.tmp 55) 4, none)) rfl rfl (fun w' hS => val_fieldAddr (off := 4) (by kernel_rfl) rfl) ?_
        refine nS (by kernel_rfl : opAt F57.o13 3 = some (some 57, .load 22 (.tmp 56), none)) rfl rfl trivial (val_loadOwn hsb.at_ (by kernel_rfl) rfl rfl) ?_
        refine yS (by kernel_rfl : opAt F57.o13 4 = some (some 58, .move (.tmp 6), none)) rfl rfl (fun w' hS => val_move rfl) ?_
        refine oI (e' := 3) (by kernel_rfl : opAt F57.o13 5 = some (some 59, .indexAddr 22 (.tmp 57) (.tmp 58), none)) rfl rfl hy rfl (by kernel_rfl) rfl (by omega) (by omega) ?_
        intro g59 hg59
        try simp only [Int.toNat_natCast]
        refine oN (by kernel_rfl : opAt F57.o13 6 = some (some 60, .load 3 (.tmp 59), none)) rfl rfl trivial hy hg59 (by omega) (by kernel_rfl) rfl rfl ?_
        intro v60 g60
        try simp only [Int.toNat_natCast] at g60
        first | (obtain rfl := rv_nat.1 g60) | (obtain rfl := rv_int.1 g60)
        obtain ⟨q, hq⟩ : ∃ q, q = yl2[p]'(by omega) := ⟨_, rfl⟩
        rw [← hq]
        have hqg : gN yl2 p = q := by rw [hq]; exact getD_in _
        obtain ⟨r1, r2, r3, r4, r5⟩ := hB.flip hP q1 q2 q3 q6 hfl hp0 (row2 := fun j => if p = j then gN rl2 (gN yl2 p) else gN rl2 j) (if_pos rfl) (fun j hj => if_neg (fun e => hj e.symm))
        rw [hqg] at r1 r2 r3 r4 r5
        clear hq hqg
        refine yS (by kernel_rfl : opAt F57.o13 7 = some (some 7, .assign (.tmp 60), none)) rfl rfl (fun w' hS => val_assign rfl) ?_
        refine Sch.nil ?_
        refine run_seq (x := F57.c50) (y := F57.c51) (by kernel_rfl) ?_
        refine run_draw (id := 14) (ops := F57.o14) [13] (C) [(0, true), (1, true), (2, true), (3, true), (4, true), (5, true), (6, true), (7, true), (8, true), (9, true), (10, true), (11, false), (12, true), (13, false)] Try_mixed (by kernel_rfl) (by kernel_rfl) (by kernel_rfl) ?_
        intro w8 hs
        replace hF := hF.st hs
        replace hT := hT.trans hs (by simp)
        replace hsb := hsb.st hs (by first | decide | (simp <;> omega))
        replace hW := hW.st hs (by first | decide | (simp <;> omega))
        replace hu := hu.st hs (by first | decide | (simp <;> omega)) (by first | decide | (simp <;> omega))
        replace hv := hv.st hs (by first | decide | (simp <;> omega)) (by first | decide | (simp <;> omega))
        replace hr := hr.st hs (by first | decide | (simp <;> omega)) (by first | decide | (simp <;> omega))
        replace hy := hy.st hs (by first | decide | (simp <;> omega)) (by first | decide | (simp <;> omega))
        replace hl := hl.st hs (by first | decide | (simp <;> omega)) (by first | decide | (simp <;> omega))
        replace hcc := hcc.st hs (by first | decide | (simp <;> omega)) (by first | decide | (simp <;> omega))
        have hR := Stp.refl [13] w8 (C)
        refine yS (by kernel_rfl : opAt F57.o14 0 = some (some 61, .move (.tmp 0), none)) rfl rfl (fun w' hS => val_move rfl) ?_
        refine yS (by kernel_rfl : opAt F57.o14 1 = some (some 62, .nilCheck (.tmp 61), none)) rfl rfl (fun w' hS => val_nilCheck rfl) ?_
        refine yS (by kernel_rfl : opAt F57.o14 2 = some (some 63, .fieldAddr 93 (.tmp 62) 3, none)) rfl rfl (fun w' hS => val_fieldAddr (off := 3) (by kernel_rfl) rfl) ?_
        refine yS (by kernel_rfl : opAt F57.o14 3 = some (some 64, .load 22 (.tmp 63), none)) rfl rfl (fun w' hS => val_loadOwn (hsb.stay hS (by decide)) (by kernel_rfl) rfl rfl) ?_
        refine yS (by kernel_rfl : opAt F57.o14 4 = some (some 65, .move (.tmp 6), none)) rfl rfl (fun w' hS => val_move rfl) ?_
        refine yS (by kernel_rfl : opAt F57.o14 5 = some (some 66, .move (.tmp 0), none)) rfl rfl (fun w' hS => val_move rfl) ?_
        refine yS (by kernel_rfl : opAt F57.o14 6 = some (some 67, .nilCheck (.tmp 66), none)) rfl rfl (fun w' hS => val_nilCheck rfl) ?_
        refine yS (by kernel_rfl : opAt F57.o14 7 = some (some 68, .fieldAddr 93 (.tmp 67) 3, none)) rfl rfl (fun w' hS => val_fieldAddr (off := 3) (by kernel_rfl) rfl) ?_
        refine yS (by kernel_rfl : opAt F57.o14 8 = some (some 69, .load 22 (.tmp 68), none)) rfl rfl (fun w' hS => val_loadOwn (hsb.stay hS (by decide)) (by kernel_rfl) rfl rfl) ?_
        refine yS (by kernel_rfl : opAt F57.o14 9 = some (some 70, .move (.tmp 7), none)) rfl rfl (fun w' hS => val_move rfl) ?_
        refine oI (e' := 3) (by kernel_rfl : opAt F57.o14 10 = some (some 71, .indexAddr 22 (.tmp 69) (.tmp 70), none)) rfl rfl hr rfl (by kernel_rfl) rfl (by omega) (by omega) ?_
        intro g71 hg71
        try simp only [Int.toNat_natCast]
        refine oN (by kernel_rfl : opAt F57.o14 11 = some (some 72, .load 3 (.tmp 71), none)) rfl rfl hR.ext hr hg71 (by omega) (by kernel_rfl) rfl rfl ?_
        intro v72 g72
        try simp only [Int.toNat_natCast] at g72
        first | (obtain rfl := rv_nat.1 g72) | (obtain rfl := rv_int.1 g72)
        refine oI (e' := 3) (by kernel_rfl : opAt F57.o14 12 = some (some 73, .indexAddr 22 (.tmp 64) (.tmp 65), none)) rfl rfl hr rfl (by kernel_rfl) rfl (by omega) (by omega) ?_
        intro g73 hg73
        try simp only [Int.toNat_natCast]
        refine Sch.free rfl ?_
        refine aN (by kernel_rfl : opAt F57.o14 13 = some (none, .store 3 (.tmp 73) (.tmp 72), none)) rfl (a_storeO hr hg73 (by omega) rfl rfl (by kernel_rfl) (rv_nat.2 rfl)) ?_
        rintro _ w9 ⟨rfl, hs, hr⟩
        refine ⟨trivial, ?_⟩
        replace hF := hF.st hs
        replace hT := hT.trans hs (by simp)
        replace hsb := hsb.st hs (by first | decide | (simp <;> omega))
        replace hW := hW.st hs (by first | decide | (simp <;> omega))
        replace hu := hu.st hs (by first | decide | (simp <;> omega)) (by first | decide | (simp <;> omega))
        replace hv := hv.st hs (by first | decide | (simp <;> omega)) (by first | decide | (simp <;> omega))
        replace hy := hy.st hs (by first | decide | (simp <;> omega)) (by first | decide | (simp <;> omega))
        replace hl := hl.st hs (by first | decide | (simp <;> omega)) (by first | decide | (simp <;> omega))
        replace hcc := hcc.st hs (by first | decide | (simp <;> omega)) (by first | decide | (simp <;> omega))
        refine Sch.nil ?_
        refine run_plain (id := 15) (ops := F57.o15) [(0, true), (1, true)] (by kernel_rfl) (by kernel_rfl) ?_
        refine yS (by kernel_rfl : opAt F57.o15 0 = some (some 74, .move (.tmp 7), none)) rfl rfl (fun w' hS => val_move rfl) ?_
        refine yS (by kernel_rfl : opAt F57.o15 1 = some (some 6, .assign (.tmp 74), none)) rfl rfl (fun w' hS => val_assign rfl) ?_
        refine Sch.nil ?_
        refine run_inBlock ?_
        refine kp (sub_cons 0 rfl rfl (sub_cons 6 rfl rfl (sub_nil _))) (next3 (q, rl2.set p (rl2[q]'(by omega))) _ ⟨(by simp only [List.length_set]; exact hlr2), (by
            simp only
            have e : gN (rl2.set p (rl2[q]'(by omega))) = fun j => if p = j then gN rl2 q else gN rl2 j := by
              funext j
              show (rl2.set p _).getD j 0 = _
              rw [getD_set (by omega)]
              have e3 : rl2.getD q 0 = rl2[q]'(by omega) := getD_in _
              show _ = if p = j then rl2.getD q 0 else rl2.getD j 0
              rw [e3]
            rw [e]; exact r1), hF, hT, hsb, hW, hu, hv, hr, hy, hl, hcc⟩ (by
            simp only
            have h1 := hB.rkT q r2 r4
            rw [if_neg (fun e => by rw [e, q3] at r4; cases r4)]
            rcases r3 with r3 | r3
            · rw [if_pos r3]; omega
            · split <;> omega))
      · skip
        have hp0 : p = 0 := by omega
        subst hp0
        refine run_exit (id := 4) (by kernel_rfl) rfl ?_
        refine run_end0 Try.func57 rfl ?_
        exact ⟨ul2, vl2, rl2, yl2, ll3, cl3, rfl, hT, ⟨hsb, hW, hu, hv, hr, hy, hl, hcc, by omega, by omega, by omega, by omega, by omega, by omega⟩, hB.done hc hP q1 q2 hrz hfl⟩
    · skip
      have hrz : gN rl1 nx ≠ 0 := fun e => h51 (by rw [show gN rl1 nx = rl1[nx]'(by omega) from getD_in _] at e; omega)
      obtain ⟨hB2, hP2⟩ := hB.close hP q1 q2 q3 q6 hrz
      clear hrz h51
      refine run_skip (by kernel_rfl) ?_
      refine run_inBlock ?_
      refine kp (sub_cons 0 rfl rfl (sub_cons 6 rfl rfl (sub_nil _))) (next2 (nx, ul2, vl2, yl2, ll3, cl3, (fun j => if j = nx then T + 1 else rk j), T + 1) _ ⟨q2, q3, (by simp only; omega), hB2, (.inr hP2), hF, hT, hsb, hW, hu, hv, hr, hy, hl, hcc⟩ hct)
end Go.Proofs.Ytgooehopkmbkfaa
