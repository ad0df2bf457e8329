/- Steps through functions of the program. -/
import Derived.Test.YtgooehopkmbkfaaJD3
import Derived.Test.YtgooehopkmbkfaaL1
set_option linter.unusedVariables false
set_option linter.unusedSimpArgs false
set_option maxRecDepth 100000
set_option maxHeartbeats 4000000
namespace Go.Proofs.Ytgooehopkmbkfaa
open Go.K Go.K.Rep

/-- A solver and its lists. -/
structure SV (w : World) (C : Nat → Nat) (sb : Nat) (xw xu xv xr xy xl xc : Value) (wl : List (List Int)) (ul vl : List Int) (rl yl : List Nat) (ll : List Int) (cl : List Bool) : Prop where
  hsb : OwnB w C 10 sb (.cells [xw, xu, xv, xr, xy, xl, xc].toArray 93)
  hW : RV w (Mc C) wl xw
  hu : OwnL w C 11 3 xu ul
  hv : OwnL w C 12 3 xv vl
  hr : OwnL w C 13 3 xr rl
  hy : OwnL w C 14 3 xy yl
  hl : OwnL w C 15 3 xl ll
  hcc : OwnL w C 16 4 xc cl
  lens : ul.length = wl.length + 1 ∧ vl.length = wl.length + 1 ∧ rl.length = wl.length + 1 ∧ yl.length = wl.length + 1 ∧ ll.length = wl.length + 1 ∧ cl.length = wl.length + 1

namespace F61
noncomputable def c0 : Code := bodyOf Try.f61
noncomputable def c1 : Code := cl c0
noncomputable def o0 : Array Oper := rops c1
noncomputable def c2 : Code := cr c0
noncomputable def c3 : Code := cl c2
noncomputable def o1 : Array Oper := rops c3
noncomputable def c4 : Code := cr c2
noncomputable def c5 : Code := cl c4
noncomputable def o2 : Array Oper := rops c5
noncomputable def c6 : Code := cr c4
noncomputable def c7 : Code := cl c6
noncomputable def c8 : Code := cl c7
noncomputable def o3 : Array Oper := rops c8
noncomputable def c9 : Code := cr c7
noncomputable def c10 : Code := cl c9
noncomputable def c11 : Code := cl c10
noncomputable def c12 : Code := cl c11
noncomputable def c13 : Code := cl c12
noncomputable def o4 : Array Oper := rops c13
noncomputable def c14 : Code := cr c12
noncomputable def c15 : Code := cl c14
noncomputable def c16 : Code := cr c14
noncomputable def c17 : Code := cr c11
noncomputable def c18 : Code := cl c17
noncomputable def c19 : Code := cl c18
noncomputable def c20 : Code := cl c19
noncomputable def c21 : Code := cl c20
noncomputable def o6 : Array Oper := rops c21
noncomputable def c22 : Code := cr c20
noncomputable def c23 : Code := cl c22
noncomputable def c24 : Code := cr c22
noncomputable def c25 : Code := cr c19
noncomputable def c26 : Code := cl c25
noncomputable def c27 : Code := cl c26
noncomputable def o7 : Array Oper := rops c27
noncomputable def c28 : Code := cr c26
noncomputable def c29 : Code := cl c28
noncomputable def o8 : Array Oper := rops c29
noncomputable def c30 : Code := cr c28
noncomputable def c31 : Code := cl c30
noncomputable def o9 : Array Oper := rops c31
noncomputable def c32 : Code := cr c30
noncomputable def c33 : Code := cr c25
noncomputable def c34 : Code := cl c33
noncomputable def o10 : Array Oper := rops c34
noncomputable def c35 : Code := cr c33
noncomputable def c36 : Code := cl c35
noncomputable def o11 : Array Oper := rops c36
noncomputable def c37 : Code := cr c35
noncomputable def c38 : Code := cr c17
noncomputable def o5 : Array Oper := rops c38
noncomputable def c39 : Code := cr c6
noncomputable def c40 : Code := cl c39
noncomputable def c41 : Code := cl c40
noncomputable def o12 : Array Oper := rops c41
noncomputable def c42 : Code := cr c40
noncomputable def c43 : Code := cl c42
noncomputable def c44 : Code := cl c43
noncomputable def c45 : Code := cl c44
noncomputable def c46 : Code := cl c45
noncomputable def o13 : Array Oper := rops c46
noncomputable def c47 : Code := cr c45
noncomputable def c48 : Code := cl c47
noncomputable def c49 : Code := cr c47
noncomputable def c50 : Code := cr c44
noncomputable def c51 : Code := cl c50
noncomputable def c52 : Code := cl c51
noncomputable def c53 : Code := cl c52
noncomputable def o15 : Array Oper := rops c53
noncomputable def c54 : Code := cr c52
noncomputable def c55 : Code := cl c54
noncomputable def c56 : Code := cl c55
noncomputable def o16 : Array Oper := rops c56
noncomputable def c57 : Code := cr c55
noncomputable def o17 : Array Oper := rops c57
noncomputable def c58 : Code := cr c54
noncomputable def o18 : Array Oper := rops c58
noncomputable def c59 : Code := cr c50
noncomputable def o14 : Array Oper := rops c59
noncomputable def c60 : Code := cr c39
noncomputable def c61 : Code := cl c60
noncomputable def o19 : Array Oper := rops c61
noncomputable def c62 : Code := cr c60
end F61
/-- 'reach'. -/
theorem reach_ok {w₀ : World} {C : Nat → Nat} {sb : Nat} {xw xu xv xr xy xl xc : Value} {wl : List (List Int)} {ul vl : List Int} {rl yl : List Nat} {ll : List Int} {cl : List Bool} {k n a T : Nat} {W : Int} {rk : Nat → Nat} (hF : Lim w₀ C) (hs : SV w₀ C sb xw xu xv xr xy xl xc wl ul vl rl yl ll cl)
    (hk : wl.length = k) (hrows : ∀ r ∈ wl, r.length = k) (hB : HB k (cW wl) W n (gI ul) (gI vl) (gN rl) (gN yl) (gB cl) rk T) (hc : ∀ r j, 1 ≤ r → r ≤ k → 1 ≤ j → j ≤ k → -W ≤ cW wl r j ∧ cW wl r j ≤ 0) (hW0 : 0 ≤ W) (hW1 : W ≤ 288230376151711744) (hWk : (k + 1) * W ≤ 288230376151711744) (hkb : k ≤ 1000000)
    (hp : HP1 k 4611686018427387904 n (gI ul) (gI ll) (gB cl) ∧ a = 0 ∨ HP2 k (cW wl) W n a (gI ul) (gI vl) (gN rl) (gN yl) (gI ll) (gB cl)) (hat : a ≤ k) (hca : gB cl a = true) :
    Calls Try.prog 61 #[.pointer (some ⟨sb, 0, none⟩), .int .i64 a] w₀ (Ret fun v w' => ∃ (next : Nat) (ul' vl' : List Int) (yl' : List Nat) (ll' : List Int), v = .int .i64 next ∧ Stp [11, 12, 14, 15] w₀ C w' C ∧ SV w' C sb xw xu xv xr xy xl xc wl ul' vl' rl yl' ll' cl ∧ 1 ≤ next ∧ next ≤ k ∧ gB cl next = false ∧
      HB k (cW wl) W n (gI ul') (gI vl') (gN rl) (gN yl') (gB cl) rk T ∧ HP2 k (cW wl) W n (k + 1) (gI ul') (gI vl') (gN rl) (gN yl') (gI ll') (gB cl) ∧ gI ll' next = 0) := by
  obtain ⟨hsb, hW, hu, hv, hr, hy, hl, hcc, e1, e2, e3, e4, e5, e6⟩ := hs
  have hT := Stp.refl [11, 12, 14, 15] w₀ C
  have h3W : 3 * W < 4611686018427387904 := by omega
  obtain ⟨hbu, hbv, hcB, hLB⟩ := reach_bnd hB hc hW0 hW1 hWk h3W hp hat hca
  clear hW0 hW1 hWk
  replace h3W : Hid (3 * W < 4611686018427387904) := h3W
  replace hp : Hid (HP1 k 4611686018427387904 n (gI ul) (gI ll) (gB cl) ∧ a = 0 ∨ HP2 k (cW wl) W n a (gI ul) (gI vl) (gN rl) (gN yl) (gI ll) (gB cl)) := hp
  refine calls_start (c := F61.c0) (N := 154) [.pointer (some ⟨sb, 0, none⟩), .int .i64 a] Try.func61 (by kernel_rfl) (by kernel_rfl) (by kernel_rfl) ?_
  show Run _ _ _ _ [(0, .pointer (some ⟨sb, 0, none⟩)), (1, .int .i64 a)] _ _
  refine run_seq (x := F61.c1) (y := F61.c2) (by kernel_rfl) ?_
  refine run_plain (id := 0) (ops := F61.o0) [(0, true)] (by kernel_rfl) (by kernel_rfl) ?_
  refine yS (by kernel_rfl : opAt F61.o0 0 = some (some 4, .assign (.const (.int .i64 0)), none)) rfl rfl (fun w' hS => val_assign rfl) ?_
  refine Sch.nil ?_
  refine run_seq (x := F61.c3) (y := F61.c4) (by kernel_rfl) ?_
  refine run_draw (id := 1) (ops := F61.o1) [] (C) [(0, true), (1, true), (2, true), (3, true), (4, true), (5, true), (6, true), (7, true), (8, true), (9, true), (10, true), (11, true), (12, true), (13, true)] Try_mixed (by kernel_rfl) (by kernel_rfl) (by kernel_rfl) ?_
  intro w1 hs
  replace hF := hF.st hs
  replace hT := hT.trans hs (by simp)
  replace hsb := hsb.st hs (by first | decide | (simp <;> omega))
  replace hW := hW.st hs (by first | decide | (simp <;> omega))
  replace hu := hu.st hs (by first | decide | (simp <;> omega)) (by first | decide | (simp <;> omega))
  replace hv := hv.st hs (by first | decide | (simp <;> omega)) (by first | decide | (simp <;> omega))
  replace hr := hr.st hs (by first | decide | (simp <;> omega)) (by first | decide | (simp <;> omega))
  replace hy := hy.st hs (by first | decide | (simp <;> omega)) (by first | decide | (simp <;> omega))
  replace hl := hl.st hs (by first | decide | (simp <;> omega)) (by first | decide | (simp <;> omega))
  replace hcc := hcc.st hs (by first | decide | (simp <;> omega)) (by first | decide | (simp <;> omega))
  refine yS (by kernel_rfl : opAt F61.o1 0 = some (some 12, .move (.tmp 0), none)) rfl rfl (fun w' hS => val_move rfl) ?_
  refine yS (by kernel_rfl : opAt F61.o1 1 = some (some 13, .nilCheck (.tmp 12), none)) rfl rfl (fun w' hS => val_nilCheck rfl) ?_
  refine yS (by kernel_rfl : opAt F61.o1 2 = some (some 14, .fieldAddr 93 (.tmp 13) 0, none)) rfl rfl (fun w' hS => val_fieldAddr (off := 0) (by kernel_rfl) rfl) ?_
  refine yS (by kernel_rfl : opAt F61.o1 3 = some (some 15, .load 70 (.tmp 14), none)) rfl rfl (fun w' hS => val_loadOwn (hsb.stay hS (by decide)) (by kernel_rfl) rfl rfl) ?_
  refine yS (by kernel_rfl : opAt F61.o1 4 = some (some 16, .call { callee := .builtin .len, args := #[(.tmp 15)], argTypes := #[70] }, none)) rfl rfl (fun w' hS => hW.lenV rfl Try.underlying70 w' ) ?_
  refine yS (by kernel_rfl : opAt F61.o1 5 = some (some 17, .move (.tmp 0), none)) rfl rfl (fun w' hS => val_move rfl) ?_
  refine yS (by kernel_rfl : opAt F61.o1 6 = some (some 18, .nilCheck (.tmp 17), none)) rfl rfl (fun w' hS => val_nilCheck rfl) ?_
  refine yS (by kernel_rfl : opAt F61.o1 7 = some (some 19, .fieldAddr 93 (.tmp 18) 3, none)) rfl rfl (fun w' hS => val_fieldAddr (off := 3) (by kernel_rfl) rfl) ?_
  refine yS (by kernel_rfl : opAt F61.o1 8 = some (some 20, .load 22 (.tmp 19), none)) rfl rfl (fun w' hS => val_loadOwn (hsb.stay hS (by decide)) (by kernel_rfl) rfl rfl) ?_
  refine yS (by kernel_rfl : opAt F61.o1 9 = some (some 21, .move (.tmp 1), none)) rfl rfl (fun w' hS => val_move rfl) ?_
  refine oI (e' := 3) (by kernel_rfl : opAt F61.o1 10 = some (some 22, .indexAddr 22 (.tmp 20) (.tmp 21), none)) rfl rfl hr rfl (by kernel_rfl) rfl (by omega) (by omega) ?_
  intro g22 hg22
  try simp only [Int.toNat_natCast]
  refine oS (I := []) (by kernel_rfl : opAt F61.o1 11 = some (some 23, .load 3 (.tmp 22), none)) rfl rfl hr hg22 (fun w' hS => hr.stay hg22 hS (by first | decide | (simp <;> omega))) (by omega) (by kernel_rfl) rfl rfl ?_
  intro v23 g23
  try simp only [Int.toNat_natCast] at g23
  first | (obtain rfl := rv_nat.1 g23) | (obtain rfl := rv_int.1 g23)
  refine yS (by kernel_rfl : opAt F61.o1 12 = some (some 5, .assign (.tmp 16), none)) rfl rfl (fun w' hS => val_assign rfl) ?_
  refine yS (by kernel_rfl : opAt F61.o1 13 = some (some 6, .assign (.tmp 23), none)) rfl rfl (fun w' hS => val_assign rfl) ?_
  refine Sch.nil ?_
  obtain ⟨i, hi⟩ : ∃ i, i = rl[a]'(by omega) := ⟨_, rfl⟩
  rw [← hi]
  have hig : gN rl a = i := by rw [hi]; exact getD_in _
  obtain ⟨hi1, hi2⟩ : 1 ≤ i ∧ i ≤ k := by
    have h1 := hB.clrow hat hca
    have h2 := hB.nk
    rw [hig] at h1; omega
  clear hi
  obtain ⟨i0, rfl⟩ : ∃ i0, i = i0 + 1 := ⟨i - 1, by omega⟩
  clear hi1
  rw [hig] at hLB
  replace hig : Hid (gN rl a = i0 + 1) := hig
  have hui := hbu (i0 + 1) hi2
  rw [show gI ul (i0 + 1) = ul[i0 + 1]'(by omega) from getD_in _] at hui
  refine run_seq (x := F61.c5) (y := F61.c6) (by kernel_rfl) ?_
  refine run_plain (id := 2) (ops := F61.o2) [(0, true), (1, true)] (by kernel_rfl) (by kernel_rfl) ?_
  refine yS (by kernel_rfl : opAt F61.o2 0 = some (some 7, .assign (.const (.int .i64 4611686018427387904)), none)) rfl rfl (fun w' hS => val_assign rfl) ?_
  refine yS (by kernel_rfl : opAt F61.o2 1 = some (some 8, .assign (.const (.int .i64 0)), none)) rfl rfl (fun w' hS => val_assign rfl) ?_
  refine Sch.nil ?_
  refine run_seq (x := F61.c7) (y := F61.c39) (by kernel_rfl) ?_
  refine run_seq (x := F61.c8) (y := F61.c9) (by kernel_rfl) ?_
  refine run_plain (id := 3) (ops := F61.o3) [(0, true)] (by kernel_rfl) (by kernel_rfl) ?_
  refine yS (by kernel_rfl : opAt F61.o3 0 = some (some 9, .assign (.const (.int .i64 1)), none)) rfl rfl (fun w' hS => val_assign rfl) ?_
  refine Sch.nil ?_
  refine run_block (x := F61.c10) (id := 0) (by kernel_rfl) ?_
  
  refine run_loop (ι := Nat × (List Nat) × (List Int) × Int × Nat) (I := fun x w => x.1 ≤ k ∧ x.2.1.length = k + 1 ∧ x.2.2.1.length = k + 1 ∧ RL1 (cW wl) (gI ul) (gI vl) (gB cl) (gI ll) (gN yl) (i0 + 1) a k (x.1 + 1) (gI x.2.2.1) (gN x.2.1) ∧ RLD (gB cl) (lS1 (cW wl) (gI ul) (gI vl) (gI ll) (i0 + 1)) 4611686018427387904 (x.1 + 1) x.2.2.2.1 x.2.2.2.2 ∧ Lim w C ∧ Stp [11, 12, 14, 15] w₀ C w C ∧ OwnB w C 10 sb (.cells [xw, xu, xv, xr, xy, xl, xc].toArray 93) ∧ RV w (Mc C) wl xw ∧ OwnL w C 11 3 xu ul ∧ OwnL w C 12 3 xv vl ∧ OwnL w C 13 3 xr rl ∧ OwnL w C 14 3 xy x.2.1 ∧ OwnL w C 15 3 xl x.2.2.1 ∧ OwnL w C 16 4 xc cl) (e := fun x => [(0, .pointer (some ⟨sb, 0, none⟩)), (1, .int .i64 a), (5, .int .i64 wl.length), (6, .int .i64 ((i0 + 1 : Nat) : Int)), (7, .int .i64 x.2.2.2.1), (8, .int .i64 x.2.2.2.2), (9, .int .i64 ((x.1 + 1 : Nat) : Int))]) (m := fun x => k - x.1) (x₀ := (0, yl, ll, 4611686018427387904, 0)) (body := F61.c11) (by kernel_rfl) (sub_cons 0 rfl rfl (sub_cons 1 rfl rfl (sub_cons 5 rfl rfl (sub_cons 6 rfl rfl (sub_cons 7 rfl rfl (sub_cons 8 rfl rfl (sub_cons 9 rfl rfl (sub_nil _)))))))) ?_ ?_
  · exact ⟨Nat.zero_le _, (by simp only; omega), (by simp only; omega), RL1.start, RLD.start, hF, hT, hsb, hW, hu, hv, hr, hy, hl, hcc⟩
  intro ⟨j0, yl1, ll1, dl, nx⟩ w2 hI next
  obtain ⟨hj, hly, hll, hR, hD, hF, hT, hsb, hW, hu, hv, hr, hy, hl, hcc⟩ := hI
  try simp only at hj hly hll hR hD hF hT hsb hW hu hv hr hy hl hcc
  have next1 := next
  clear next
  show Run _ _ _ _ [(0, .pointer (some ⟨sb, 0, none⟩)), (1, .int .i64 a), (5, .int .i64 wl.length), (6, .int .i64 ((i0 + 1 : Nat) : Int)), (7, .int .i64 dl), (8, .int .i64 nx), (9, .int .i64 ((j0 + 1 : Nat) : Int))] _ _
  refine run_seq (x := F61.c12) (y := F61.c17) (by kernel_rfl) ?_
  refine run_seq (x := F61.c13) (y := F61.c14) (by kernel_rfl) ?_
  refine run_plain (id := 4) (ops := F61.o4) [(0, true), (1, true), (2, true)] (by kernel_rfl) (by kernel_rfl) ?_
  refine yS (by kernel_rfl : opAt F61.o4 0 = some (some 24, .move (.tmp 9), none)) rfl rfl (fun w' hS => val_move rfl) ?_
  refine yS (by kernel_rfl : opAt F61.o4 1 = some (some 25, .move (.tmp 5), none)) rfl rfl (fun w' hS => val_move rfl) ?_
  refine yS (by kernel_rfl : opAt F61.o4 2 = some (some 26, .binOp .leq 3 (.tmp 24) (.tmp 25) 3, none)) rfl rfl (fun w' hS => val_leq rfl rfl) ?_
  refine Sch.nil ?_
  refine run_if (x := F61.c15) (y := F61.c16) (o := .tmp 26) (by kernel_rfl) rfl (fun h26 => ?_) (fun h26 => ?_)
  · skip
    have hjk : j0 + 1 ≤ k := by omega
    refine run_skip (by kernel_rfl) ?_
    refine run_seq (x := F61.c18) (y := F61.c38) (by kernel_rfl) ?_
    refine run_block (x := F61.c19) (id := 1) (by kernel_rfl) ?_
    refine run_seq (x := F61.c20) (y := F61.c25) (by kernel_rfl) ?_
    refine run_seq (x := F61.c21) (y := F61.c22) (by kernel_rfl) ?_
    refine run_plain (id := 6) (ops := F61.o6) [(0, true), (1, true), (2, true), (3, false), (4, true), (5, true), (6, false)] (by kernel_rfl) (by kernel_rfl) ?_
    refine yS (by kernel_rfl : opAt F61.o6 0 = some (some 29, .move (.tmp 0), none)) rfl rfl (fun w' hS => val_move rfl) ?_
    refine yS (by kernel_rfl : opAt F61.o6 1 = some (some 30, .nilCheck (.tmp 29), none)) rfl rfl (fun w' hS => val_nilCheck rfl) ?_
    refine yS (by kernel_rfl : opAt F61.o6 2 = some (some 31, .fieldAddr 93 (.tmp 30) 6, none)) rfl rfl (fun w' hS => val_fieldAddr (off := 6) (by kernel_rfl) rfl) ?_
    refine nS (by kernel_rfl : opAt F61.o6 3 = some (some 32, .load 48 (.tmp 31), none)) rfl rfl trivial (val_loadOwn hsb.at_ (by kernel_rfl) rfl rfl) ?_
    refine yS (by kernel_rfl : opAt F61.o6 4 = some (some 33, .move (.tmp 9), none)) rfl rfl (fun w' hS => val_move rfl) ?_
    refine oI (e' := 4) (by kernel_rfl : opAt F61.o6 5 = some (some 34, .indexAddr 48 (.tmp 32) (.tmp 33), none)) rfl rfl hcc rfl (by kernel_rfl) rfl (by omega) (by omega) ?_
    intro g34 hg34
    try simp only [Int.toNat_natCast]
    refine oN (by kernel_rfl : opAt F61.o6 6 = some (some 35, .load 4 (.tmp 34), none)) rfl rfl trivial hcc hg34 (by omega) (by kernel_rfl) rfl rfl ?_
    intro v35 g35
    try simp only [Int.toNat_natCast] at g35
    obtain rfl := rv_bool.1 g35
    refine Sch.nil ?_
    refine run_cond (x := F61.c23) (y := F61.c24) (o := .tmp 35) (by kernel_rfl) rfl (fun h35 => ?_) (fun h35 => ?_)
    · skip
      have hcj : gB cl (j0 + 1) = true := (getD_in (by omega)).trans h35
      refine run_exit (id := 1) (by kernel_rfl) rfl ?_
      refine run_plain (id := 5) (ops := F61.o5) [(0, true), (1, true), (2, true)] (by kernel_rfl) (by kernel_rfl) ?_
      refine yS (by kernel_rfl : opAt F61.o5 0 = some (some 27, .move (.tmp 9), none)) rfl rfl (fun w' hS => val_move rfl) ?_
      refine yS (by kernel_rfl : opAt F61.o5 1 = some (some 28, .binOp .add 3 (.tmp 27) (.const (.int .i64 1)) 3, none)) rfl rfl (fun w' hS => val_addi rfl rfl (by omega) (by omega)) ?_
      refine yS (by kernel_rfl : opAt F61.o5 2 = some (some 9, .assign (.tmp 28), none)) rfl rfl (fun w' hS => val_assign rfl) ?_
      refine Sch.nil ?_
      refine kp (sub_cons 0 rfl rfl (sub_cons 1 rfl rfl (sub_cons 5 rfl rfl (sub_cons 6 rfl rfl (sub_cons 7 rfl rfl (sub_cons 8 rfl rfl (sub_cons 9 rfl (eq_int (by omega)) (sub_nil _)))))))) (next1 (j0 + 1, yl1, ll1, dl, nx) _ ⟨(by first | omega | (simp only; omega)), (by first | omega | (simp only; omega)), (by first | omega | (simp only; omega)), (hR.skip hcj), (hD.skip hcj), hF, hT, hsb, hW, hu, hv, hr, hy, hl, hcc⟩ (by first | omega | (simp only; omega)))
    · skip
      have hcj : gB cl (j0 + 1) = false := (getD_in (by omega)).trans h35
      have hvj := hbv (j0 + 1) hjk
      rw [show gI vl (j0 + 1) = vl[j0 + 1]'(by omega) from getD_in _] at hvj
      have hlb := hLB (j0 + 1) (by omega) hjk hcj
      have hrl : (wl[i0]'(by omega)).length = k := hrows _ (List.getElem_mem _)
      refine run_skip (by kernel_rfl) ?_
      refine run_seq (x := F61.c26) (y := F61.c33) (by kernel_rfl) ?_
      refine run_seq (x := F61.c27) (y := F61.c28) (by kernel_rfl) ?_
      refine run_draw (id := 7) (ops := F61.o7) [] (C) [(0, true), (1, true), (2, true), (3, true), (4, true), (5, true), (6, true), (7, true), (8, true), (9, true), (10, true), (11, true), (12, true), (13, true), (14, true), (15, true), (16, true), (17, true), (18, true), (19, true), (20, true), (21, true), (22, true), (23, true), (24, true), (25, true), (26, true), (27, true), (28, true), (29, true)] Try_mixed (by kernel_rfl) (by kernel_rfl) (by kernel_rfl) ?_
      intro w3 hs
      replace hF := hF.st hs
      replace hT := hT.trans hs (by simp)
      replace hsb := hsb.st hs (by first | decide | (simp <;> omega))
      replace hW := hW.st hs (by first | decide | (simp <;> omega))
      replace hu := hu.st hs (by first | decide | (simp <;> omega)) (by first | decide | (simp <;> omega))
      replace hv := hv.st hs (by first | decide | (simp <;> omega)) (by first | decide | (simp <;> omega))
      replace hr := hr.st hs (by first | decide | (simp <;> omega)) (by first | decide | (simp <;> omega))
      replace hy := hy.st hs (by first | decide | (simp <;> omega)) (by first | decide | (simp <;> omega))
      replace hl := hl.st hs (by first | decide | (simp <;> omega)) (by first | decide | (simp <;> omega))
      replace hcc := hcc.st hs (by first | decide | (simp <;> omega)) (by first | decide | (simp <;> omega))
      refine yS (by kernel_rfl : opAt F61.o7 0 = some (some 36, .move (.tmp 0), none)) rfl rfl (fun w' hS => val_move rfl) ?_
      refine yS (by kernel_rfl : opAt F61.o7 1 = some (some 37, .nilCheck (.tmp 36), none)) rfl rfl (fun w' hS => val_nilCheck rfl) ?_
      refine yS (by kernel_rfl : opAt F61.o7 2 = some (some 38, .fieldAddr 93 (.tmp 37) 0, none)) rfl rfl (fun w' hS => val_fieldAddr (off := 0) (by kernel_rfl) rfl) ?_
      refine yS (by kernel_rfl : opAt F61.o7 3 = some (some 39, .load 70 (.tmp 38), none)) rfl rfl (fun w' hS => val_loadOwn (hsb.stay hS (by decide)) (by kernel_rfl) rfl rfl) ?_
      refine yS (by kernel_rfl : opAt F61.o7 4 = some (some 40, .move (.tmp 6), none)) rfl rfl (fun w' hS => val_move rfl) ?_
      refine yS (by kernel_rfl : opAt F61.o7 5 = some (some 41, .binOp .sub 3 (.tmp 40) (.const (.int .i64 1)) 3, none)) rfl rfl (fun w' hS => val_subi rfl rfl (by omega) (by omega)) ?_
      refine iS (e := 22) (by kernel_rfl : opAt F61.o7 6 = some (some 42, .indexAddr 70 (.tmp 39) (.tmp 41), none)) rfl rfl hW rfl (by kernel_rfl) rfl (by omega) (by omega) ?_
      intro b42 o42 h42
      try simp only [Int.toNat_natCast] at h42
      simp only [show (((i0 + 1 : Nat) : Int) - 1).toNat = i0 from by omega] at h42
      refine lS (by kernel_rfl : opAt F61.o7 7 = some (some 43, .load 22 (.tmp 42), none)) rfl rfl (fun w' hS => h42.stay hS (by first | decide | (simp <;> omega))) h42 (by kernel_rfl) rfl rfl ?_
      intro v43 g43
      refine yS (by kernel_rfl : opAt F61.o7 8 = some (some 44, .move (.tmp 9), none)) rfl rfl (fun w' hS => val_move rfl) ?_
      refine yS (by kernel_rfl : opAt F61.o7 9 = some (some 45, .binOp .sub 3 (.tmp 44) (.const (.int .i64 1)) 3, none)) rfl rfl (fun w' hS => val_subi rfl rfl (by omega) (by omega)) ?_
      refine iS (e := 3) (by kernel_rfl : opAt F61.o7 10 = some (some 46, .indexAddr 22 (.tmp 43) (.tmp 45), none)) rfl rfl g43 rfl (by kernel_rfl) rfl (by omega) (by omega) ?_
      intro b46 o46 h46
      try simp only [Int.toNat_natCast] at h46
      simp only [show (((j0 + 1 : Nat) : Int) - 1).toNat = j0 from by omega] at h46
      refine lS (by kernel_rfl : opAt F61.o7 11 = some (some 47, .load 3 (.tmp 46), none)) rfl rfl (fun w' hS => h46.stay hS (by first | decide | (simp <;> omega))) h46 (by kernel_rfl) rfl rfl ?_
      intro v47 g47
      first | (obtain rfl := rv_nat.1 g47) | (obtain rfl := rv_int.1 g47)
      obtain ⟨x, hx⟩ : ∃ x, x = (wl[i0]'(by omega))[j0]'(by omega) := ⟨_, rfl⟩
      rw [← hx]
      have hcx : cW wl (i0 + 1) (j0 + 1) = -x := by rw [hx]; exact cW_at (r := i0 + 1) (j := j0 + 1) (by simp only [Nat.add_sub_cancel]; omega) (by simp only [Nat.add_sub_cancel]; omega)
      have hcb := hcB (i0 + 1) (j0 + 1) (by omega) hi2 (by omega) hjk
      rw [hcx] at hcb
      refine yS (by kernel_rfl : opAt F61.o7 12 = some (some 48, .unOp .neg 3 (.tmp 47), none)) rfl rfl (fun w' hS => val_negi rfl (by omega) (by omega)) ?_
      refine yS (by kernel_rfl : opAt F61.o7 13 = some (some 49, .move (.tmp 0), none)) rfl rfl (fun w' hS => val_move rfl) ?_
      refine yS (by kernel_rfl : opAt F61.o7 14 = some (some 50, .nilCheck (.tmp 49), none)) rfl rfl (fun w' hS => val_nilCheck rfl) ?_
      refine yS (by kernel_rfl : opAt F61.o7 15 = some (some 51, .fieldAddr 93 (.tmp 50) 1, none)) rfl rfl (fun w' hS => val_fieldAddr (off := 1) (by kernel_rfl) rfl) ?_
      refine yS (by kernel_rfl : opAt F61.o7 16 = some (some 52, .load 22 (.tmp 51), none)) rfl rfl (fun w' hS => val_loadOwn (hsb.stay hS (by decide)) (by kernel_rfl) rfl rfl) ?_
      refine yS (by kernel_rfl : opAt F61.o7 17 = some (some 53, .move (.tmp 6), none)) rfl rfl (fun w' hS => val_move rfl) ?_
      refine oI (e' := 3) (by kernel_rfl : opAt F61.o7 18 = some (some 54, .indexAddr 22 (.tmp 52) (.tmp 53), none)) rfl rfl hu rfl (by kernel_rfl) rfl (by omega) (by omega) ?_
      intro g54 hg54
      try simp only [Int.toNat_natCast]
      refine oS (I := []) (by kernel_rfl : opAt F61.o7 19 = some (some 55, .load 3 (.tmp 54), none)) rfl rfl hu hg54 (fun w' hS => hu.stay hg54 hS (by first | decide | (simp <;> omega))) (by omega) (by kernel_rfl) rfl rfl ?_
      intro v55 g55
      try simp only [Int.toNat_natCast] at g55
      first | (obtain rfl := rv_nat.1 g55) | (obtain rfl := rv_int.1 g55)
      refine yS (by kernel_rfl : opAt F61.o7 20 = some (some 56, .binOp .sub 3 (.tmp 48) (.tmp 55) 3, none)) rfl rfl (fun w' hS => val_subi rfl rfl (by omega) (by omega)) ?_
      refine yS (by kernel_rfl : opAt F61.o7 21 = some (some 57, .move (.tmp 0), none)) rfl rfl (fun w' hS => val_move rfl) ?_
      refine yS (by kernel_rfl : opAt F61.o7 22 = some (some 58, .nilCheck (.tmp 57), none)) rfl rfl (fun w' hS => val_nilCheck rfl) ?_
      refine yS (by kernel_rfl : opAt F61.o7 23 = some (some 59, .fieldAddr 93 (.tmp 58) 2, none)) rfl rfl (fun w' hS => val_fieldAddr (off := 2) (by kernel_rfl) rfl) ?_
      refine yS (by kernel_rfl : opAt F61.o7 24 = some (some 60, .load 22 (.tmp 59), none)) rfl rfl (fun w' hS => val_loadOwn (hsb.stay hS (by decide)) (by kernel_rfl) rfl rfl) ?_
      refine yS (by kernel_rfl : opAt F61.o7 25 = some (some 61, .move (.tmp 9), none)) rfl rfl (fun w' hS => val_move rfl) ?_
      refine oI (e' := 3) (by kernel_rfl : opAt F61.o7 26 = some (some 62, .indexAddr 22 (.tmp 60) (.tmp 61), none)) rfl rfl hv rfl (by kernel_rfl) rfl (by omega) (by omega) ?_
      intro g62 hg62
      try simp only [Int.toNat_natCast]
      refine oS (I := []) (by kernel_rfl : opAt F61.o7 27 = some (some 63, .load 3 (.tmp 62), none)) rfl rfl hv hg62 (fun w' hS => hv.stay hg62 hS (by first | decide | (simp <;> omega))) (by omega) (by kernel_rfl) rfl rfl ?_
      intro v63 g63
      try simp only [Int.toNat_natCast] at g63
      first | (obtain rfl := rv_nat.1 g63) | (obtain rfl := rv_int.1 g63)
      refine yS (by kernel_rfl : opAt F61.o7 28 = some (some 64, .binOp .sub 3 (.tmp 56) (.tmp 63) 3, none)) rfl rfl (fun w' hS => val_subi rfl rfl (by omega) (by omega)) ?_
      refine yS (by kernel_rfl : opAt F61.o7 29 = some (some 10, .assign (.tmp 64), none)) rfl rfl (fun w' hS => val_assign rfl) ?_
      refine Sch.nil ?_
      have hd : -x - ul[i0 + 1]'(by omega) - vl[j0 + 1]'(by omega) = dS (cW wl) (gI ul) (gI vl) (i0 + 1) (j0 + 1) := by
        unfold dS; rw [hcx, show gI ul (i0 + 1) = ul[i0 + 1]'(by omega) from getD_in _, show gI vl (j0 + 1) = vl[j0 + 1]'(by omega) from getD_in _]
      rw [hd]
      clear hd hcx hcb hx hvj
      have hcur := hR.cur (by omega) hjk hcj
      rw [show gI ll1 (j0 + 1) = ll1[j0 + 1]'(by omega) from getD_in _] at hcur
      obtain ⟨d, hd⟩ : ∃ d, d = dS (cW wl) (gI ul) (gI vl) (i0 + 1) (j0 + 1) := ⟨_, rfl⟩
      rw [← hd]
      rw [← hd] at hlb
      obtain ⟨lm, hlm⟩ : ∃ lm, lm = lS1 (cW wl) (gI ul) (gI vl) (gI ll) (i0 + 1) (j0 + 1) := ⟨_, rfl⟩
      rw [← hlm] at hlb
      refine run_seq (x := F61.c29) (y := F61.c30) (by kernel_rfl) ?_
      refine run_plain (id := 8) (ops := F61.o8) [(0, true), (1, true), (2, true), (3, true), (4, false), (5, true), (6, true), (7, false), (8, true)] (by kernel_rfl) (by kernel_rfl) ?_
      refine yS (by kernel_rfl : opAt F61.o8 0 = some (some 65, .move (.tmp 10), none)) rfl rfl (fun w' hS => val_move rfl) ?_
      refine yS (by kernel_rfl : opAt F61.o8 1 = some (some 66, .move (.tmp 0), none)) rfl rfl (fun w' hS => val_move rfl) ?_
      refine yS (by kernel_rfl : opAt F61.o8 2 = some (some 67, .nilCheck (.tmp 66), none)) rfl rfl (fun w' hS => val_nilCheck rfl) ?_
      refine yS (by kernel_rfl : opAt F61.o8 3 = some (some 68, .fieldAddr 93 (.tmp 67) 5, none)) rfl rfl (fun w' hS => val_fieldAddr (off := 5) (by kernel_rfl) rfl) ?_
      refine nS (by kernel_rfl : opAt F61.o8 4 = some (some 69, .load 22 (.tmp 68), none)) rfl rfl trivial (val_loadOwn hsb.at_ (by kernel_rfl) rfl rfl) ?_
      refine yS (by kernel_rfl : opAt F61.o8 5 = some (some 70, .move (.tmp 9), none)) rfl rfl (fun w' hS => val_move rfl) ?_
      refine oI (e' := 3) (by kernel_rfl : opAt F61.o8 6 = some (some 71, .indexAddr 22 (.tmp 69) (.tmp 70), none)) rfl rfl hl rfl (by kernel_rfl) rfl (by omega) (by omega) ?_
      intro g71 hg71
      try simp only [Int.toNat_natCast]
      refine oN (by kernel_rfl : opAt F61.o8 7 = some (some 72, .load 3 (.tmp 71), none)) rfl rfl trivial hl hg71 (by omega) (by kernel_rfl) rfl rfl ?_
      intro v72 g72
      try simp only [Int.toNat_natCast] at g72
      first | (obtain rfl := rv_nat.1 g72) | (obtain rfl := rv_int.1 g72)
      refine yS (by kernel_rfl : opAt F61.o8 8 = some (some 73, .binOp .lss 3 (.tmp 65) (.tmp 72) 3, none)) rfl rfl (fun w' hS => val_lss rfl rfl) ?_
      refine Sch.nil ?_
      refine run_if (x := F61.c31) (y := F61.c32) (o := .tmp 73) (by kernel_rfl) rfl (fun h73 => ?_) (fun h73 => ?_)
      · skip
        have hlt : dS (cW wl) (gI ul) (gI vl) (i0 + 1) (j0 + 1) < gI ll (j0 + 1) := by rw [← hd, ← hcur]; exact h73
        have hR2 := hR.upd hcj hlt (least2 := gI (ll1.set (j0 + 1) d)) (way2 := gN (yl1.set (j0 + 1) a)) (fun q => by rw [← hd]; exact getD_set (by omega)) (fun q => getD_set (by omega))
        have hnl : (ll1.set (j0 + 1) d).length = k + 1 := by rw [List.length_set]; exact hll
        have hny : (yl1.set (j0 + 1) a).length = k + 1 := by rw [List.length_set]; exact hly
        have hv2 : (ll1.set (j0 + 1) d)[j0 + 1]'(by omega) = lm := by rw [List.getElem_set_self, hlm]; unfold lS1; rw [if_pos hlt]; exact hd
        refine run_draw (id := 9) (ops := F61.o9) [14, 15] (C) [(0, true), (1, true), (2, true), (3, true), (4, true), (5, true), (6, true), (7, true), (8, true), (9, true), (10, true), (11, true), (12, true), (13, false), (14, true), (15, false)] Try_mixed (by kernel_rfl) (by kernel_rfl) (by kernel_rfl) ?_
        intro w4 hs
        replace hF := hF.st hs
        replace hT := hT.trans hs (by simp)
        replace hsb := hsb.st hs (by first | decide | (simp <;> omega))
        replace hW := hW.st hs (by first | decide | (simp <;> omega))
        replace hu := hu.st hs (by first | decide | (simp <;> omega)) (by first | decide | (simp <;> omega))
        replace hv := hv.st hs (by first | decide | (simp <;> omega)) (by first | decide | (simp <;> omega))
        replace hr := hr.st hs (by first | decide | (simp <;> omega)) (by first | decide | (simp <;> omega))
        replace hy := hy.st hs (by first | decide | (simp <;> omega)) (by first | decide | (simp <;> omega))
        replace hl := hl.st hs (by first | decide | (simp <;> omega)) (by first | decide | (simp <;> omega))
        replace hcc := hcc.st hs (by first | decide | (simp <;> omega)) (by first | decide | (simp <;> omega))
        replace h42 := h42.st hs (by first | decide | (simp <;> omega))
        replace g43 := g43.st hs (by first | decide | (simp <;> omega))
        replace h46 := h46.st hs (by first | decide | (simp <;> omega))
        have hR := Stp.refl [14, 15] w4 (C)
        refine yS (by kernel_rfl : opAt F61.o9 0 = some (some 74, .move (.tmp 0), none)) rfl rfl (fun w' hS => val_move rfl) ?_
        refine yS (by kernel_rfl : opAt F61.o9 1 = some (some 75, .nilCheck (.tmp 74), none)) rfl rfl (fun w' hS => val_nilCheck rfl) ?_
        refine yS (by kernel_rfl : opAt F61.o9 2 = some (some 76, .fieldAddr 93 (.tmp 75) 5, none)) rfl rfl (fun w' hS => val_fieldAddr (off := 5) (by kernel_rfl) rfl) ?_
        refine yS (by kernel_rfl : opAt F61.o9 3 = some (some 77, .load 22 (.tmp 76), none)) rfl rfl (fun w' hS => val_loadOwn (hsb.stay hS (by decide)) (by kernel_rfl) rfl rfl) ?_
        refine yS (by kernel_rfl : opAt F61.o9 4 = some (some 78, .move (.tmp 9), none)) rfl rfl (fun w' hS => val_move rfl) ?_
        refine yS (by kernel_rfl : opAt F61.o9 5 = some (some 79, .move (.tmp 0), none)) rfl rfl (fun w' hS => val_move rfl) ?_
        refine yS (by kernel_rfl : opAt F61.o9 6 = some (some 80, .nilCheck (.tmp 79), none)) rfl rfl (fun w' hS => val_nilCheck rfl) ?_
        refine yS (by kernel_rfl : opAt F61.o9 7 = some (some 81, .fieldAddr 93 (.tmp 80) 4, none)) rfl rfl (fun w' hS => val_fieldAddr (off := 4) (by kernel_rfl) rfl) ?_
        refine yS (by kernel_rfl : opAt F61.o9 8 = some (some 82, .load 22 (.tmp 81), none)) rfl rfl (fun w' hS => val_loadOwn (hsb.stay hS (by decide)) (by kernel_rfl) rfl rfl) ?_
        refine yS (by kernel_rfl : opAt F61.o9 9 = some (some 83, .move (.tmp 9), none)) rfl rfl (fun w' hS => val_move rfl) ?_
        refine yS (by kernel_rfl : opAt F61.o9 10 = some (some 84, .move (.tmp 10), none)) rfl rfl (fun w' hS => val_move rfl) ?_
        refine yS (by kernel_rfl : opAt F61.o9 11 = some (some 85, .move (.tmp 1), none)) rfl rfl (fun w' hS => val_move rfl) ?_
        refine oI (e' := 3) (by kernel_rfl : opAt F61.o9 12 = some (some 86, .indexAddr 22 (.tmp 77) (.tmp 78), none)) rfl rfl hl rfl (by kernel_rfl) rfl (by omega) (by omega) ?_
        intro g86 hg86
        try simp only [Int.toNat_natCast]
        refine aN (by kernel_rfl : opAt F61.o9 13 = some (none, .store 3 (.tmp 86) (.tmp 84), none)) rfl (a_storeO hl hg86 (by omega) rfl rfl (by kernel_rfl) (rv_int.2 rfl)) ?_
        rintro _ w5 ⟨rfl, hs, hl⟩
        refine ⟨(hR.trans hs (by simp)).ext, ?_⟩
        replace hF := hF.st hs
        replace hT := hT.trans hs (by simp)
        replace hsb := hsb.st hs (by first | decide | (simp <;> omega))
        replace hW := hW.st hs (by first | decide | (simp <;> omega))
        replace hu := hu.st hs (by first | decide | (simp <;> omega)) (by first | decide | (simp <;> omega))
        replace hv := hv.st hs (by first | decide | (simp <;> omega)) (by first | decide | (simp <;> omega))
        replace hr := hr.st hs (by first | decide | (simp <;> omega)) (by first | decide | (simp <;> omega))
        replace hy := hy.st hs (by first | decide | (simp <;> omega)) (by first | decide | (simp <;> omega))
        replace hcc := hcc.st hs (by first | decide | (simp <;> omega)) (by first | decide | (simp <;> omega))
        replace h42 := h42.st hs (by first | decide | (simp <;> omega))
        replace g43 := g43.st hs (by first | decide | (simp <;> omega))
        replace h46 := h46.st hs (by first | decide | (simp <;> omega))
        replace hR := hR.trans hs (by simp)
        refine oI (e' := 3) (by kernel_rfl : opAt F61.o9 14 = some (some 87, .indexAddr 22 (.tmp 82) (.tmp 83), none)) rfl rfl hy rfl (by kernel_rfl) rfl (by omega) (by omega) ?_
        intro g87 hg87
        try simp only [Int.toNat_natCast]
        refine Sch.free rfl ?_
        refine aN (by kernel_rfl : opAt F61.o9 15 = some (none, .store 3 (.tmp 87) (.tmp 85), none)) rfl (a_storeO hy hg87 (by omega) rfl rfl (by kernel_rfl) (rv_nat.2 rfl)) ?_
        rintro _ w6 ⟨rfl, hs, hy⟩
        refine ⟨trivial, ?_⟩
        replace hF := hF.st hs
        replace hT := hT.trans hs (by simp)
        replace hsb := hsb.st hs (by first | decide | (simp <;> omega))
        replace hW := hW.st hs (by first | decide | (simp <;> omega))
        replace hu := hu.st hs (by first | decide | (simp <;> omega)) (by first | decide | (simp <;> omega))
        replace hv := hv.st hs (by first | decide | (simp <;> omega)) (by first | decide | (simp <;> omega))
        replace hr := hr.st hs (by first | decide | (simp <;> omega)) (by first | decide | (simp <;> omega))
        replace hl := hl.st hs (by first | decide | (simp <;> omega)) (by first | decide | (simp <;> omega))
        replace hcc := hcc.st hs (by first | decide | (simp <;> omega)) (by first | decide | (simp <;> omega))
        replace h42 := h42.st hs (by first | decide | (simp <;> omega))
        replace g43 := g43.st hs (by first | decide | (simp <;> omega))
        replace h46 := h46.st hs (by first | decide | (simp <;> omega))
        refine Sch.nil ?_
        refine run_seq (x := F61.c34) (y := F61.c35) (by kernel_rfl) ?_
        refine run_plain (id := 10) (ops := F61.o10) [(0, true), (1, true), (2, true), (3, false), (4, true), (5, true), (6, false), (7, true), (8, true)] (by kernel_rfl) (by kernel_rfl) ?_
        refine yS (by kernel_rfl : opAt F61.o10 0 = some (some 88, .move (.tmp 0), none)) rfl rfl (fun w' hS => val_move rfl) ?_
        refine yS (by kernel_rfl : opAt F61.o10 1 = some (some 89, .nilCheck (.tmp 88), none)) rfl rfl (fun w' hS => val_nilCheck rfl) ?_
        refine yS (by kernel_rfl : opAt F61.o10 2 = some (some 90, .fieldAddr 93 (.tmp 89) 5, none)) rfl rfl (fun w' hS => val_fieldAddr (off := 5) (by kernel_rfl) rfl) ?_
        refine nS (by kernel_rfl : opAt F61.o10 3 = some (some 91, .load 22 (.tmp 90), none)) rfl rfl trivial (val_loadOwn hsb.at_ (by kernel_rfl) rfl rfl) ?_
        refine yS (by kernel_rfl : opAt F61.o10 4 = some (some 92, .move (.tmp 9), none)) rfl rfl (fun w' hS => val_move rfl) ?_
        refine oI (e' := 3) (by kernel_rfl : opAt F61.o10 5 = some (some 93, .indexAddr 22 (.tmp 91) (.tmp 92), none)) rfl rfl hl rfl (by kernel_rfl) rfl (by omega) (by omega) ?_
        intro g93 hg93
        try simp only [Int.toNat_natCast]
        refine oN (by kernel_rfl : opAt F61.o10 6 = some (some 94, .load 3 (.tmp 93), none)) rfl rfl trivial hl hg93 (by omega) (by kernel_rfl) rfl rfl ?_
        intro v94 g94
        try simp only [Int.toNat_natCast] at g94
        first | (obtain rfl := rv_nat.1 g94) | (obtain rfl := rv_int.1 g94)
        rw [hv2]
        refine yS (by kernel_rfl : opAt F61.o10 7 = some (some 95, .move (.tmp 7), none)) rfl rfl (fun w' hS => val_move rfl) ?_
        refine yS (by kernel_rfl : opAt F61.o10 8 = some (some 96, .binOp .lss 3 (.tmp 94) (.tmp 95) 3, none)) rfl rfl (fun w' hS => val_lss rfl rfl) ?_
        refine Sch.nil ?_
        refine run_if (x := F61.c36) (y := F61.c37) (o := .tmp 96) (by kernel_rfl) rfl (fun h96 => ?_) (fun h96 => ?_)
        · skip
          refine run_plain (id := 11) (ops := F61.o11) [(0, true), (1, true), (2, true), (3, false), (4, true), (5, true), (6, false), (7, true), (8, true), (9, true)] (by kernel_rfl) (by kernel_rfl) ?_
          refine yS (by kernel_rfl : opAt F61.o11 0 = some (some 97, .move (.tmp 0), none)) rfl rfl (fun w' hS => val_move rfl) ?_
          refine yS (by kernel_rfl : opAt F61.o11 1 = some (some 98, .nilCheck (.tmp 97), none)) rfl rfl (fun w' hS => val_nilCheck rfl) ?_
          refine yS (by kernel_rfl : opAt F61.o11 2 = some (some 99, .fieldAddr 93 (.tmp 98) 5, none)) rfl rfl (fun w' hS => val_fieldAddr (off := 5) (by kernel_rfl) rfl) ?_
          refine nS (by kernel_rfl : opAt F61.o11 3 = some (some 100, .load 22 (.tmp 99), none)) rfl rfl trivial (val_loadOwn hsb.at_ (by kernel_rfl) rfl rfl) ?_
          refine yS (by kernel_rfl : opAt F61.o11 4 = some (some 101, .move (.tmp 9), none)) rfl rfl (fun w' hS => val_move rfl) ?_
          refine oI (e' := 3) (by kernel_rfl : opAt F61.o11 5 = some (some 102, .indexAddr 22 (.tmp 100) (.tmp 101), none)) rfl rfl hl rfl (by kernel_rfl) rfl (by omega) (by omega) ?_
          intro g102 hg102
          try simp only [Int.toNat_natCast]
          refine oN (by kernel_rfl : opAt F61.o11 6 = some (some 103, .load 3 (.tmp 102), none)) rfl rfl trivial hl hg102 (by omega) (by kernel_rfl) rfl rfl ?_
          intro v103 g103
          try simp only [Int.toNat_natCast] at g103
          first | (obtain rfl := rv_nat.1 g103) | (obtain rfl := rv_int.1 g103)
          rw [hv2]
          refine yS (by kernel_rfl : opAt F61.o11 7 = some (some 104, .move (.tmp 9), none)) rfl rfl (fun w' hS => val_move rfl) ?_
          refine yS (by kernel_rfl : opAt F61.o11 8 = some (some 7, .assign (.tmp 103), none)) rfl rfl (fun w' hS => val_assign rfl) ?_
          refine yS (by kernel_rfl : opAt F61.o11 9 = some (some 8, .assign (.tmp 104), none)) rfl rfl (fun w' hS => val_assign rfl) ?_
          refine Sch.nil ?_
          refine run_inBlock ?_
          refine run_plain (id := 5) (ops := F61.o5) [(0, true), (1, true), (2, true)] (by kernel_rfl) (by kernel_rfl) ?_
          refine yS (by kernel_rfl : opAt F61.o5 0 = some (some 27, .move (.tmp 9), none)) rfl rfl (fun w' hS => val_move rfl) ?_
          refine yS (by kernel_rfl : opAt F61.o5 1 = some (some 28, .binOp .add 3 (.tmp 27) (.const (.int .i64 1)) 3, none)) rfl rfl (fun w' hS => val_addi rfl rfl (by omega) (by omega)) ?_
          refine yS (by kernel_rfl : opAt F61.o5 2 = some (some 9, .assign (.tmp 28), none)) rfl rfl (fun w' hS => val_assign rfl) ?_
          refine Sch.nil ?_
          refine kp (sub_cons 0 rfl rfl (sub_cons 1 rfl rfl (sub_cons 5 rfl rfl (sub_cons 6 rfl rfl (sub_cons 7 rfl rfl (sub_cons 8 rfl rfl (sub_cons 9 rfl (eq_int (by omega)) (sub_nil _)))))))) (next1 (j0 + 1, yl1.set (j0 + 1) a, ll1.set (j0 + 1) d, lm, j0 + 1) _ ⟨(by first | omega | (simp only; omega)), hny, hnl, hR2, (by rw [hlm]; rw [hlm] at h96; exact hD.take (by omega) hcj h96), hF, hT, hsb, hW, hu, hv, hr, hy, hl, hcc⟩ (by first | omega | (simp only; omega)))
        · skip
          refine run_skip (by kernel_rfl) ?_
          refine run_inBlock ?_
          refine run_plain (id := 5) (ops := F61.o5) [(0, true), (1, true), (2, true)] (by kernel_rfl) (by kernel_rfl) ?_
          refine yS (by kernel_rfl : opAt F61.o5 0 = some (some 27, .move (.tmp 9), none)) rfl rfl (fun w' hS => val_move rfl) ?_
          refine yS (by kernel_rfl : opAt F61.o5 1 = some (some 28, .binOp .add 3 (.tmp 27) (.const (.int .i64 1)) 3, none)) rfl rfl (fun w' hS => val_addi rfl rfl (by omega) (by omega)) ?_
          refine yS (by kernel_rfl : opAt F61.o5 2 = some (some 9, .assign (.tmp 28), none)) rfl rfl (fun w' hS => val_assign rfl) ?_
          refine Sch.nil ?_
          refine kp (sub_cons 0 rfl rfl (sub_cons 1 rfl rfl (sub_cons 5 rfl rfl (sub_cons 6 rfl rfl (sub_cons 7 rfl rfl (sub_cons 8 rfl rfl (sub_cons 9 rfl (eq_int (by omega)) (sub_nil _)))))))) (next1 (j0 + 1, yl1.set (j0 + 1) a, ll1.set (j0 + 1) d, dl, nx) _ ⟨(by first | omega | (simp only; omega)), hny, hnl, hR2, (by rw [hlm] at h96 hlb; exact hD.no (by omega) hcj h96 (by omega)), hF, hT, hsb, hW, hu, hv, hr, hy, hl, hcc⟩ (by first | omega | (simp only; omega)))
      · skip
        have hlt : ¬ dS (cW wl) (gI ul) (gI vl) (i0 + 1) (j0 + 1) < gI ll (j0 + 1) := by rw [← hd, ← hcur]; exact h73
        have hR2 := hR.no hlt
        have hnl := hll
        have hny := hly
        have hv2 : ll1[j0 + 1]'(by omega) = lm := by rw [hlm]; unfold lS1; rw [if_neg hlt]; exact hcur
        refine run_skip (by kernel_rfl) ?_
        refine run_seq (x := F61.c34) (y := F61.c35) (by kernel_rfl) ?_
        refine run_plain (id := 10) (ops := F61.o10) [(0, true), (1, true), (2, true), (3, false), (4, true), (5, true), (6, false), (7, true), (8, true)] (by kernel_rfl) (by kernel_rfl) ?_
        refine yS (by kernel_rfl : opAt F61.o10 0 = some (some 88, .move (.tmp 0), none)) rfl rfl (fun w' hS => val_move rfl) ?_
        refine yS (by kernel_rfl : opAt F61.o10 1 = some (some 89, .nilCheck (.tmp 88), none)) rfl rfl (fun w' hS => val_nilCheck rfl) ?_
        refine yS (by kernel_rfl : opAt F61.o10 2 = some (some 90, .fieldAddr 93 (.tmp 89) 5, none)) rfl rfl (fun w' hS => val_fieldAddr (off := 5) (by kernel_rfl) rfl) ?_
        refine nS (by kernel_rfl : opAt F61.o10 3 = some (some 91, .load 22 (.tmp 90), none)) rfl rfl trivial (val_loadOwn hsb.at_ (by kernel_rfl) rfl rfl) ?_
        refine yS (by kernel_rfl : opAt F61.o10 4 = some (some 92, .move (.tmp 9), none)) rfl rfl (fun w' hS => val_move rfl) ?_
        refine oI (e' := 3) (by kernel_rfl : opAt F61.o10 5 = some (some 93, .indexAddr 22 (.tmp 91) (.tmp 92), none)) rfl rfl hl rfl (by kernel_rfl) rfl (by omega) (by omega) ?_
        intro g93 hg93
        try simp only [Int.toNat_natCast]
        refine oN (by kernel_rfl : opAt F61.o10 6 = some (some 94, .load 3 (.tmp 93), none)) rfl rfl trivial hl hg93 (by omega) (by kernel_rfl) rfl rfl ?_
        intro v94 g94
        try simp only [Int.toNat_natCast] at g94
        first | (obtain rfl := rv_nat.1 g94) | (obtain rfl := rv_int.1 g94)
        rw [hv2]
        refine yS (by kernel_rfl : opAt F61.o10 7 = some (some 95, .move (.tmp 7), none)) rfl rfl (fun w' hS => val_move rfl) ?_
        refine yS (by kernel_rfl : opAt F61.o10 8 = some (some 96, .binOp .lss 3 (.tmp 94) (.tmp 95) 3, none)) rfl rfl (fun w' hS => val_lss rfl rfl) ?_
        refine Sch.nil ?_
        refine run_if (x := F61.c36) (y := F61.c37) (o := .tmp 96) (by kernel_rfl) rfl (fun h96 => ?_) (fun h96 => ?_)
        · skip
          refine run_plain (id := 11) (ops := F61.o11) [(0, true), (1, true), (2, true), (3, false), (4, true), (5, true), (6, false), (7, true), (8, true), (9, true)] (by kernel_rfl) (by kernel_rfl) ?_
          refine yS (by kernel_rfl : opAt F61.o11 0 = some (some 97, .move (.tmp 0), none)) rfl rfl (fun w' hS => val_move rfl) ?_
          refine yS (by kernel_rfl : opAt F61.o11 1 = some (some 98, .nilCheck (.tmp 97), none)) rfl rfl (fun w' hS => val_nilCheck rfl) ?_
          refine yS (by kernel_rfl : opAt F61.o11 2 = some (some 99, .fieldAddr 93 (.tmp 98) 5, none)) rfl rfl (fun w' hS => val_fieldAddr (off := 5) (by kernel_rfl) rfl) ?_
          refine nS (by kernel_rfl : opAt F61.o11 3 = some (some 100, .load 22 (.tmp 99), none)) rfl rfl trivial (val_loadOwn hsb.at_ (by kernel_rfl) rfl rfl) ?_
          refine yS (by kernel_rfl : opAt F61.o11 4 = some (some 101, .move (.tmp 9), none)) rfl rfl (fun w' hS => val_move rfl) ?_
          refine oI (e' := 3) (by kernel_rfl : opAt F61.o11 5 = some (some 102, .indexAddr 22 (.tmp 100) (.tmp 101), none)) rfl rfl hl rfl (by kernel_rfl) rfl (by omega) (by omega) ?_
          intro g102 hg102
          try simp only [Int.toNat_natCast]
          refine oN (by kernel_rfl : opAt F61.o11 6 = some (some 103, .load 3 (.tmp 102), none)) rfl rfl trivial hl hg102 (by omega) (by kernel_rfl) rfl rfl ?_
          intro v103 g103
          try simp only [Int.toNat_natCast] at g103
          first | (obtain rfl := rv_nat.1 g103) | (obtain rfl := rv_int.1 g103)
          rw [hv2]
          refine yS (by kernel_rfl : opAt F61.o11 7 = some (some 104, .move (.tmp 9), none)) rfl rfl (fun w' hS => val_move rfl) ?_
          refine yS (by kernel_rfl : opAt F61.o11 8 = some (some 7, .assign (.tmp 103), none)) rfl rfl (fun w' hS => val_assign rfl) ?_
          refine yS (by kernel_rfl : opAt F61.o11 9 = some (some 8, .assign (.tmp 104), none)) rfl rfl (fun w' hS => val_assign rfl) ?_
          refine Sch.nil ?_
          refine run_inBlock ?_
          refine run_plain (id := 5) (ops := F61.o5) [(0, true), (1, true), (2, true)] (by kernel_rfl) (by kernel_rfl) ?_
          refine yS (by kernel_rfl : opAt F61.o5 0 = some (some 27, .move (.tmp 9), none)) rfl rfl (fun w' hS => val_move rfl) ?_
          refine yS (by kernel_rfl : opAt F61.o5 1 = some (some 28, .binOp .add 3 (.tmp 27) (.const (.int .i64 1)) 3, none)) rfl rfl (fun w' hS => val_addi rfl rfl (by omega) (by omega)) ?_
          refine yS (by kernel_rfl : opAt F61.o5 2 = some (some 9, .assign (.tmp 28), none)) rfl rfl (fun w' hS => val_assign rfl) ?_
          refine Sch.nil ?_
          refine kp (sub_cons 0 rfl rfl (sub_cons 1 rfl rfl (sub_cons 5 rfl rfl (sub_cons 6 rfl rfl (sub_cons 7 rfl rfl (sub_cons 8 rfl rfl (sub_cons 9 rfl (eq_int (by omega)) (sub_nil _)))))))) (next1 (j0 + 1, yl1, ll1, lm, j0 + 1) _ ⟨(by first | omega | (simp only; omega)), hny, hnl, hR2, (by rw [hlm]; rw [hlm] at h96; exact hD.take (by omega) hcj h96), hF, hT, hsb, hW, hu, hv, hr, hy, hl, hcc⟩ (by first | omega | (simp only; omega)))
        · skip
          refine run_skip (by kernel_rfl) ?_
          refine run_inBlock ?_
          refine run_plain (id := 5) (ops := F61.o5) [(0, true), (1, true), (2, true)] (by kernel_rfl) (by kernel_rfl) ?_
          refine yS (by kernel_rfl : opAt F61.o5 0 = some (some 27, .move (.tmp 9), none)) rfl rfl (fun w' hS => val_move rfl) ?_
          refine yS (by kernel_rfl : opAt F61.o5 1 = some (some 28, .binOp .add 3 (.tmp 27) (.const (.int .i64 1)) 3, none)) rfl rfl (fun w' hS => val_addi rfl rfl (by omega) (by omega)) ?_
          refine yS (by kernel_rfl : opAt F61.o5 2 = some (some 9, .assign (.tmp 28), none)) rfl rfl (fun w' hS => val_assign rfl) ?_
          refine Sch.nil ?_
          refine kp (sub_cons 0 rfl rfl (sub_cons 1 rfl rfl (sub_cons 5 rfl rfl (sub_cons 6 rfl rfl (sub_cons 7 rfl rfl (sub_cons 8 rfl rfl (sub_cons 9 rfl (eq_int (by omega)) (sub_nil _)))))))) (next1 (j0 + 1, yl1, ll1, dl, nx) _ ⟨(by first | omega | (simp only; omega)), hny, hnl, hR2, (by rw [hlm] at h96 hlb; exact hD.no (by omega) hcj h96 (by omega)), hF, hT, hsb, hW, hu, hv, hr, hy, hl, hcc⟩ (by first | omega | (simp only; omega)))
  · skip
    have hjk : j0 = k := by omega
    subst hjk
    refine run_exit (id := 0) (by kernel_rfl) rfl ?_
    refine run_seq (x := F61.c40) (y := F61.c60) (by kernel_rfl) ?_
    refine run_seq (x := F61.c41) (y := F61.c42) (by kernel_rfl) ?_
    refine run_plain (id := 12) (ops := F61.o12) [(0, true)] (by kernel_rfl) (by kernel_rfl) ?_
    refine yS (by kernel_rfl : opAt F61.o12 0 = some (some 11, .assign (.const (.int .i64 0)), none)) rfl rfl (fun w' hS => val_assign rfl) ?_
    refine Sch.nil ?_
    have hdb : -288230376151711744 ≤ dl ∧ dl ≤ 576460752303423488 := by
      rcases hD with ⟨_, _, h3⟩ | ⟨n1, n2, n3, n4, n5⟩
      · exfalso
        obtain ⟨q0, f1, f2, f3⟩ := hB.free
        have := h3 q0 f1 (by omega)
        exact hB.clr q0 f1 f2 this f3
      · have := hLB nx n1 (by omega) n3
        omega
    refine run_block (x := F61.c43) (id := 2) (by kernel_rfl) ?_
    
    refine run_loop (ι := Nat × (List Int) × (List Int) × (List Int)) (I := fun x w => x.1 ≤ j0 + 1 ∧ x.2.1.length = j0 + 1 ∧ x.2.2.1.length = j0 + 1 ∧ x.2.2.2.length = j0 + 1 ∧ RL2 (gN rl) (gB cl) dl j0 (gI ul) (gI vl) (gI ll1) x.1 (gI x.2.1) (gI x.2.2.1) (gI x.2.2.2) ∧ Lim w C ∧ Stp [11, 12, 14, 15] w₀ C w C ∧ OwnB w C 10 sb (.cells [xw, xu, xv, xr, xy, xl, xc].toArray 93) ∧ RV w (Mc C) wl xw ∧ OwnL w C 11 3 xu x.2.1 ∧ OwnL w C 12 3 xv x.2.2.1 ∧ OwnL w C 13 3 xr rl ∧ OwnL w C 14 3 xy yl1 ∧ OwnL w C 15 3 xl x.2.2.2 ∧ OwnL w C 16 4 xc cl) (e := fun x => [(0, .pointer (some ⟨sb, 0, none⟩)), (5, .int .i64 wl.length), (7, .int .i64 dl), (8, .int .i64 nx), (11, .int .i64 x.1)]) (m := fun x => j0 + 1 - x.1) (x₀ := (0, ul, vl, ll1)) (body := F61.c44) (by kernel_rfl) (sub_cons 0 rfl rfl (sub_cons 5 rfl rfl (sub_cons 7 rfl rfl (sub_cons 8 rfl rfl (sub_cons 11 rfl rfl (sub_nil _)))))) ?_ ?_
    · exact ⟨Nat.zero_le _, (by simp only; omega), (by simp only; omega), hll, RL2.start, hF, hT, hsb, hW, hu, hv, hr, hy, hl, hcc⟩
    intro ⟨q, ul1, vl1, ll2⟩ w7 hI next
    obtain ⟨hq, hlu, hlv, hll2, hR2, hF, hT, hsb, hW, hu, hv, hr, hy, hl, hcc⟩ := hI
    try simp only at hq hlu hlv hll2 hR2 hF hT hsb hW hu hv hr hy hl hcc
    have next2 := next
    clear next
    show Run _ _ _ _ [(0, .pointer (some ⟨sb, 0, none⟩)), (5, .int .i64 wl.length), (7, .int .i64 dl), (8, .int .i64 nx), (11, .int .i64 q)] _ _
    refine run_seq (x := F61.c45) (y := F61.c50) (by kernel_rfl) ?_
    refine run_seq (x := F61.c46) (y := F61.c47) (by kernel_rfl) ?_
    refine run_plain (id := 13) (ops := F61.o13) [(0, true), (1, true), (2, true)] (by kernel_rfl) (by kernel_rfl) ?_
    refine yS (by kernel_rfl : opAt F61.o13 0 = some (some 105, .move (.tmp 11), none)) rfl rfl (fun w' hS => val_move rfl) ?_
    refine yS (by kernel_rfl : opAt F61.o13 1 = some (some 106, .move (.tmp 5), none)) rfl rfl (fun w' hS => val_move rfl) ?_
    refine yS (by kernel_rfl : opAt F61.o13 2 = some (some 107, .binOp .leq 3 (.tmp 105) (.tmp 106) 3, none)) rfl rfl (fun w' hS => val_leq rfl rfl) ?_
    refine Sch.nil ?_
    refine run_if (x := F61.c48) (y := F61.c49) (o := .tmp 107) (by kernel_rfl) rfl (fun h107 => ?_) (fun h107 => ?_)
    · skip
      have hqk : q ≤ j0 := by omega
      refine run_skip (by kernel_rfl) ?_
      refine run_seq (x := F61.c51) (y := F61.c59) (by kernel_rfl) ?_
      refine run_block (x := F61.c52) (id := 3) (by kernel_rfl) ?_
      refine run_seq (x := F61.c53) (y := F61.c54) (by kernel_rfl) ?_
      refine run_plain (id := 15) (ops := F61.o15) [(0, true), (1, true), (2, true), (3, false), (4, true), (5, true), (6, false)] (by kernel_rfl) (by kernel_rfl) ?_
      refine yS (by kernel_rfl : opAt F61.o15 0 = some (some 110, .move (.tmp 0), none)) rfl rfl (fun w' hS => val_move rfl) ?_
      refine yS (by kernel_rfl : opAt F61.o15 1 = some (some 111, .nilCheck (.tmp 110), none)) rfl rfl (fun w' hS => val_nilCheck rfl) ?_
      refine yS (by kernel_rfl : opAt F61.o15 2 = some (some 112, .fieldAddr 93 (.tmp 111) 6, none)) rfl rfl (fun w' hS => val_fieldAddr (off := 6) (by kernel_rfl) rfl) ?_
      refine nS (by kernel_rfl : opAt F61.o15 3 = some (some 113, .load 48 (.tmp 112), none)) rfl rfl trivial (val_loadOwn hsb.at_ (by kernel_rfl) rfl rfl) ?_
      refine yS (by kernel_rfl : opAt F61.o15 4 = some (some 114, .move (.tmp 11), none)) rfl rfl (fun w' hS => val_move rfl) ?_
      refine oI (e' := 4) (by kernel_rfl : opAt F61.o15 5 = some (some 115, .indexAddr 48 (.tmp 113) (.tmp 114), none)) rfl rfl hcc rfl (by kernel_rfl) rfl (by omega) (by omega) ?_
      intro g115 hg115
      try simp only [Int.toNat_natCast]
      refine oN (by kernel_rfl : opAt F61.o15 6 = some (some 116, .load 4 (.tmp 115), none)) rfl rfl trivial hcc hg115 (by omega) (by kernel_rfl) rfl rfl ?_
      intro v116 g116
      try simp only [Int.toNat_natCast] at g116
      obtain rfl := rv_bool.1 g116
      refine Sch.nil ?_
      refine run_cond (x := F61.c55) (y := F61.c58) (o := .tmp 116) (by kernel_rfl) rfl (fun h116 => ?_) (fun h116 => ?_)
      · skip
        have hcq : gB cl q = true := (getD_in (by omega)).trans h116
        obtain ⟨p, hp0⟩ : ∃ p, p = rl[q]'(by omega) := ⟨_, rfl⟩
        have hpg : gN rl q = p := by rw [hp0]; exact getD_in _
        have hpk : p ≤ j0 := by
          have h1 := hB.clrow hqk hcq
          have h2 := hB.nk
          rw [hpg] at h1; omega
        have hpu : ul1[p]'(by omega) = ul[p]'(by omega) := by
          have := hR2.u2 p (fun q' a b c e => by have := hB.clinj a hqk c (by rw [e, hpg]); omega)
          rwa [show gI ul1 p = ul1[p]'(by omega) from getD_in _, show gI ul p = ul[p]'(by omega) from getD_in _] at this
        have hpb := hbu p hpk
        rw [show gI ul p = ul[p]'(by omega) from getD_in _, ← hpu] at hpb
        have hvq : vl1[q]'(by omega) = vl[q]'(by omega) := by
          have := hR2.v1 q hqk hcq
          rw [if_neg (by omega)] at this
          rwa [show gI vl1 q = vl1[q]'(by omega) from getD_in _, show gI vl q = vl[q]'(by omega) from getD_in _] at this
        have hvb := hbv q hqk
        rw [show gI vl q = vl[q]'(by omega) from getD_in _, ← hvq] at hvb
        clear hpu hvq
        refine run_seq (x := F61.c56) (y := F61.c57) (by kernel_rfl) ?_
        refine run_draw (id := 16) (ops := F61.o16) [11] (C) [(0, true), (1, true), (2, true), (3, true), (4, true), (5, true), (6, true), (7, true), (8, true), (9, true), (10, true), (11, true), (13, true), (12, false), (14, true), (15, true), (16, false)] Try_mixed (by kernel_rfl) (by kernel_rfl) (by kernel_rfl) ?_
        intro w8 hs
        replace hF := hF.st hs
        replace hT := hT.trans hs (by simp)
        replace hsb := hsb.st hs (by first | decide | (simp <;> omega))
        replace hW := hW.st hs (by first | decide | (simp <;> omega))
        replace hu := hu.st hs (by first | decide | (simp <;> omega)) (by first | decide | (simp <;> omega))
        replace hv := hv.st hs (by first | decide | (simp <;> omega)) (by first | decide | (simp <;> omega))
        replace hr := hr.st hs (by first | decide | (simp <;> omega)) (by first | decide | (simp <;> omega))
        replace hy := hy.st hs (by first | decide | (simp <;> omega)) (by first | decide | (simp <;> omega))
        replace hl := hl.st hs (by first | decide | (simp <;> omega)) (by first | decide | (simp <;> omega))
        replace hcc := hcc.st hs (by first | decide | (simp <;> omega)) (by first | decide | (simp <;> omega))
        have hR := Stp.refl [11] w8 (C)
        refine yS (by kernel_rfl : opAt F61.o16 0 = some (some 117, .move (.tmp 0), none)) rfl rfl (fun w' hS => val_move rfl) ?_
        refine yS (by kernel_rfl : opAt F61.o16 1 = some (some 118, .nilCheck (.tmp 117), none)) rfl rfl (fun w' hS => val_nilCheck rfl) ?_
        refine yS (by kernel_rfl : opAt F61.o16 2 = some (some 119, .fieldAddr 93 (.tmp 118) 1, none)) rfl rfl (fun w' hS => val_fieldAddr (off := 1) (by kernel_rfl) rfl) ?_
        refine yS (by kernel_rfl : opAt F61.o16 3 = some (some 120, .load 22 (.tmp 119), none)) rfl rfl (fun w' hS => val_loadOwn (hsb.stay hS (by decide)) (by kernel_rfl) rfl rfl) ?_
        refine yS (by kernel_rfl : opAt F61.o16 4 = some (some 121, .move (.tmp 0), none)) rfl rfl (fun w' hS => val_move rfl) ?_
        refine yS (by kernel_rfl : opAt F61.o16 5 = some (some 122, .nilCheck (.tmp 121), none)) rfl rfl (fun w' hS => val_nilCheck rfl) ?_
        refine yS (by kernel_rfl : opAt F61.o16 6 = some (some 123, .fieldAddr 93 (.tmp 122) 3, none)) rfl rfl (fun w' hS => val_fieldAddr (off := 3) (by kernel_rfl) rfl) ?_
        refine yS (by kernel_rfl : opAt F61.o16 7 = some (some 124, .load 22 (.tmp 123), none)) rfl rfl (fun w' hS => val_loadOwn (hsb.stay hS (by decide)) (by kernel_rfl) rfl rfl) ?_
        refine yS (by kernel_rfl : opAt F61.o16 8 = some (some 125, .move (.tmp 11), none)) rfl rfl (fun w' hS => val_move rfl) ?_
        refine oI (e' := 3) (by kernel_rfl : opAt F61.o16 9 = some (some 126, .indexAddr 22 (.tmp 124) (.tmp 125), none)) rfl rfl hr rfl (by kernel_rfl) rfl (by omega) (by omega) ?_
        intro g126 hg126
        try simp only [Int.toNat_natCast]
        refine oS (I := [11]) (by kernel_rfl : opAt F61.o16 10 = some (some 127, .load 3 (.tmp 126), none)) rfl rfl hr hg126 (fun w' hS => hr.stay hg126 hS (by first | decide | (simp <;> omega))) (by omega) (by kernel_rfl) rfl rfl ?_
        intro v127 g127
        try simp only [Int.toNat_natCast] at g127
        first | (obtain rfl := rv_nat.1 g127) | (obtain rfl := rv_int.1 g127)
        rw [← hp0]
        refine oI (e' := 3) (by kernel_rfl : opAt F61.o16 11 = some (some 128, .indexAddr 22 (.tmp 120) (.tmp 127), none)) rfl rfl hu rfl (by kernel_rfl) rfl (by omega) (by omega) ?_
        intro g128 hg128
        try simp only [Int.toNat_natCast]
        refine yS (by kernel_rfl : opAt F61.o16 13 = some (some 130, .move (.tmp 7), none)) rfl rfl (fun w' hS => val_move rfl) ?_
        refine oN (by kernel_rfl : opAt F61.o16 12 = some (some 129, .load 3 (.tmp 128), none)) rfl rfl hR.ext hu hg128 (by omega) (by kernel_rfl) rfl rfl ?_
        intro v129 g129
        try simp only [Int.toNat_natCast] at g129
        first | (obtain rfl := rv_nat.1 g129) | (obtain rfl := rv_int.1 g129)
        refine yS (by kernel_rfl : opAt F61.o16 14 = some (some 131, .binOp .add 3 (.tmp 129) (.tmp 130) 3, none)) rfl rfl (fun w' hS => val_addi rfl rfl (by omega) (by omega)) ?_
        refine oI (e' := 3) (by kernel_rfl : opAt F61.o16 15 = some (some 132, .indexAddr 22 (.tmp 120) (.tmp 127), none)) rfl rfl hu rfl (by kernel_rfl) rfl (by omega) (by omega) ?_
        intro g132 hg132
        try simp only [Int.toNat_natCast]
        refine Sch.free rfl ?_
        refine aN (by kernel_rfl : opAt F61.o16 16 = some (none, .store 3 (.tmp 132) (.tmp 131), none)) rfl (a_storeO hu hg132 (by omega) rfl rfl (by kernel_rfl) (rv_int.2 rfl)) ?_
        rintro _ w9 ⟨rfl, hs, hu⟩
        refine ⟨trivial, ?_⟩
        replace hF := hF.st hs
        replace hT := hT.trans hs (by simp)
        replace hsb := hsb.st hs (by first | decide | (simp <;> omega))
        replace hW := hW.st hs (by first | decide | (simp <;> omega))
        replace hv := hv.st hs (by first | decide | (simp <;> omega)) (by first | decide | (simp <;> omega))
        replace hr := hr.st hs (by first | decide | (simp <;> omega)) (by first | decide | (simp <;> omega))
        replace hy := hy.st hs (by first | decide | (simp <;> omega)) (by first | decide | (simp <;> omega))
        replace hl := hl.st hs (by first | decide | (simp <;> omega)) (by first | decide | (simp <;> omega))
        replace hcc := hcc.st hs (by first | decide | (simp <;> omega)) (by first | decide | (simp <;> omega))
        refine Sch.nil ?_
        refine run_plain (id := 17) (ops := F61.o17) [(0, true), (1, true), (2, true), (3, false), (4, true), (5, true), (6, false), (7, true), (8, true), (9, true), (10, false)] (by kernel_rfl) (by kernel_rfl) ?_
        refine yS (by kernel_rfl : opAt F61.o17 0 = some (some 133, .move (.tmp 0), none)) rfl rfl (fun w' hS => val_move rfl) ?_
        refine yS (by kernel_rfl : opAt F61.o17 1 = some (some 134, .nilCheck (.tmp 133), none)) rfl rfl (fun w' hS => val_nilCheck rfl) ?_
        refine yS (by kernel_rfl : opAt F61.o17 2 = some (some 135, .fieldAddr 93 (.tmp 134) 2, none)) rfl rfl (fun w' hS => val_fieldAddr (off := 2) (by kernel_rfl) rfl) ?_
        refine nS (by kernel_rfl : opAt F61.o17 3 = some (some 136, .load 22 (.tmp 135), none)) rfl rfl trivial (val_loadOwn hsb.at_ (by kernel_rfl) rfl rfl) ?_
        refine yS (by kernel_rfl : opAt F61.o17 4 = some (some 137, .move (.tmp 11), none)) rfl rfl (fun w' hS => val_move rfl) ?_
        refine oI (e' := 3) (by kernel_rfl : opAt F61.o17 5 = some (some 138, .indexAddr 22 (.tmp 136) (.tmp 137), none)) rfl rfl hv rfl (by kernel_rfl) rfl (by omega) (by omega) ?_
        intro g138 hg138
        try simp only [Int.toNat_natCast]
        refine oN (by kernel_rfl : opAt F61.o17 6 = some (some 139, .load 3 (.tmp 138), none)) rfl rfl trivial hv hg138 (by omega) (by kernel_rfl) rfl rfl ?_
        intro v139 g139
        try simp only [Int.toNat_natCast] at g139
        first | (obtain rfl := rv_nat.1 g139) | (obtain rfl := rv_int.1 g139)
        refine yS (by kernel_rfl : opAt F61.o17 7 = some (some 140, .move (.tmp 7), none)) rfl rfl (fun w' hS => val_move rfl) ?_
        refine yS (by kernel_rfl : opAt F61.o17 8 = some (some 141, .binOp .sub 3 (.tmp 139) (.tmp 140) 3, none)) rfl rfl (fun w' hS => val_subi rfl rfl (by omega) (by omega)) ?_
        refine oI (e' := 3) (by kernel_rfl : opAt F61.o17 9 = some (some 142, .indexAddr 22 (.tmp 136) (.tmp 137), none)) rfl rfl hv rfl (by kernel_rfl) rfl (by omega) (by omega) ?_
        intro g142 hg142
        try simp only [Int.toNat_natCast]
        refine aN (by kernel_rfl : opAt F61.o17 10 = some (none, .store 3 (.tmp 142) (.tmp 141), none)) rfl (a_storeO hv hg142 (by omega) rfl rfl (by kernel_rfl) (rv_int.2 rfl)) ?_
        rintro _ w10 ⟨rfl, hs, hv⟩
        refine ⟨trivial, ?_⟩
        replace hF := hF.st hs
        replace hT := hT.trans hs (by simp)
        replace hsb := hsb.st hs (by first | decide | (simp <;> omega))
        replace hW := hW.st hs (by first | decide | (simp <;> omega))
        replace hu := hu.st hs (by first | decide | (simp <;> omega)) (by first | decide | (simp <;> omega))
        replace hr := hr.st hs (by first | decide | (simp <;> omega)) (by first | decide | (simp <;> omega))
        replace hy := hy.st hs (by first | decide | (simp <;> omega)) (by first | decide | (simp <;> omega))
        replace hl := hl.st hs (by first | decide | (simp <;> omega)) (by first | decide | (simp <;> omega))
        replace hcc := hcc.st hs (by first | decide | (simp <;> omega)) (by first | decide | (simp <;> omega))
        refine Sch.nil ?_
        refine run_inBlock ?_
        refine run_plain (id := 14) (ops := F61.o14) [(0, true), (1, true), (2, true)] (by kernel_rfl) (by kernel_rfl) ?_
        refine yS (by kernel_rfl : opAt F61.o14 0 = some (some 108, .move (.tmp 11), none)) rfl rfl (fun w' hS => val_move rfl) ?_
        refine yS (by kernel_rfl : opAt F61.o14 1 = some (some 109, .binOp .add 3 (.tmp 108) (.const (.int .i64 1)) 3, none)) rfl rfl (fun w' hS => val_addi rfl rfl (by omega) (by omega)) ?_
        refine yS (by kernel_rfl : opAt F61.o14 2 = some (some 11, .assign (.tmp 109), none)) rfl rfl (fun w' hS => val_assign rfl) ?_
        refine Sch.nil ?_
        refine kp (sub_cons 0 rfl rfl (sub_cons 5 rfl rfl (sub_cons 7 rfl rfl (sub_cons 8 rfl rfl (sub_cons 11 rfl (eq_int (by simp)) (sub_nil _)))))) (next2 (q + 1, ul1.set p (ul1[p]'(by omega) + dl), vl1.set q (vl1[q]'(by omega) - dl), ll2) _ ⟨(by first | omega | (simp only; omega)), (by simp only [List.length_set]; exact hlu), (by simp only [List.length_set]; exact hlv), (by first | omega | (simp only; omega)), (hR2.shut hqk hcq (fun q' a c e => hB.clinj a hqk c e) (fun r => by rw [hpg, show gI ul1 p = ul1[p]'(by omega) from getD_in _]; exact getD_set (by omega)) (fun r => by rw [show gI vl1 q = vl1[q]'(by omega) from getD_in _]; exact getD_set (by omega))), hF, hT, hsb, hW, hu, hv, hr, hy, hl, hcc⟩ (by first | omega | (simp only; omega)))
      · skip
        have hcq : gB cl q = false := (getD_in (by omega)).trans h116
        have hq1 : 1 ≤ q := by
          rcases Nat.eq_zero_or_pos q with e | e
          · subst e; rw [hB.c0] at hcq; cases hcq
          · exact e
        have hlq : ll2[q]'(by omega) = lS1 (cW wl) (gI ul) (gI vl) (gI ll) (i0 + 1) q := by
          have h1 := hR2.l1 q hqk hcq
          rw [if_neg (by omega), hR.l q hq1 hqk hcq, if_pos (by omega)] at h1
          rwa [show gI ll2 q = ll2[q]'(by omega) from getD_in _] at h1
        have hlb := hLB q hq1 hqk hcq
        rw [← hlq] at hlb
        clear hlq
        refine run_plain (id := 18) (ops := F61.o18) [(0, true), (1, true), (2, true), (3, false), (4, true), (5, true), (6, false), (7, true), (8, true), (9, true), (10, false)] (by kernel_rfl) (by kernel_rfl) ?_
        refine yS (by kernel_rfl : opAt F61.o18 0 = some (some 143, .move (.tmp 0), none)) rfl rfl (fun w' hS => val_move rfl) ?_
        refine yS (by kernel_rfl : opAt F61.o18 1 = some (some 144, .nilCheck (.tmp 143), none)) rfl rfl (fun w' hS => val_nilCheck rfl) ?_
        refine yS (by kernel_rfl : opAt F61.o18 2 = some (some 145, .fieldAddr 93 (.tmp 144) 5, none)) rfl rfl (fun w' hS => val_fieldAddr (off := 5) (by kernel_rfl) rfl) ?_
        refine nS (by kernel_rfl : opAt F61.o18 3 = some (some 146, .load 22 (.tmp 145), none)) rfl rfl trivial (val_loadOwn hsb.at_ (by kernel_rfl) rfl rfl) ?_
        refine yS (by kernel_rfl : opAt F61.o18 4 = some (some 147, .move (.tmp 11), none)) rfl rfl (fun w' hS => val_move rfl) ?_
        refine oI (e' := 3) (by kernel_rfl : opAt F61.o18 5 = some (some 148, .indexAddr 22 (.tmp 146) (.tmp 147), none)) rfl rfl hl rfl (by kernel_rfl) rfl (by omega) (by omega) ?_
        intro g148 hg148
        try simp only [Int.toNat_natCast]
        refine oN (by kernel_rfl : opAt F61.o18 6 = some (some 149, .load 3 (.tmp 148), none)) rfl rfl trivial hl hg148 (by omega) (by kernel_rfl) rfl rfl ?_
        intro v149 g149
        try simp only [Int.toNat_natCast] at g149
        first | (obtain rfl := rv_nat.1 g149) | (obtain rfl := rv_int.1 g149)
        refine yS (by kernel_rfl : opAt F61.o18 7 = some (some 150, .move (.tmp 7), none)) rfl rfl (fun w' hS => val_move rfl) ?_
        refine yS (by kernel_rfl : opAt F61.o18 8 = some (some 151, .binOp .sub 3 (.tmp 149) (.tmp 150) 3, none)) rfl rfl (fun w' hS => val_subi rfl rfl (by omega) (by omega)) ?_
        refine oI (e' := 3) (by kernel_rfl : opAt F61.o18 9 = some (some 152, .indexAddr 22 (.tmp 146) (.tmp 147), none)) rfl rfl hl rfl (by kernel_rfl) rfl (by omega) (by omega) ?_
        intro g152 hg152
        try simp only [Int.toNat_natCast]
        refine aN (by kernel_rfl : opAt F61.o18 10 = some (none, .store 3 (.tmp 152) (.tmp 151), none)) rfl (a_storeO hl hg152 (by omega) rfl rfl (by kernel_rfl) (rv_int.2 rfl)) ?_
        rintro _ w11 ⟨rfl, hs, hl⟩
        refine ⟨trivial, ?_⟩
        replace hF := hF.st hs
        replace hT := hT.trans hs (by simp)
        replace hsb := hsb.st hs (by first | decide | (simp <;> omega))
        replace hW := hW.st hs (by first | decide | (simp <;> omega))
        replace hu := hu.st hs (by first | decide | (simp <;> omega)) (by first | decide | (simp <;> omega))
        replace hv := hv.st hs (by first | decide | (simp <;> omega)) (by first | decide | (simp <;> omega))
        replace hr := hr.st hs (by first | decide | (simp <;> omega)) (by first | decide | (simp <;> omega))
        replace hy := hy.st hs (by first | decide | (simp <;> omega)) (by first | decide | (simp <;> omega))
        replace hcc := hcc.st hs (by first | decide | (simp <;> omega)) (by first | decide | (simp <;> omega))
        refine Sch.nil ?_
        refine run_inBlock ?_
        refine run_plain (id := 14) (ops := F61.o14) [(0, true), (1, true), (2, true)] (by kernel_rfl) (by kernel_rfl) ?_
        refine yS (by kernel_rfl : opAt F61.o14 0 = some (some 108, .move (.tmp 11), none)) rfl rfl (fun w' hS => val_move rfl) ?_
        refine yS (by kernel_rfl : opAt F61.o14 1 = some (some 109, .binOp .add 3 (.tmp 108) (.const (.int .i64 1)) 3, none)) rfl rfl (fun w' hS => val_addi rfl rfl (by omega) (by omega)) ?_
        refine yS (by kernel_rfl : opAt F61.o14 2 = some (some 11, .assign (.tmp 109), none)) rfl rfl (fun w' hS => val_assign rfl) ?_
        refine Sch.nil ?_
        refine kp (sub_cons 0 rfl rfl (sub_cons 5 rfl rfl (sub_cons 7 rfl rfl (sub_cons 8 rfl rfl (sub_cons 11 rfl (eq_int (by simp)) (sub_nil _)))))) (next2 (q + 1, ul1, vl1, ll2.set q (ll2[q]'(by omega) - dl)) _ ⟨(by first | omega | (simp only; omega)), (by first | omega | (simp only; omega)), (by first | omega | (simp only; omega)), (by simp only [List.length_set]; exact hll2), (hR2.op hcq (fun r => by rw [show gI ll2 q = ll2[q]'(by omega) from getD_in _]; exact getD_set (by omega)) hqk), hF, hT, hsb, hW, hu, hv, hr, hy, hl, hcc⟩ (by first | omega | (simp only; omega)))
    · skip
      have hqk : q = j0 + 1 := by omega
      subst hqk
      refine run_exit (id := 2) (by kernel_rfl) rfl ?_
      refine run_seq (x := F61.c61) (y := F61.c62) (by kernel_rfl) ?_
      refine run_plain (id := 19) (ops := F61.o19) [(0, true), (1, true)] (by kernel_rfl) (by kernel_rfl) ?_
      refine yS (by kernel_rfl : opAt F61.o19 0 = some (some 153, .move (.tmp 8), none)) rfl rfl (fun w' hS => val_move rfl) ?_
      refine yS (by kernel_rfl : opAt F61.o19 1 = some (some 4, .assign (.tmp 153), none)) rfl rfl (fun w' hS => val_assign rfl) ?_
      refine Sch.nil ?_
      refine run_ret1 (by kernel_rfl) Try.func61 Try.results61 rfl ?_
      have hig2 : gN rl a = i0 + 1 := hig
      rw [← hig2] at hR hD
      obtain ⟨q1, q2, q3, q4, q5, q6⟩ := reach_law hB hc h3W hp hat hca hR hD hR2
      exact ⟨nx, ul1, vl1, yl1, ll2, rfl, hT, ⟨hsb, hW, hu, hv, hr, hy, hl, hcc, by omega, by omega, by omega, by omega, by omega, by omega⟩, q1, q2, q3, q4, q5, q6⟩
end Go.Proofs.Ytgooehopkmbkfaa
