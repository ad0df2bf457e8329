/- Steps through functions of the program. -/
import Derived.Test.YtbdlkdiadplmcaaJX4
set_option linter.unusedVariables false
set_option linter.unusedSimpArgs false
set_option maxRecDepth 100000
set_option maxHeartbeats 4000000
namespace Go.Proofs.Ytbdlkdiadplmcaa
open Go.K Go.K.Rep

namespace F18
noncomputable def c0 : Code := bodyOf Try.f18
noncomputable def c1 : Code := cl c0
noncomputable def o0 : Array Oper := rops c1
noncomputable def c2 : Code := cr c0
noncomputable def c3 : Code := cl c2
noncomputable def c4 : Code := cl c3
noncomputable def o1 : Array Oper := rops c4
noncomputable def c5 : Code := cr c3
noncomputable def c6 : Code := cl c5
noncomputable def o2 : Array Oper := rops c6
noncomputable def c7 : Code := cr c5
noncomputable def c8 : Code := cl c7
noncomputable def c9 : Code := cl c8
noncomputable def o3 : Array Oper := rops c9
noncomputable def c10 : Code := cr c8
noncomputable def c11 : Code := cr c7
noncomputable def c12 : Code := cr c2
noncomputable def c13 : Code := cl c12
noncomputable def o4 : Array Oper := rops c13
noncomputable def c14 : Code := cr c12
noncomputable def c15 : Code := cl c14
noncomputable def c16 : Code := cl c15
noncomputable def o5 : Array Oper := rops c16
noncomputable def c17 : Code := cr c15
noncomputable def c18 : Code := cl c17
noncomputable def c19 : Code := cl c18
noncomputable def c20 : Code := cl c19
noncomputable def o6 : Array Oper := rops c20
noncomputable def c21 : Code := cr c19
noncomputable def c22 : Code := cl c21
noncomputable def c23 : Code := cl c22
noncomputable def c24 : Code := cr c22
noncomputable def c25 : Code := cr c21
noncomputable def c26 : Code := cl c25
noncomputable def c27 : Code := cl c26
noncomputable def c28 : Code := cl c27
noncomputable def o7 : Array Oper := rops c28
noncomputable def c29 : Code := cr c27
noncomputable def o8 : Array Oper := rops c29
noncomputable def c30 : Code := cr c25
noncomputable def o9 : Array Oper := rops c30
noncomputable def c31 : Code := cr c14
noncomputable def c32 : Code := cl c31
noncomputable def o10 : Array Oper := rops c32
noncomputable def c33 : Code := cr c31
noncomputable def c34 : Code := cl c33
noncomputable def c35 : Code := cl c34
noncomputable def o11 : Array Oper := rops c35
noncomputable def c36 : Code := cr c34
noncomputable def c37 : Code := cl c36
noncomputable def c38 : Code := cl c37
noncomputable def c39 : Code := cl c38
noncomputable def o12 : Array Oper := rops c39
noncomputable def c40 : Code := cr c38
noncomputable def c41 : Code := cl c40
noncomputable def c42 : Code := cl c41
noncomputable def c43 : Code := cr c41
noncomputable def c44 : Code := cr c40
noncomputable def c45 : Code := cl c44
noncomputable def c46 : Code := cl c45
noncomputable def c47 : Code := cl c46
noncomputable def o13 : Array Oper := rops c47
noncomputable def c48 : Code := cr c46
noncomputable def c49 : Code := cl c48
noncomputable def o14 : Array Oper := rops c49
noncomputable def c50 : Code := cr c48
noncomputable def c51 : Code := cl c50
noncomputable def o15 : Array Oper := rops c51
noncomputable def c52 : Code := cr c50
noncomputable def c53 : Code := cl c52
noncomputable def o16 : Array Oper := rops c53
noncomputable def c54 : Code := cr c52
noncomputable def c55 : Code := cr c44
noncomputable def o17 : Array Oper := rops c55
noncomputable def c56 : Code := cr c33
noncomputable def c57 : Code := cl c56
noncomputable def o18 : Array Oper := rops c57
noncomputable def c58 : Code := cr c56
noncomputable def c59 : Code := cl c58
noncomputable def o19 : Array Oper := rops c59
noncomputable def c60 : Code := cr c58
noncomputable def c61 : Code := cl c60
noncomputable def c62 : Code := cl c61
noncomputable def o20 : Array Oper := rops c62
noncomputable def c63 : Code := cr c61
noncomputable def c64 : Code := cl c63
noncomputable def c65 : Code := cl c64
noncomputable def c66 : Code := cl c65
noncomputable def o21 : Array Oper := rops c66
noncomputable def c67 : Code := cr c65
noncomputable def c68 : Code := cl c67
noncomputable def c69 : Code := cl c68
noncomputable def c70 : Code := cr c68
noncomputable def c71 : Code := cr c67
noncomputable def c72 : Code := cl c71
noncomputable def c73 : Code := cl c72
noncomputable def c74 : Code := cl c73
noncomputable def o22 : Array Oper := rops c74
noncomputable def c75 : Code := cr c73
noncomputable def c76 : Code := cl c75
noncomputable def o23 : Array Oper := rops c76
noncomputable def c77 : Code := cr c75
noncomputable def c78 : Code := cl c77
noncomputable def o24 : Array Oper := rops c78
noncomputable def c79 : Code := cr c77
noncomputable def c80 : Code := cl c79
noncomputable def o25 : Array Oper := rops c80
noncomputable def c81 : Code := cr c79
noncomputable def c82 : Code := cl c81
noncomputable def o26 : Array Oper := rops c82
noncomputable def c83 : Code := cr c81
noncomputable def c84 : Code := cr c71
noncomputable def o27 : Array Oper := rops c84
noncomputable def c85 : Code := cr c60
noncomputable def c86 : Code := cl c85
noncomputable def o28 : Array Oper := rops c86
noncomputable def c87 : Code := cr c85
end F18
theorem align_ok {w₀ : World} {C : Nat → Nat} {gs : List Grp} {es : List Ent} {vg ve : Value} (hF : Lim w₀ C) (hg : RV w₀ (Mc C) gs vg) (hes : RV w₀ (Mc C) es ve) (hd : DictOK es) (hlen : gs.length ≤ 1000) : Calls Try.prog 18 #[vg, ve] w₀ (Ret fun v w' => ∃ u, v = .tuple #[u, .int .i64 0] ∧ Stp [] w₀ C w' C ∧ RV w' (Mc C) (alignS (sizesS gs) es) u) := by
  have hF0 := hF
  have hT := Stp.refl [2, 3, 4, 5, 6, 7, 8, 9] w₀ (col1 C)
  replace hF := hF.col1
  replace hg : RV w₀ (Mc (col1 C)) gs vg := by rw [Mc_col1]; exact hg
  replace hes : RV w₀ (Mc (col1 C)) es ve := by rw [Mc_col1]; exact hes
  refine calls_start (c := F18.c0) (N := 90) [vg, ve] Try.func18 (by kernel_rfl) (by kernel_rfl) (by kernel_rfl) ?_
  show Run _ _ _ _ [(0, vg), (1, ve)] _ _
  refine run_seq (x := F18.c1) (y := F18.c2) (by kernel_rfl) ?_
  refine run_plain (id := 0) (ops := F18.o0) [(0, true), (1, true)] (by kernel_rfl) (by kernel_rfl) ?_
  refine yS (by kernel_rfl : opAt F18.o0 0 = some (some 4, .assign (.const (.slice none 0 0)), none)) rfl rfl (fun w' hS => val_assign rfl) ?_
  refine yS (by kernel_rfl : opAt F18.o0 1 = some (some 5, .assign (.const (.int .i64 0)), none)) rfl rfl (fun w' hS => val_assign rfl) ?_
  refine Sch.nil ?_
  refine run_seq (x := F18.c3) (y := F18.c12) (by kernel_rfl) ?_
  refine run_seq (x := F18.c4) (y := F18.c5) (by kernel_rfl) ?_
  refine run_plain (id := 1) (ops := F18.o1) [(0, true), (1, false), (2, true)] (by kernel_rfl) (by kernel_rfl) ?_
  refine yS (by kernel_rfl : opAt F18.o1 0 = some (some 22, .move (.tmp 1), none)) rfl rfl (fun w' hS => val_move rfl) ?_
  refine cS (by kernel_rfl : opAt F18.o1 1 = some (some 23, .call { callee := .value (.func 40), args := #[(.tmp 22)], argTypes := #[43] }, none)) rfl rfl (ent Try.call40 rfl) (dictCheck_ok hF hes hd) ?_
  rintro vw1 w1 ⟨rfl, hs⟩
  refine ⟨trivial, ?_⟩
  replace hF := hF.st hs
  replace hT := hT.trans hs (by simp)
  replace hg := hg.st hs (by first | decide | (simp <;> omega))
  replace hes := hes.st hs (by first | decide | (simp <;> omega))
  refine yS (by kernel_rfl : opAt F18.o1 2 = some (some 6, .assign (.tmp 23), none)) rfl rfl (fun w' hS => val_assign rfl) ?_
  refine Sch.nil ?_
  refine run_seq (x := F18.c6) (y := F18.c7) (by kernel_rfl) ?_
  refine run_plain (id := 2) (ops := F18.o2) [(0, true), (1, true)] (by kernel_rfl) (by kernel_rfl) ?_
  refine yS (by kernel_rfl : opAt F18.o2 0 = some (some 24, .move (.tmp 6), none)) rfl rfl (fun w' hS => val_move rfl) ?_
  refine yS (by kernel_rfl : opAt F18.o2 1 = some (some 25, .binOp .neq 40 (.tmp 24) (.const (.int .i64 0)) 40, none)) rfl rfl (fun w' hS => val_is (val_neq rfl rfl) (show _ = Value.bool false from congrArg Value.bool (decide_eq_false (fun e => e rfl)))) ?_
  refine Sch.nil ?_
  have hvsz := rv_ents_size hes
  have hdl := hd.len
  refine run_cond (x := F18.c8) (y := F18.c11) (o := .tmp 25) (b := false) (by kernel_rfl) rfl (fun h => by cases h) (fun _ => ?_)
  refine run_skip (by kernel_rfl) ?_
  refine run_seq (x := F18.c13) (y := F18.c14) (by kernel_rfl) ?_
  refine run_plain (id := 4) (ops := F18.o4) [(0, true)] (by kernel_rfl) (by kernel_rfl) ?_
  refine yS (by kernel_rfl : opAt F18.o4 0 = some (some 7, .assign (.const (.slice none 0 0)), none)) rfl rfl (fun w' hS => val_assign rfl) ?_
  refine Sch.nil ?_
  refine run_seq (x := F18.c15) (y := F18.c31) (by kernel_rfl) ?_
  refine run_seq (x := F18.c16) (y := F18.c17) (by kernel_rfl) ?_
  refine run_plain (id := 5) (ops := F18.o5) [(0, true), (1, true), (2, true)] (by kernel_rfl) (by kernel_rfl) ?_
  refine yS (by kernel_rfl : opAt F18.o5 0 = some (some 27, .move (.tmp 1), none)) rfl rfl (fun w' hS => val_move rfl) ?_
  refine yS (by kernel_rfl : opAt F18.o5 1 = some (some 28, .call { callee := .builtin .len, args := #[(.tmp 27)], argTypes := #[43] }, none)) rfl rfl (fun w' hS => hes.lenV rfl Try.underlying43 w' ) ?_
  refine yS (by kernel_rfl : opAt F18.o5 2 = some (some 29, .move (.const (.int .i64 0)), none)) rfl rfl (fun w' hS => val_move rfl) ?_
  refine Sch.nil ?_
  refine run_block (x := F18.c18) (id := 0) (by kernel_rfl) ?_
  
  refine run_loop (ι := Nat × Value × (Nat → Nat)) (I := fun x w => x.1 ≤ es.length ∧ Lim w x.2.2 ∧ Stp [2, 3, 4, 5, 6, 7, 8, 9] w₀ (col1 C) w x.2.2 ∧ RV w (Mc x.2.2) es ve ∧ RV w (Mc x.2.2) gs vg ∧ OwnL w x.2.2 3 3 x.2.1 (cntsS (es.take x.1))) (e := fun x => [(0, vg), (1, ve), (7, x.2.1), (27, ve), (28, .int .i64 es.length), (29, .int .i64 x.1)]) (m := fun x => es.length - x.1) (x₀ := (0, .slice none 0 0, col1 C)) (body := F18.c19) (by kernel_rfl) (sub_cons 0 rfl rfl (sub_cons 1 rfl rfl (sub_cons 7 rfl rfl (sub_cons 27 rfl rfl (sub_cons 28 rfl rfl (sub_cons 29 rfl rfl (sub_nil _))))))) ?_ ?_
  · exact ⟨Nat.zero_le _, hF, hT, hes, hg, OwnL.nil⟩
  intro ⟨k, vt, C1⟩ w2 hI next
  obtain ⟨hk, hF, hT, hes, hg, hc⟩ := hI
  try simp only at hk hF hT hes hg hc
  have next1 := next
  clear next
  show Run _ _ _ _ [(0, vg), (1, ve), (7, vt), (27, ve), (28, .int .i64 es.length), (29, .int .i64 k)] _ _
  have hcl := cntsS_len (es.take k)
  rw [List.length_take] at hcl
  refine run_seq (x := F18.c20) (y := F18.c21) (by kernel_rfl) ?_
  refine run_plain (id := 6) (ops := F18.o6) [(0, true)] (by kernel_rfl) (by kernel_rfl) ?_
  refine yS (by kernel_rfl : opAt F18.o6 0 = some (some 30, .binOp .lss 3 (.tmp 29) (.tmp 28) 3, none)) rfl rfl (fun w' hS => val_lss rfl rfl) ?_
  refine Sch.nil ?_
  refine run_seq (x := F18.c22) (y := F18.c25) (by kernel_rfl) ?_
  refine run_if (x := F18.c23) (y := F18.c24) (o := .tmp 30) (by kernel_rfl) rfl (fun h30 => ?_) (fun h30 => ?_)
  · skip
    have hkl : k < es.length := by omega
    have htk := cntsS_take hkl
    refine run_skip (by kernel_rfl) ?_
    refine run_seq (x := F18.c26) (y := F18.c30) (by kernel_rfl) ?_
    refine run_block (x := F18.c27) (id := 1) (by kernel_rfl) ?_
    refine run_seq (x := F18.c28) (y := F18.c29) (by kernel_rfl) ?_
    refine run_plain (id := 7) (ops := F18.o7) [(0, true), (1, false), (2, false), (3, false)] (by kernel_rfl) (by kernel_rfl) ?_
    refine iS (e := 61) (by kernel_rfl : opAt F18.o7 0 = some (some 31, .indexAddr 43 (.tmp 27) (.tmp 29), none)) rfl rfl hes rfl (by kernel_rfl) rfl (by omega) (by omega) ?_
    intro b31 o31 h31
    try simp only [Int.toNat_natCast] at h31
    refine lNA (by kernel_rfl : opAt F18.o7 1 = some (some 32, .load 61 (.tmp 31), none)) rfl rfl trivial h31 (by kernel_rfl) (by kernel_rfl) rfl rfl ?_
    intro v32 g32
    obtain ⟨rfl, hvs32⟩ := rv_ent.1 g32
    clear g32
    refine aS (by kernel_rfl : opAt F18.o7 2 = some (some 9, .alloc 61, none)) rfl rfl (a_alloc (cs := [.string ⟨#[]⟩, .int .i64 0]) hF 5 (by kernel_rfl)) ?_
    rintro _ w3 ⟨Cw3, bw3, rfl, hs, hx, hF⟩
    refine ⟨trivial, ?_⟩
    replace hT := hT.trans hs (by simp)
    replace hes := hes.st hs (by first | decide | (simp <;> omega))
    replace hg := hg.st hs (by first | decide | (simp <;> omega))
    replace hc := hc.st hs (by first | decide | (simp <;> omega)) (by first | decide | (simp <;> omega))
    replace h31 := h31.st hs (by first | decide | (simp <;> omega))
    refine aN (by kernel_rfl : opAt F18.o7 3 = some (none, .store 61 (.tmp 9) (.tmp 32), none)) rfl (a_storeAll (vs := [.string (es[k]'hkl).val, .int .i64 (es[k]'hkl).cnt]) (n := 2) rfl rfl (by kernel_rfl) rfl rfl (by intro z hz; simp only [List.mem_cons, List.not_mem_nil, or_false] at hz; rcases hz with rfl | rfl <;> rfl) hx rfl) ?_
    rintro _ w4 ⟨rfl, hs, hx⟩
    refine ⟨trivial, ?_⟩
    replace hF := hF.st hs
    replace hT := hT.trans hs (by simp)
    replace hes := hes.st hs (by first | decide | (simp <;> omega))
    replace hg := hg.st hs (by first | decide | (simp <;> omega))
    replace hc := hc.st hs (by first | decide | (simp <;> omega)) (by first | decide | (simp <;> omega))
    replace h31 := h31.st hs (by first | decide | (simp <;> omega))
    refine Sch.nil ?_
    refine run_plain (id := 8) (ops := F18.o8) [(0, true), (1, true), (2, false), (3, false), (4, false), (5, true)] (by kernel_rfl) (by kernel_rfl) ?_
    refine yS (by kernel_rfl : opAt F18.o8 0 = some (some 33, .move (.tmp 7), none)) rfl rfl (fun w' hS => val_move rfl) ?_
    refine yS (by kernel_rfl : opAt F18.o8 1 = some (some 34, .fieldAddr 61 (.tmp 9) 1, none)) rfl rfl (fun w' hS => val_fieldAddr (off := 1) (by kernel_rfl) rfl) ?_
    refine nS (by kernel_rfl : opAt F18.o8 2 = some (some 35, .load 3 (.tmp 34), none)) rfl rfl trivial (val_loadOwn hx.at_ (by kernel_rfl) rfl rfl) ?_
    refine aS (by kernel_rfl : opAt F18.o8 3 = some (some 36, .buildSlice 22 1 #[(0, (.tmp 35))], none)) rfl rfl (a_buildSlice (ys := ([(es[k]'hkl).cnt] : List Int)) (e := 3) (bytes := 8) hF (by kernel_rfl) rfl (by decide) (by decide) ⟨rfl, ⟨_, rfl, rv_int.2 rfl⟩, trivial⟩) ?_
    rintro v36 w5 ⟨hs, g36, hF⟩
    refine ⟨trivial, ?_⟩
    replace hT := hT.trans hs (by simp)
    replace hes := hes.st hs (by first | decide | (simp <;> omega))
    replace hg := hg.st hs (by first | decide | (simp <;> omega))
    replace hc := hc.st hs (by first | decide | (simp <;> omega)) (by first | decide | (simp <;> omega))
    replace h31 := h31.st hs (by first | decide | (simp <;> omega))
    replace hx := hx.st hs (by first | decide | (simp <;> omega))
    refine aS (by kernel_rfl : opAt F18.o8 4 = some (some 37, .call { callee := .builtin .append, args := #[(.tmp 33), (.tmp 36)], argTypes := #[22, 22] }, none)) rfl rfl (a_append (e := 3) (bytes := 8) hF (by decide) rfl rfl (by kernel_rfl) (by decide) hc g36 (by simp only [List.length_cons, List.length_nil, List.length_take]; omega) (by simp only [List.length_cons, List.length_nil, List.length_take]; omega)) ?_
    rintro v37 w6 ⟨Cw6, hs, hc, hF⟩
    refine ⟨trivial, ?_⟩
    replace hT := hT.trans hs (by simp)
    replace hes := hes.st hs (by first | decide | (simp <;> omega))
    replace hg := hg.st hs (by first | decide | (simp <;> omega))
    replace h31 := h31.st hs (by first | decide | (simp <;> omega))
    replace hx := hx.st hs (by first | decide | (simp <;> omega))
    replace g36 := g36.st hs (by first | decide | (simp <;> omega))
    refine yS (by kernel_rfl : opAt F18.o8 5 = some (some 7, .assign (.tmp 37), none)) rfl rfl (fun w' hS => val_assign rfl) ?_
    refine Sch.nil ?_
    refine run_inBlock ?_
    refine run_plain (id := 9) (ops := F18.o9) [(0, true), (1, true)] (by kernel_rfl) (by kernel_rfl) ?_
    refine yS (by kernel_rfl : opAt F18.o9 0 = some (some 38, .binOp .add 3 (.tmp 29) (.const (.int .i64 1)) 3, none)) rfl rfl (fun w' hS => val_addi rfl rfl (by omega) (by omega)) ?_
    refine yS (by kernel_rfl : opAt F18.o9 1 = some (some 29, .move (.tmp 38), none)) rfl rfl (fun w' hS => val_move rfl) ?_
    refine Sch.nil ?_
    refine kp (sub_cons 0 rfl rfl (sub_cons 1 rfl rfl (sub_cons 7 rfl rfl (sub_cons 27 rfl rfl (sub_cons 28 rfl rfl (sub_cons 29 rfl (eq_int (by simp)) (sub_nil _))))))) (next1 (k + 1, v37, Cw6) _ ⟨(by first | omega | (simp only; omega)), hF, hT, hes, hg, (by simp only; rw [htk]; exact hc)⟩ (by first | omega | (simp only; omega)))
  · skip
    have hkl : k = es.length := by omega
    rw [hkl, List.take_length] at hc
    have hcl2 := cntsS_len es
    replace hF := hF.frz 3
    replace hT := hT.frz (n := 3) (fun b => Nat.lt_of_lt_of_le (col1_lt2 C b) (by decide))
    replace hes := hes.frz 3
    replace hg := hg.frz 3
    have hcr_ := hc.frz (n := 3) (by decide) (by omega)
    clear hc
    have hcr := hcr_
    clear hcr_
    refine run_exit (id := 0) (by kernel_rfl) rfl ?_
    refine run_seq (x := F18.c32) (y := F18.c33) (by kernel_rfl) ?_
    refine run_plain (id := 10) (ops := F18.o10) [(0, false), (1, true)] (by kernel_rfl) (by kernel_rfl) ?_
    refine aS (by kernel_rfl : opAt F18.o10 0 = some (some 39, .makeMap 80 none, none)) rfl rfl (a_makeMap hF 4 kvI vvS) ?_
    rintro _ wm ⟨Cm, bm, rfl, hs, hm, hF⟩
    refine ⟨trivial, ?_⟩
    replace hT := hT.trans hs (by simp)
    replace hes := hes.st hs (by first | decide | (simp <;> omega))
    replace hg := hg.st hs (by first | decide | (simp <;> omega))
    replace hcr := hcr.st hs (by first | decide | (simp <;> omega))
    refine yS (by kernel_rfl : opAt F18.o10 1 = some (some 10, .assign (.tmp 39), none)) rfl rfl (fun w' hS => val_assign rfl) ?_
    refine Sch.nil ?_
    refine run_seq (x := F18.c34) (y := F18.c56) (by kernel_rfl) ?_
    refine run_seq (x := F18.c35) (y := F18.c36) (by kernel_rfl) ?_
    refine run_plain (id := 11) (ops := F18.o11) [(0, true), (1, true), (2, true)] (by kernel_rfl) (by kernel_rfl) ?_
    refine yS (by kernel_rfl : opAt F18.o11 0 = some (some 40, .move (.tmp 1), none)) rfl rfl (fun w' hS => val_move rfl) ?_
    refine yS (by kernel_rfl : opAt F18.o11 1 = some (some 41, .call { callee := .builtin .len, args := #[(.tmp 40)], argTypes := #[43] }, none)) rfl rfl (fun w' hS => hes.lenV rfl Try.underlying43 w' ) ?_
    refine yS (by kernel_rfl : opAt F18.o11 2 = some (some 42, .move (.const (.int .i64 0)), none)) rfl rfl (fun w' hS => val_move rfl) ?_
    refine Sch.nil ?_
    refine run_block (x := F18.c37) (id := 2) (by kernel_rfl) ?_
    
    refine run_loop (ι := Nat × (Nat → Nat)) (I := fun x w => x.1 ≤ es.length ∧ Lim w x.2 ∧ Stp [2, 3, 4, 5, 6, 7, 8, 9] w₀ (col1 C) w x.2 ∧ RV w (Mc x.2) es ve ∧ RV w (Mc x.2) gs vg ∧ RV w (Mc x.2) (cntsS es) vt ∧ OwnM w x.2 4 bm kvI vvS (valsS es x.1)) (e := fun x => [(0, vg), (1, ve), (7, vt), (10, .map (some bm)), (40, ve), (41, .int .i64 es.length), (42, .int .i64 x.1)]) (m := fun x => es.length - x.1) (x₀ := (0, Cm)) (body := F18.c38) (by kernel_rfl) (sub_cons 0 rfl rfl (sub_cons 1 rfl rfl (sub_cons 7 rfl rfl (sub_cons 10 rfl rfl (sub_cons 40 rfl rfl (sub_cons 41 rfl rfl (sub_cons 42 rfl rfl (sub_nil _)))))))) ?_ ?_
    · exact ⟨Nat.zero_le _, hF, hT, hes, hg, hcr, hm⟩
    intro ⟨k, C1⟩ w7 hI next
    obtain ⟨hk, hF, hT, hes, hg, hcr, hm⟩ := hI
    try simp only at hk hF hT hes hg hcr hm
    have next2 := next
    clear next
    show Run _ _ _ _ [(0, vg), (1, ve), (7, vt), (10, .map (some bm)), (40, ve), (41, .int .i64 es.length), (42, .int .i64 k)] _ _
    refine run_seq (x := F18.c39) (y := F18.c40) (by kernel_rfl) ?_
    refine run_plain (id := 12) (ops := F18.o12) [(0, true)] (by kernel_rfl) (by kernel_rfl) ?_
    refine yS (by kernel_rfl : opAt F18.o12 0 = some (some 43, .binOp .lss 3 (.tmp 42) (.tmp 41) 3, none)) rfl rfl (fun w' hS => val_lss rfl rfl) ?_
    refine Sch.nil ?_
    refine run_seq (x := F18.c41) (y := F18.c44) (by kernel_rfl) ?_
    refine run_if (x := F18.c42) (y := F18.c43) (o := .tmp 43) (by kernel_rfl) rfl (fun h43 => ?_) (fun h43 => ?_)
    · skip
      have hkl : k < es.length := by omega
      refine run_skip (by kernel_rfl) ?_
      refine run_seq (x := F18.c45) (y := F18.c55) (by kernel_rfl) ?_
      refine run_block (x := F18.c46) (id := 3) (by kernel_rfl) ?_
      refine run_seq (x := F18.c47) (y := F18.c48) (by kernel_rfl) ?_
      refine run_plain (id := 13) (ops := F18.o13) [(0, true), (1, true), (2, false), (3, false), (4, true), (5, false)] (by kernel_rfl) (by kernel_rfl) ?_
      refine yS (by kernel_rfl : opAt F18.o13 0 = some (some 44, .move (.tmp 42), none)) rfl rfl (fun w' hS => val_move rfl) ?_
      refine iS (e := 61) (by kernel_rfl : opAt F18.o13 1 = some (some 45, .indexAddr 43 (.tmp 40) (.tmp 42), none)) rfl rfl hes rfl (by kernel_rfl) rfl (by omega) (by omega) ?_
      intro b45 o45 h45
      try simp only [Int.toNat_natCast] at h45
      refine lNA (by kernel_rfl : opAt F18.o13 2 = some (some 46, .load 61 (.tmp 45), none)) rfl rfl trivial h45 (by kernel_rfl) (by kernel_rfl) rfl rfl ?_
      intro v46 g46
      obtain ⟨rfl, hvs46⟩ := rv_ent.1 g46
      clear g46
      refine aS (by kernel_rfl : opAt F18.o13 3 = some (some 12, .alloc 61, none)) rfl rfl (a_alloc (cs := [.string ⟨#[]⟩, .int .i64 0]) hF 5 (by kernel_rfl)) ?_
      rintro _ w8 ⟨Cw8, bw8, rfl, hs, hx, hF⟩
      refine ⟨trivial, ?_⟩
      replace hT := hT.trans hs (by simp)
      replace hes := hes.st hs (by first | decide | (simp <;> omega))
      replace hg := hg.st hs (by first | decide | (simp <;> omega))
      replace hcr := hcr.st hs (by first | decide | (simp <;> omega))
      replace hm := hm.st hs (by first | decide | (simp <;> omega))
      replace h45 := h45.st hs (by first | decide | (simp <;> omega))
      refine yS (by kernel_rfl : opAt F18.o13 4 = some (some 11, .assign (.tmp 44), none)) rfl rfl (fun w' hS => val_assign rfl) ?_
      refine aN (by kernel_rfl : opAt F18.o13 5 = some (none, .store 61 (.tmp 12) (.tmp 46), none)) rfl (a_storeAll (vs := [.string (es[k]'hkl).val, .int .i64 (es[k]'hkl).cnt]) (n := 2) rfl rfl (by kernel_rfl) rfl rfl (by intro z hz; simp only [List.mem_cons, List.not_mem_nil, or_false] at hz; rcases hz with rfl | rfl <;> rfl) hx rfl) ?_
      rintro _ w9 ⟨rfl, hs, hx⟩
      refine ⟨trivial, ?_⟩
      replace hF := hF.st hs
      replace hT := hT.trans hs (by simp)
      replace hes := hes.st hs (by first | decide | (simp <;> omega))
      replace hg := hg.st hs (by first | decide | (simp <;> omega))
      replace hcr := hcr.st hs (by first | decide | (simp <;> omega))
      replace hm := hm.st hs (by first | decide | (simp <;> omega))
      replace h45 := h45.st hs (by first | decide | (simp <;> omega))
      refine Sch.nil ?_
      refine run_seq (x := F18.c49) (y := F18.c50) (by kernel_rfl) ?_
      refine run_plain (id := 14) (ops := F18.o14) [(0, true), (1, true), (2, false), (3, true), (4, true), (5, true), (6, true), (7, true)] (by kernel_rfl) (by kernel_rfl) ?_
      refine yS (by kernel_rfl : opAt F18.o14 0 = some (some 48, .move (.tmp 7), none)) rfl rfl (fun w' hS => val_move rfl) ?_
      refine yS (by kernel_rfl : opAt F18.o14 1 = some (some 49, .move (.tmp 11), none)) rfl rfl (fun w' hS => val_move rfl) ?_
      refine cS (by kernel_rfl : opAt F18.o14 2 = some (some 50, .call { callee := .value (.func 41), args := #[(.tmp 48), (.tmp 49)], argTypes := #[22, 3] }, none)) rfl rfl (ent Try.call41 rfl) (rank_ok (i := k) hcr (by omega)) ?_
      rintro vw10 w10 ⟨rfl, rfl⟩
      refine ⟨trivial, ?_⟩
      refine yS (by kernel_rfl : opAt F18.o14 3 = some (some 47, .move (.tmp 50), none)) rfl rfl (fun w' hS => val_move rfl) ?_
      refine yS (by kernel_rfl : opAt F18.o14 4 = some (some 51, .extract (.tmp 47) 0, none)) rfl rfl (fun w' hS => val_extract rfl rfl) ?_
      refine yS (by kernel_rfl : opAt F18.o14 5 = some (some 52, .extract (.tmp 47) 1, none)) rfl rfl (fun w' hS => val_extract rfl rfl) ?_
      refine yS (by kernel_rfl : opAt F18.o14 6 = some (some 13, .assign (.tmp 51), none)) rfl rfl (fun w' hS => val_assign rfl) ?_
      refine yS (by kernel_rfl : opAt F18.o14 7 = some (some 14, .assign (.tmp 52), none)) rfl rfl (fun w' hS => val_assign rfl) ?_
      refine Sch.nil ?_
      refine run_seq (x := F18.c51) (y := F18.c52) (by kernel_rfl) ?_
      refine run_plain (id := 15) (ops := F18.o15) [(0, true)] (by kernel_rfl) (by kernel_rfl) ?_
      refine yS (by kernel_rfl : opAt F18.o15 0 = some (some 53, .move (.tmp 14), none)) rfl rfl (fun w' hS => val_move rfl) ?_
      refine Sch.nil ?_
      refine run_cond (x := F18.c53) (y := F18.c54) (o := .tmp 53) (by kernel_rfl) rfl (fun h53 => ?_) (fun h53 => ?_)
      · skip
        refine run_plain (id := 16) (ops := F18.o16) [(0, true), (1, true), (2, true), (3, false), (4, false)] (by kernel_rfl) (by kernel_rfl) ?_
        refine yS (by kernel_rfl : opAt F18.o16 0 = some (some 54, .move (.tmp 10), none)) rfl rfl (fun w' hS => val_move rfl) ?_
        refine yS (by kernel_rfl : opAt F18.o16 1 = some (some 55, .move (.tmp 13), none)) rfl rfl (fun w' hS => val_move rfl) ?_
        refine yS (by kernel_rfl : opAt F18.o16 2 = some (some 56, .fieldAddr 61 (.tmp 12) 0, none)) rfl rfl (fun w' hS => val_fieldAddr (off := 0) (by kernel_rfl) rfl) ?_
        refine nS (by kernel_rfl : opAt F18.o16 3 = some (some 57, .load 9 (.tmp 56), none)) rfl rfl trivial (val_loadOwn hx.at_ (by kernel_rfl) rfl rfl) ?_
        refine aN (by kernel_rfl : opAt F18.o16 4 = some (none, .mapUpdate 80 (.tmp 54) (.tmp 55) (.tmp 57), none)) rfl (a_mapUpdate (k := (rankS (cntsS es) k : Int)) (u := (es[k]'hkl).val) hm Try.underlying80 (keyOK_int Try.underlying3) rfl rfl rfl) ?_
        rintro _ w11 ⟨rfl, hs, hm⟩
        refine ⟨trivial, ?_⟩
        replace hF := hF.st hs
        replace hT := hT.trans hs (by simp)
        replace hes := hes.st hs (by first | decide | (simp <;> omega))
        replace hg := hg.st hs (by first | decide | (simp <;> omega))
        replace hcr := hcr.st hs (by first | decide | (simp <;> omega))
        replace h45 := h45.st hs (by first | decide | (simp <;> omega))
        replace hx := hx.st hs (by first | decide | (simp <;> omega))
        refine Sch.nil ?_
        refine run_inBlock ?_
        refine run_plain (id := 17) (ops := F18.o17) [(0, true), (1, true)] (by kernel_rfl) (by kernel_rfl) ?_
        refine yS (by kernel_rfl : opAt F18.o17 0 = some (some 58, .binOp .add 3 (.tmp 42) (.const (.int .i64 1)) 3, none)) rfl rfl (fun w' hS => val_addi rfl rfl (by omega) (by omega)) ?_
        refine yS (by kernel_rfl : opAt F18.o17 1 = some (some 42, .move (.tmp 58), none)) rfl rfl (fun w' hS => val_move rfl) ?_
        refine Sch.nil ?_
        refine kp (sub_cons 0 rfl rfl (sub_cons 1 rfl rfl (sub_cons 7 rfl rfl (sub_cons 10 rfl rfl (sub_cons 40 rfl rfl (sub_cons 41 rfl rfl (sub_cons 42 rfl (eq_int (by simp)) (sub_nil _)))))))) (next2 (k + 1, Cw8) _ ⟨(by first | omega | (simp only; omega)), hF, hT, hes, hg, hcr, (by simp only; rw [valsS_succ, if_pos (by simpa using h53), getD_ent hkl]; exact hm)⟩ (by first | omega | (simp only; omega)))
      · skip
        refine run_skip (by kernel_rfl) ?_
        refine run_inBlock ?_
        refine run_plain (id := 17) (ops := F18.o17) [(0, true), (1, true)] (by kernel_rfl) (by kernel_rfl) ?_
        refine yS (by kernel_rfl : opAt F18.o17 0 = some (some 58, .binOp .add 3 (.tmp 42) (.const (.int .i64 1)) 3, none)) rfl rfl (fun w' hS => val_addi rfl rfl (by omega) (by omega)) ?_
        refine yS (by kernel_rfl : opAt F18.o17 1 = some (some 42, .move (.tmp 58), none)) rfl rfl (fun w' hS => val_move rfl) ?_
        refine Sch.nil ?_
        refine kp (sub_cons 0 rfl rfl (sub_cons 1 rfl rfl (sub_cons 7 rfl rfl (sub_cons 10 rfl rfl (sub_cons 40 rfl rfl (sub_cons 41 rfl rfl (sub_cons 42 rfl (eq_int (by simp)) (sub_nil _)))))))) (next2 (k + 1, Cw8) _ ⟨(by first | omega | (simp only; omega)), hF, hT, hes, hg, hcr, (by simp only; rw [valsS_succ, if_neg (by simpa using h53)]; exact hm)⟩ (by first | omega | (simp only; omega)))
    · skip
      have hkl : k = es.length := by omega
      rw [hkl] at hm
      refine run_exit (id := 2) (by kernel_rfl) rfl ?_
      refine run_seq (x := F18.c57) (y := F18.c58) (by kernel_rfl) ?_
      refine run_plain (id := 18) (ops := F18.o18) [(0, true)] (by kernel_rfl) (by kernel_rfl) ?_
      refine yS (by kernel_rfl : opAt F18.o18 0 = some (some 15, .assign (.const (.slice none 0 0)), none)) rfl rfl (fun w' hS => val_assign rfl) ?_
      refine Sch.nil ?_
      refine run_seq (x := F18.c59) (y := F18.c60) (by kernel_rfl) ?_
      refine run_plain (id := 19) (ops := F18.o19) [(0, true), (1, false), (2, true)] (by kernel_rfl) (by kernel_rfl) ?_
      refine yS (by kernel_rfl : opAt F18.o19 0 = some (some 59, .move (.tmp 0), none)) rfl rfl (fun w' hS => val_move rfl) ?_
      refine cS (by kernel_rfl : opAt F18.o19 1 = some (some 60, .call { callee := .value (.func 42), args := #[(.tmp 59)], argTypes := #[29] }, none)) rfl rfl (ent Try.call42 rfl) (sizes_ok hF hg hlen) ?_
      rintro vz w12 ⟨hs, hsz⟩
      refine ⟨trivial, ?_⟩
      replace hF := hF.st hs
      replace hT := hT.trans hs (by simp)
      replace hes := hes.st hs (by first | decide | (simp <;> omega))
      replace hg := hg.st hs (by first | decide | (simp <;> omega))
      replace hcr := hcr.st hs (by first | decide | (simp <;> omega))
      replace hm := hm.st hs (by first | decide | (simp <;> omega))
      refine yS (by kernel_rfl : opAt F18.o19 2 = some (some 16, .assign (.tmp 60), none)) rfl rfl (fun w' hS => val_assign rfl) ?_
      refine Sch.nil ?_
      have hszl := sizesS_len gs
      obtain ⟨sz, hsd⟩ : ∃ x, x = sizesS gs := ⟨_, rfl⟩
      rw [← hsd] at hsz hszl
      obtain ⟨um, hum⟩ : ∃ x, x = valsS es es.length := ⟨_, rfl⟩
      rw [← hum] at hm
      have hus := fun r v (h : mget um r = some v) => vals_size hvsz (r := r) (v := v) (by rw [← hum]; exact h)
      refine run_seq (x := F18.c61) (y := F18.c85) (by kernel_rfl) ?_
      refine run_seq (x := F18.c62) (y := F18.c63) (by kernel_rfl) ?_
      refine run_plain (id := 20) (ops := F18.o20) [(0, true), (1, true), (2, true)] (by kernel_rfl) (by kernel_rfl) ?_
      refine yS (by kernel_rfl : opAt F18.o20 0 = some (some 61, .move (.tmp 0), none)) rfl rfl (fun w' hS => val_move rfl) ?_
      refine yS (by kernel_rfl : opAt F18.o20 1 = some (some 62, .call { callee := .builtin .len, args := #[(.tmp 61)], argTypes := #[29] }, none)) rfl rfl (fun w' hS => hg.lenV rfl Try.underlying29 w' ) ?_
      refine yS (by kernel_rfl : opAt F18.o20 2 = some (some 63, .move (.const (.int .i64 0)), none)) rfl rfl (fun w' hS => val_move rfl) ?_
      refine Sch.nil ?_
      refine run_block (x := F18.c64) (id := 4) (by kernel_rfl) ?_
      
      refine run_loop (ι := Nat × Value × (Nat → Nat)) (I := fun x w => x.1 ≤ gs.length ∧ Lim w x.2.2 ∧ Stp [2, 3, 4, 5, 6, 7, 8, 9] w₀ (col1 C) w x.2.2 ∧ RV w (Mc x.2.2) sz vz ∧ OwnM w x.2.2 4 bm kvI vvS um ∧ OwnL w x.2.2 6 56 x.2.1 (alignK sz um x.1)) (e := fun x => [(10, .map (some bm)), (15, x.2.1), (16, vz), (62, .int .i64 gs.length), (63, .int .i64 x.1)]) (m := fun x => gs.length - x.1) (x₀ := (0, .slice none 0 0, C1)) (body := F18.c65) (by kernel_rfl) (sub_cons 10 rfl rfl (sub_cons 15 rfl rfl (sub_cons 16 rfl rfl (sub_cons 62 rfl rfl (sub_cons 63 rfl rfl (sub_nil _)))))) ?_ ?_
      · exact ⟨Nat.zero_le _, hF, hT, hsz, hm, OwnL.nil⟩
      intro ⟨k, vo, C1⟩ w13 hI next
      obtain ⟨hk, hF, hT, hsz, hm, ho⟩ := hI
      try simp only at hk hF hT hsz hm ho
      have next3 := next
      clear next
      show Run _ _ _ _ [(10, .map (some bm)), (15, vo), (16, vz), (62, .int .i64 gs.length), (63, .int .i64 k)] _ _
      have hal := alignK_len (sz := sz) (u := um) (k := k)
      refine run_seq (x := F18.c66) (y := F18.c67) (by kernel_rfl) ?_
      refine run_plain (id := 21) (ops := F18.o21) [(0, true)] (by kernel_rfl) (by kernel_rfl) ?_
      refine yS (by kernel_rfl : opAt F18.o21 0 = some (some 64, .binOp .lss 3 (.tmp 63) (.tmp 62) 3, none)) rfl rfl (fun w' hS => val_lss rfl rfl) ?_
      refine Sch.nil ?_
      refine run_seq (x := F18.c68) (y := F18.c71) (by kernel_rfl) ?_
      refine run_if (x := F18.c69) (y := F18.c70) (o := .tmp 64) (by kernel_rfl) rfl (fun h64 => ?_) (fun h64 => ?_)
      · skip
        have hkl : k < gs.length := by omega
        have hsu := alignK_succ (sz := sz) (u := um) (k := k)
        refine run_skip (by kernel_rfl) ?_
        refine run_seq (x := F18.c72) (y := F18.c84) (by kernel_rfl) ?_
        refine run_block (x := F18.c73) (id := 5) (by kernel_rfl) ?_
        refine run_seq (x := F18.c74) (y := F18.c75) (by kernel_rfl) ?_
        refine run_plain (id := 22) (ops := F18.o22) [(0, true), (1, true)] (by kernel_rfl) (by kernel_rfl) ?_
        refine yS (by kernel_rfl : opAt F18.o22 0 = some (some 65, .move (.tmp 63), none)) rfl rfl (fun w' hS => val_move rfl) ?_
        refine yS (by kernel_rfl : opAt F18.o22 1 = some (some 17, .assign (.tmp 65), none)) rfl rfl (fun w' hS => val_assign rfl) ?_
        refine Sch.nil ?_
        refine run_seq (x := F18.c76) (y := F18.c77) (by kernel_rfl) ?_
        by_cases hS : singS sz k = true
        · skip
          by_cases hA : (mget um (rankS sz k : Int)).isSome = true
          · skip
            refine run_plain (id := 23) (ops := F18.o23) [(0, true), (1, true), (2, false), (3, true), (4, true), (5, true), (6, true), (7, true)] (by kernel_rfl) (by kernel_rfl) ?_
            refine yS (by kernel_rfl : opAt F18.o23 0 = some (some 67, .move (.tmp 16), none)) rfl rfl (fun w' hS => val_move rfl) ?_
            refine yS (by kernel_rfl : opAt F18.o23 1 = some (some 68, .move (.tmp 17), none)) rfl rfl (fun w' hS => val_move rfl) ?_
            refine cS (by kernel_rfl : opAt F18.o23 2 = some (some 69, .call { callee := .value (.func 41), args := #[(.tmp 67), (.tmp 68)], argTypes := #[22, 3] }, none)) rfl rfl (ent Try.call41 rfl) (rank_ok (i := k) hsz (by omega)) ?_
            rintro vw14 w14 ⟨rfl, rfl⟩
            rw [hS]
            refine ⟨trivial, ?_⟩
            refine yS (by kernel_rfl : opAt F18.o23 3 = some (some 66, .move (.tmp 69), none)) rfl rfl (fun w' hS => val_move rfl) ?_
            refine yS (by kernel_rfl : opAt F18.o23 4 = some (some 70, .extract (.tmp 66) 0, none)) rfl rfl (fun w' hS => val_extract rfl rfl) ?_
            refine yS (by kernel_rfl : opAt F18.o23 5 = some (some 71, .extract (.tmp 66) 1, none)) rfl rfl (fun w' hS => val_extract rfl rfl) ?_
            refine yS (by kernel_rfl : opAt F18.o23 6 = some (some 18, .assign (.tmp 70), none)) rfl rfl (fun w' hS => val_assign rfl) ?_
            refine yS (by kernel_rfl : opAt F18.o23 7 = some (some 19, .assign (.tmp 71), none)) rfl rfl (fun w' hS => val_assign rfl) ?_
            refine Sch.nil ?_
            refine run_seq (x := F18.c78) (y := F18.c79) (by kernel_rfl) ?_
            refine run_plain (id := 24) (ops := F18.o24) [(0, true), (1, true), (2, false), (3, true), (4, true), (5, true), (6, true), (7, true)] (by kernel_rfl) (by kernel_rfl) ?_
            refine yS (by kernel_rfl : opAt F18.o24 0 = some (some 73, .move (.tmp 10), none)) rfl rfl (fun w' hS => val_move rfl) ?_
            refine yS (by kernel_rfl : opAt F18.o24 1 = some (some 74, .move (.tmp 18), none)) rfl rfl (fun w' hS => val_move rfl) ?_
            obtain ⟨vv, hvv⟩ := Option.isSome_iff_exists.1 hA
            refine nS (by kernel_rfl : opAt F18.o24 2 = some (some 75, .lookup 80 (.tmp 73) (.tmp 74) true, none)) rfl rfl trivial (val_is (hm.lookupOk (z0 := (⟨#[]⟩ : ByteArray)) (k := (rankS sz k : Int)) Try.underlying80 (keyOK_int Try.underlying3) Try.zeroValue9 rfl rfl) (show _ = Value.tuple #[.string vv, .bool true] from by rw [hvv]; rfl)) ?_
            refine yS (by kernel_rfl : opAt F18.o24 3 = some (some 72, .move (.tmp 75), none)) rfl rfl (fun w' hS => val_move rfl) ?_
            refine yS (by kernel_rfl : opAt F18.o24 4 = some (some 76, .extract (.tmp 72) 0, none)) rfl rfl (fun w' hS => val_extract rfl rfl) ?_
            refine yS (by kernel_rfl : opAt F18.o24 5 = some (some 77, .extract (.tmp 72) 1, none)) rfl rfl (fun w' hS => val_extract rfl rfl) ?_
            refine yS (by kernel_rfl : opAt F18.o24 6 = some (some 20, .assign (.tmp 76), none)) rfl rfl (fun w' hS => val_assign rfl) ?_
            refine yS (by kernel_rfl : opAt F18.o24 7 = some (some 21, .assign (.tmp 77), none)) rfl rfl (fun w' hS => val_assign rfl) ?_
            refine Sch.nil ?_
            refine run_seq (x := F18.c80) (y := F18.c81) (by kernel_rfl) ?_
            refine run_plain (id := 25) (ops := F18.o25) [(0, true), (1, true), (2, true), (3, true)] (by kernel_rfl) (by kernel_rfl) ?_
            refine yS (by kernel_rfl : opAt F18.o25 0 = some (some 78, .move (.tmp 19), none)) rfl rfl (fun w' hS => val_move rfl) ?_
            refine yS (by kernel_rfl : opAt F18.o25 1 = some (some 79, .move (.tmp 78), none)) rfl rfl (fun w' hS => val_move rfl) ?_
            refine yS (by kernel_rfl : opAt F18.o25 2 = some (some 80, .move (.tmp 21), (some (1, true)))) rfl rfl (fun w' hS => val_move rfl) ?_
            refine yS (by kernel_rfl : opAt F18.o25 3 = some (some 81, .pick (.tmp 79) (.tmp 80) (.const (.bool false)), none)) rfl rfl (fun w' hS => val_pick_t rfl rfl) ?_
            refine Sch.nil ?_
            refine run_cond (x := F18.c82) (y := F18.c83) (o := .tmp 81) (b := true) (by kernel_rfl) rfl (fun _ => ?_) (fun h => by cases h)
            refine run_plain (id := 26) (ops := F18.o26) [(0, true), (1, true), (2, true), (3, true), (4, false), (5, false), (6, true)] (by kernel_rfl) (by kernel_rfl) ?_
            refine yS (by kernel_rfl : opAt F18.o26 0 = some (some 82, .move (.tmp 15), none)) rfl rfl (fun w' hS => val_move rfl) ?_
            refine yS (by kernel_rfl : opAt F18.o26 1 = some (some 83, .move (.tmp 17), none)) rfl rfl (fun w' hS => val_move rfl) ?_
            refine yS (by kernel_rfl : opAt F18.o26 2 = some (some 84, .move (.tmp 20), none)) rfl rfl (fun w' hS => val_move rfl) ?_
            refine yS (by kernel_rfl : opAt F18.o26 3 = some (some 85, .build 56 #[(0, (.tmp 83)), (1, (.tmp 84))], none)) rfl rfl (fun w' hS => val_build (zs := [.int .i64 0, .string ⟨#[]⟩]) (ps := [(0, 1), (1, 1)]) (qs := [(0, [.int .i64 k]), (1, [.string vv])]) (cs := [.int .i64 k, .string vv]) (by kernel_rfl) (by kernel_rfl) (by exact ⟨rfl, ⟨_, rfl, rfl⟩, rfl, ⟨_, rfl, rfl⟩, trivial⟩) rfl) ?_
            refine aS (by kernel_rfl : opAt F18.o26 4 = some (some 86, .buildSlice 45 1 #[(0, (.tmp 85))], none)) rfl rfl (a_buildSlice (ys := ([⟨(k : Int), vv⟩] : List Gss)) (e := 56) (bytes := 24) hF (by kernel_rfl) rfl (by decide) (by decide) ⟨rfl, ⟨_, rfl, rv_gss.2 ⟨rfl, hus _ _ hvv⟩⟩, trivial⟩) ?_
            rintro v86 w15 ⟨hs, g86, hF⟩
            refine ⟨trivial, ?_⟩
            replace hT := hT.trans hs (by simp)
            replace hsz := hsz.st hs (by first | decide | (simp <;> omega))
            replace hm := hm.st hs (by first | decide | (simp <;> omega))
            replace ho := ho.st hs (by first | decide | (simp <;> omega)) (by first | decide | (simp <;> omega))
            refine aS (by kernel_rfl : opAt F18.o26 5 = some (some 87, .call { callee := .builtin .append, args := #[(.tmp 82), (.tmp 86)], argTypes := #[45, 45] }, none)) rfl rfl (a_append (e := 56) (bytes := 24) hF (by decide) rfl rfl (by kernel_rfl) (by decide) ho g86 (by simp only [List.length_cons, List.length_nil, List.length_take]; omega) (by simp only [List.length_cons, List.length_nil, List.length_take]; omega)) ?_
            rintro v87 w16 ⟨Cw16, hs, ho, hF⟩
            refine ⟨trivial, ?_⟩
            replace hT := hT.trans hs (by simp)
            replace hsz := hsz.st hs (by first | decide | (simp <;> omega))
            replace hm := hm.st hs (by first | decide | (simp <;> omega))
            replace g86 := g86.st hs (by first | decide | (simp <;> omega))
            refine yS (by kernel_rfl : opAt F18.o26 6 = some (some 15, .assign (.tmp 87), none)) rfl rfl (fun w' hS => val_assign rfl) ?_
            refine Sch.nil ?_
            refine run_inBlock ?_
            refine run_plain (id := 27) (ops := F18.o27) [(0, true), (1, true)] (by kernel_rfl) (by kernel_rfl) ?_
            refine yS (by kernel_rfl : opAt F18.o27 0 = some (some 88, .binOp .add 3 (.tmp 63) (.const (.int .i64 1)) 3, none)) rfl rfl (fun w' hS => val_addi rfl rfl (by omega) (by omega)) ?_
            refine yS (by kernel_rfl : opAt F18.o27 1 = some (some 63, .move (.tmp 88), none)) rfl rfl (fun w' hS => val_move rfl) ?_
            refine Sch.nil ?_
            have hgs : guessS sz um k = some ⟨(k : Int), vv⟩ := by unfold guessS; rw [if_pos hS, hvv]; rfl
            rw [hgs] at hsu
            refine kp (sub_cons 10 rfl rfl (sub_cons 15 rfl rfl (sub_cons 16 rfl rfl (sub_cons 62 rfl rfl (sub_cons 63 rfl (eq_int (by simp)) (sub_nil _)))))) (next3 (k + 1, v87, Cw16) _ ⟨(by first | omega | (simp only; omega)), hF, hT, hsz, hm, (by simp only; rw [hsu]; exact ho)⟩ (by first | omega | (simp only; omega)))
          · skip
            refine run_plain (id := 23) (ops := F18.o23) [(0, true), (1, true), (2, false), (3, true), (4, true), (5, true), (6, true), (7, true)] (by kernel_rfl) (by kernel_rfl) ?_
            refine yS (by kernel_rfl : opAt F18.o23 0 = some (some 67, .move (.tmp 16), none)) rfl rfl (fun w' hS => val_move rfl) ?_
            refine yS (by kernel_rfl : opAt F18.o23 1 = some (some 68, .move (.tmp 17), none)) rfl rfl (fun w' hS => val_move rfl) ?_
            refine cS (by kernel_rfl : opAt F18.o23 2 = some (some 69, .call { callee := .value (.func 41), args := #[(.tmp 67), (.tmp 68)], argTypes := #[22, 3] }, none)) rfl rfl (ent Try.call41 rfl) (rank_ok (i := k) hsz (by omega)) ?_
            rintro vw17 w17 ⟨rfl, rfl⟩
            rw [hS]
            refine ⟨trivial, ?_⟩
            refine yS (by kernel_rfl : opAt F18.o23 3 = some (some 66, .move (.tmp 69), none)) rfl rfl (fun w' hS => val_move rfl) ?_
            refine yS (by kernel_rfl : opAt F18.o23 4 = some (some 70, .extract (.tmp 66) 0, none)) rfl rfl (fun w' hS => val_extract rfl rfl) ?_
            refine yS (by kernel_rfl : opAt F18.o23 5 = some (some 71, .extract (.tmp 66) 1, none)) rfl rfl (fun w' hS => val_extract rfl rfl) ?_
            refine yS (by kernel_rfl : opAt F18.o23 6 = some (some 18, .assign (.tmp 70), none)) rfl rfl (fun w' hS => val_assign rfl) ?_
            refine yS (by kernel_rfl : opAt F18.o23 7 = some (some 19, .assign (.tmp 71), none)) rfl rfl (fun w' hS => val_assign rfl) ?_
            refine Sch.nil ?_
            refine run_seq (x := F18.c78) (y := F18.c79) (by kernel_rfl) ?_
            refine run_plain (id := 24) (ops := F18.o24) [(0, true), (1, true), (2, false), (3, true), (4, true), (5, true), (6, true), (7, true)] (by kernel_rfl) (by kernel_rfl) ?_
            refine yS (by kernel_rfl : opAt F18.o24 0 = some (some 73, .move (.tmp 10), none)) rfl rfl (fun w' hS => val_move rfl) ?_
            refine yS (by kernel_rfl : opAt F18.o24 1 = some (some 74, .move (.tmp 18), none)) rfl rfl (fun w' hS => val_move rfl) ?_
            have hvv : mget um (rankS sz k : Int) = none := by simpa using hA
            refine nS (by kernel_rfl : opAt F18.o24 2 = some (some 75, .lookup 80 (.tmp 73) (.tmp 74) true, none)) rfl rfl trivial (val_is (hm.lookupOk (z0 := (⟨#[]⟩ : ByteArray)) (k := (rankS sz k : Int)) Try.underlying80 (keyOK_int Try.underlying3) Try.zeroValue9 rfl rfl) (show _ = Value.tuple #[.string ⟨#[]⟩, .bool false] from by rw [hvv]; rfl)) ?_
            refine yS (by kernel_rfl : opAt F18.o24 3 = some (some 72, .move (.tmp 75), none)) rfl rfl (fun w' hS => val_move rfl) ?_
            refine yS (by kernel_rfl : opAt F18.o24 4 = some (some 76, .extract (.tmp 72) 0, none)) rfl rfl (fun w' hS => val_extract rfl rfl) ?_
            refine yS (by kernel_rfl : opAt F18.o24 5 = some (some 77, .extract (.tmp 72) 1, none)) rfl rfl (fun w' hS => val_extract rfl rfl) ?_
            refine yS (by kernel_rfl : opAt F18.o24 6 = some (some 20, .assign (.tmp 76), none)) rfl rfl (fun w' hS => val_assign rfl) ?_
            refine yS (by kernel_rfl : opAt F18.o24 7 = some (some 21, .assign (.tmp 77), none)) rfl rfl (fun w' hS => val_assign rfl) ?_
            refine Sch.nil ?_
            refine run_seq (x := F18.c80) (y := F18.c81) (by kernel_rfl) ?_
            refine run_plain (id := 25) (ops := F18.o25) [(0, true), (1, true), (2, true), (3, true)] (by kernel_rfl) (by kernel_rfl) ?_
            refine yS (by kernel_rfl : opAt F18.o25 0 = some (some 78, .move (.tmp 19), none)) rfl rfl (fun w' hS => val_move rfl) ?_
            refine yS (by kernel_rfl : opAt F18.o25 1 = some (some 79, .move (.tmp 78), none)) rfl rfl (fun w' hS => val_move rfl) ?_
            refine yS (by kernel_rfl : opAt F18.o25 2 = some (some 80, .move (.tmp 21), (some (1, true)))) rfl rfl (fun w' hS => val_move rfl) ?_
            refine yS (by kernel_rfl : opAt F18.o25 3 = some (some 81, .pick (.tmp 79) (.tmp 80) (.const (.bool false)), none)) rfl rfl (fun w' hS => val_pick_t rfl rfl) ?_
            refine Sch.nil ?_
            refine run_cond (x := F18.c82) (y := F18.c83) (o := .tmp 81) (b := false) (by kernel_rfl) rfl (fun h => by cases h) (fun _ => ?_)
            refine run_skip (by kernel_rfl) ?_
            refine run_inBlock ?_
            refine run_plain (id := 27) (ops := F18.o27) [(0, true), (1, true)] (by kernel_rfl) (by kernel_rfl) ?_
            refine yS (by kernel_rfl : opAt F18.o27 0 = some (some 88, .binOp .add 3 (.tmp 63) (.const (.int .i64 1)) 3, none)) rfl rfl (fun w' hS => val_addi rfl rfl (by omega) (by omega)) ?_
            refine yS (by kernel_rfl : opAt F18.o27 1 = some (some 63, .move (.tmp 88), none)) rfl rfl (fun w' hS => val_move rfl) ?_
            refine Sch.nil ?_
            have hgs : guessS sz um k = none := by unfold guessS; rw [if_pos hS, hvv]; rfl
            rw [hgs] at hsu
            refine kp (sub_cons 10 rfl rfl (sub_cons 15 rfl rfl (sub_cons 16 rfl rfl (sub_cons 62 rfl rfl (sub_cons 63 rfl (eq_int (by simp)) (sub_nil _)))))) (next3 (k + 1, vo, C1) _ ⟨(by first | omega | (simp only; omega)), hF, hT, hsz, hm, (by simp only; rw [hsu]; simpa using ho)⟩ (by first | omega | (simp only; omega)))
        · skip
          by_cases hA : (mget um (rankS sz k : Int)).isSome = true
          · skip
            refine run_plain (id := 23) (ops := F18.o23) [(0, true), (1, true), (2, false), (3, true), (4, true), (5, true), (6, true), (7, true)] (by kernel_rfl) (by kernel_rfl) ?_
            refine yS (by kernel_rfl : opAt F18.o23 0 = some (some 67, .move (.tmp 16), none)) rfl rfl (fun w' hS => val_move rfl) ?_
            refine yS (by kernel_rfl : opAt F18.o23 1 = some (some 68, .move (.tmp 17), none)) rfl rfl (fun w' hS => val_move rfl) ?_
            refine cS (by kernel_rfl : opAt F18.o23 2 = some (some 69, .call { callee := .value (.func 41), args := #[(.tmp 67), (.tmp 68)], argTypes := #[22, 3] }, none)) rfl rfl (ent Try.call41 rfl) (rank_ok (i := k) hsz (by omega)) ?_
            rintro vw18 w18 ⟨rfl, rfl⟩
            rw [Bool.eq_false_iff.2 hS]
            refine ⟨trivial, ?_⟩
            refine yS (by kernel_rfl : opAt F18.o23 3 = some (some 66, .move (.tmp 69), none)) rfl rfl (fun w' hS => val_move rfl) ?_
            refine yS (by kernel_rfl : opAt F18.o23 4 = some (some 70, .extract (.tmp 66) 0, none)) rfl rfl (fun w' hS => val_extract rfl rfl) ?_
            refine yS (by kernel_rfl : opAt F18.o23 5 = some (some 71, .extract (.tmp 66) 1, none)) rfl rfl (fun w' hS => val_extract rfl rfl) ?_
            refine yS (by kernel_rfl : opAt F18.o23 6 = some (some 18, .assign (.tmp 70), none)) rfl rfl (fun w' hS => val_assign rfl) ?_
            refine yS (by kernel_rfl : opAt F18.o23 7 = some (some 19, .assign (.tmp 71), none)) rfl rfl (fun w' hS => val_assign rfl) ?_
            refine Sch.nil ?_
            refine run_seq (x := F18.c78) (y := F18.c79) (by kernel_rfl) ?_
            refine run_plain (id := 24) (ops := F18.o24) [(0, true), (1, true), (2, false), (3, true), (4, true), (5, true), (6, true), (7, true)] (by kernel_rfl) (by kernel_rfl) ?_
            refine yS (by kernel_rfl : opAt F18.o24 0 = some (some 73, .move (.tmp 10), none)) rfl rfl (fun w' hS => val_move rfl) ?_
            refine yS (by kernel_rfl : opAt F18.o24 1 = some (some 74, .move (.tmp 18), none)) rfl rfl (fun w' hS => val_move rfl) ?_
            obtain ⟨vv, hvv⟩ := Option.isSome_iff_exists.1 hA
            refine nS (by kernel_rfl : opAt F18.o24 2 = some (some 75, .lookup 80 (.tmp 73) (.tmp 74) true, none)) rfl rfl trivial (val_is (hm.lookupOk (z0 := (⟨#[]⟩ : ByteArray)) (k := (rankS sz k : Int)) Try.underlying80 (keyOK_int Try.underlying3) Try.zeroValue9 rfl rfl) (show _ = Value.tuple #[.string vv, .bool true] from by rw [hvv]; rfl)) ?_
            refine yS (by kernel_rfl : opAt F18.o24 3 = some (some 72, .move (.tmp 75), none)) rfl rfl (fun w' hS => val_move rfl) ?_
            refine yS (by kernel_rfl : opAt F18.o24 4 = some (some 76, .extract (.tmp 72) 0, none)) rfl rfl (fun w' hS => val_extract rfl rfl) ?_
            refine yS (by kernel_rfl : opAt F18.o24 5 = some (some 77, .extract (.tmp 72) 1, none)) rfl rfl (fun w' hS => val_extract rfl rfl) ?_
            refine yS (by kernel_rfl : opAt F18.o24 6 = some (some 20, .assign (.tmp 76), none)) rfl rfl (fun w' hS => val_assign rfl) ?_
            refine yS (by kernel_rfl : opAt F18.o24 7 = some (some 21, .assign (.tmp 77), none)) rfl rfl (fun w' hS => val_assign rfl) ?_
            refine Sch.nil ?_
            refine run_seq (x := F18.c80) (y := F18.c81) (by kernel_rfl) ?_
            refine run_plain (id := 25) (ops := F18.o25) [(0, true), (1, true), (2, true), (3, true)] (by kernel_rfl) (by kernel_rfl) ?_
            refine yS (by kernel_rfl : opAt F18.o25 0 = some (some 78, .move (.tmp 19), none)) rfl rfl (fun w' hS => val_move rfl) ?_
            refine yS (by kernel_rfl : opAt F18.o25 1 = some (some 79, .move (.tmp 78), none)) rfl rfl (fun w' hS => val_move rfl) ?_
            refine pS (by kernel_rfl : opAt F18.o25 2 = some (some 80, .move (.tmp 21), (some (1, true)))) rfl rfl ?_
            refine yS (by kernel_rfl : opAt F18.o25 3 = some (some 81, .pick (.tmp 79) (.tmp 80) (.const (.bool false)), none)) rfl rfl (fun w' hS => val_pick_f rfl rfl) ?_
            refine Sch.nil ?_
            refine run_cond (x := F18.c82) (y := F18.c83) (o := .tmp 81) (b := false) (by kernel_rfl) rfl (fun h => by cases h) (fun _ => ?_)
            refine run_skip (by kernel_rfl) ?_
            refine run_inBlock ?_
            refine run_plain (id := 27) (ops := F18.o27) [(0, true), (1, true)] (by kernel_rfl) (by kernel_rfl) ?_
            refine yS (by kernel_rfl : opAt F18.o27 0 = some (some 88, .binOp .add 3 (.tmp 63) (.const (.int .i64 1)) 3, none)) rfl rfl (fun w' hS => val_addi rfl rfl (by omega) (by omega)) ?_
            refine yS (by kernel_rfl : opAt F18.o27 1 = some (some 63, .move (.tmp 88), none)) rfl rfl (fun w' hS => val_move rfl) ?_
            refine Sch.nil ?_
            have hgs : guessS sz um k = none := by unfold guessS; rw [if_neg hS]
            rw [hgs] at hsu
            refine kp (sub_cons 10 rfl rfl (sub_cons 15 rfl rfl (sub_cons 16 rfl rfl (sub_cons 62 rfl rfl (sub_cons 63 rfl (eq_int (by simp)) (sub_nil _)))))) (next3 (k + 1, vo, C1) _ ⟨(by first | omega | (simp only; omega)), hF, hT, hsz, hm, (by simp only; rw [hsu]; simpa using ho)⟩ (by first | omega | (simp only; omega)))
          · skip
            refine run_plain (id := 23) (ops := F18.o23) [(0, true), (1, true), (2, false), (3, true), (4, true), (5, true), (6, true), (7, true)] (by kernel_rfl) (by kernel_rfl) ?_
            refine yS (by kernel_rfl : opAt F18.o23 0 = some (some 67, .move (.tmp 16), none)) rfl rfl (fun w' hS => val_move rfl) ?_
            refine yS (by kernel_rfl : opAt F18.o23 1 = some (some 68, .move (.tmp 17), none)) rfl rfl (fun w' hS => val_move rfl) ?_
            refine cS (by kernel_rfl : opAt F18.o23 2 = some (some 69, .call { callee := .value (.func 41), args := #[(.tmp 67), (.tmp 68)], argTypes := #[22, 3] }, none)) rfl rfl (ent Try.call41 rfl) (rank_ok (i := k) hsz (by omega)) ?_
            rintro vw19 w19 ⟨rfl, rfl⟩
            rw [Bool.eq_false_iff.2 hS]
            refine ⟨trivial, ?_⟩
            refine yS (by kernel_rfl : opAt F18.o23 3 = some (some 66, .move (.tmp 69), none)) rfl rfl (fun w' hS => val_move rfl) ?_
            refine yS (by kernel_rfl : opAt F18.o23 4 = some (some 70, .extract (.tmp 66) 0, none)) rfl rfl (fun w' hS => val_extract rfl rfl) ?_
            refine yS (by kernel_rfl : opAt F18.o23 5 = some (some 71, .extract (.tmp 66) 1, none)) rfl rfl (fun w' hS => val_extract rfl rfl) ?_
            refine yS (by kernel_rfl : opAt F18.o23 6 = some (some 18, .assign (.tmp 70), none)) rfl rfl (fun w' hS => val_assign rfl) ?_
            refine yS (by kernel_rfl : opAt F18.o23 7 = some (some 19, .assign (.tmp 71), none)) rfl rfl (fun w' hS => val_assign rfl) ?_
            refine Sch.nil ?_
            refine run_seq (x := F18.c78) (y := F18.c79) (by kernel_rfl) ?_
            refine run_plain (id := 24) (ops := F18.o24) [(0, true), (1, true), (2, false), (3, true), (4, true), (5, true), (6, true), (7, true)] (by kernel_rfl) (by kernel_rfl) ?_
            refine yS (by kernel_rfl : opAt F18.o24 0 = some (some 73, .move (.tmp 10), none)) rfl rfl (fun w' hS => val_move rfl) ?_
            refine yS (by kernel_rfl : opAt F18.o24 1 = some (some 74, .move (.tmp 18), none)) rfl rfl (fun w' hS => val_move rfl) ?_
            have hvv : mget um (rankS sz k : Int) = none := by simpa using hA
            refine nS (by kernel_rfl : opAt F18.o24 2 = some (some 75, .lookup 80 (.tmp 73) (.tmp 74) true, none)) rfl rfl trivial (val_is (hm.lookupOk (z0 := (⟨#[]⟩ : ByteArray)) (k := (rankS sz k : Int)) Try.underlying80 (keyOK_int Try.underlying3) Try.zeroValue9 rfl rfl) (show _ = Value.tuple #[.string ⟨#[]⟩, .bool false] from by rw [hvv]; rfl)) ?_
            refine yS (by kernel_rfl : opAt F18.o24 3 = some (some 72, .move (.tmp 75), none)) rfl rfl (fun w' hS => val_move rfl) ?_
            refine yS (by kernel_rfl : opAt F18.o24 4 = some (some 76, .extract (.tmp 72) 0, none)) rfl rfl (fun w' hS => val_extract rfl rfl) ?_
            refine yS (by kernel_rfl : opAt F18.o24 5 = some (some 77, .extract (.tmp 72) 1, none)) rfl rfl (fun w' hS => val_extract rfl rfl) ?_
            refine yS (by kernel_rfl : opAt F18.o24 6 = some (some 20, .assign (.tmp 76), none)) rfl rfl (fun w' hS => val_assign rfl) ?_
            refine yS (by kernel_rfl : opAt F18.o24 7 = some (some 21, .assign (.tmp 77), none)) rfl rfl (fun w' hS => val_assign rfl) ?_
            refine Sch.nil ?_
            refine run_seq (x := F18.c80) (y := F18.c81) (by kernel_rfl) ?_
            refine run_plain (id := 25) (ops := F18.o25) [(0, true), (1, true), (2, true), (3, true)] (by kernel_rfl) (by kernel_rfl) ?_
            refine yS (by kernel_rfl : opAt F18.o25 0 = some (some 78, .move (.tmp 19), none)) rfl rfl (fun w' hS => val_move rfl) ?_
            refine yS (by kernel_rfl : opAt F18.o25 1 = some (some 79, .move (.tmp 78), none)) rfl rfl (fun w' hS => val_move rfl) ?_
            refine pS (by kernel_rfl : opAt F18.o25 2 = some (some 80, .move (.tmp 21), (some (1, true)))) rfl rfl ?_
            refine yS (by kernel_rfl : opAt F18.o25 3 = some (some 81, .pick (.tmp 79) (.tmp 80) (.const (.bool false)), none)) rfl rfl (fun w' hS => val_pick_f rfl rfl) ?_
            refine Sch.nil ?_
            refine run_cond (x := F18.c82) (y := F18.c83) (o := .tmp 81) (b := false) (by kernel_rfl) rfl (fun h => by cases h) (fun _ => ?_)
            refine run_skip (by kernel_rfl) ?_
            refine run_inBlock ?_
            refine run_plain (id := 27) (ops := F18.o27) [(0, true), (1, true)] (by kernel_rfl) (by kernel_rfl) ?_
            refine yS (by kernel_rfl : opAt F18.o27 0 = some (some 88, .binOp .add 3 (.tmp 63) (.const (.int .i64 1)) 3, none)) rfl rfl (fun w' hS => val_addi rfl rfl (by omega) (by omega)) ?_
            refine yS (by kernel_rfl : opAt F18.o27 1 = some (some 63, .move (.tmp 88), none)) rfl rfl (fun w' hS => val_move rfl) ?_
            refine Sch.nil ?_
            have hgs : guessS sz um k = none := by unfold guessS; rw [if_neg hS]
            rw [hgs] at hsu
            refine kp (sub_cons 10 rfl rfl (sub_cons 15 rfl rfl (sub_cons 16 rfl rfl (sub_cons 62 rfl rfl (sub_cons 63 rfl (eq_int (by simp)) (sub_nil _)))))) (next3 (k + 1, vo, C1) _ ⟨(by first | omega | (simp only; omega)), hF, hT, hsz, hm, (by simp only; rw [hsu]; simpa using ho)⟩ (by first | omega | (simp only; omega)))
      · skip
        have hkl : k = gs.length := by omega
        rw [hkl] at ho hal
        refine run_exit (id := 4) (by kernel_rfl) rfl ?_
        refine run_seq (x := F18.c86) (y := F18.c87) (by kernel_rfl) ?_
        refine run_plain (id := 28) (ops := F18.o28) [(0, true), (1, true), (2, true)] (by kernel_rfl) (by kernel_rfl) ?_
        refine yS (by kernel_rfl : opAt F18.o28 0 = some (some 89, .move (.tmp 15), none)) rfl rfl (fun w' hS => val_move rfl) ?_
        refine yS (by kernel_rfl : opAt F18.o28 1 = some (some 4, .assign (.tmp 89), none)) rfl rfl (fun w' hS => val_assign rfl) ?_
        refine yS (by kernel_rfl : opAt F18.o28 2 = some (some 5, .assign (.const (.int .i64 0)), none)) rfl rfl (fun w' hS => val_assign rfl) ?_
        refine Sch.nil ?_
        refine run_ret2 (by kernel_rfl) Try.func18 Try.results18 rfl rfl ?_
        refine ⟨vo, rfl, hT.out1 (by decide), ?_⟩
        rw [show alignS (sizesS gs) es = alignK sz um gs.length from by unfold alignS; rw [← hsd, ← hum, hszl]]
        exact ho.out hT hF0 (Mc_col1 C) (fun b _ => col1_lt C (by decide) b) (by omega)
namespace F24
noncomputable def c0 : Code := bodyOf Try.f24
noncomputable def c1 : Code := cl c0
noncomputable def o0 : Array Oper := rops c1
noncomputable def c2 : Code := cr c0
noncomputable def c3 : Code := cl c2
noncomputable def o1 : Array Oper := rops c3
noncomputable def c4 : Code := cr c2
noncomputable def c5 : Code := cl c4
noncomputable def c6 : Code := cl c5
noncomputable def o2 : Array Oper := rops c6
noncomputable def c7 : Code := cr c5
noncomputable def c8 : Code := cl c7
noncomputable def c9 : Code := cl c8
noncomputable def c10 : Code := cl c9
noncomputable def o3 : Array Oper := rops c10
noncomputable def c11 : Code := cr c9
noncomputable def c12 : Code := cl c11
noncomputable def c13 : Code := cl c12
noncomputable def c14 : Code := cr c12
noncomputable def c15 : Code := cr c11
noncomputable def c16 : Code := cl c15
noncomputable def c17 : Code := cl c16
noncomputable def c18 : Code := cl c17
noncomputable def o4 : Array Oper := rops c18
noncomputable def c19 : Code := cr c17
noncomputable def c20 : Code := cl c19
noncomputable def c21 : Code := cl c20
noncomputable def o5 : Array Oper := rops c21
noncomputable def c22 : Code := cr c20
noncomputable def c23 : Code := cl c22
noncomputable def c24 : Code := cl c23
noncomputable def o6 : Array Oper := rops c24
noncomputable def c25 : Code := cr c23
noncomputable def c26 : Code := cr c22
noncomputable def c27 : Code := cr c19
noncomputable def c28 : Code := cl c27
noncomputable def o7 : Array Oper := rops c28
noncomputable def c29 : Code := cr c27
noncomputable def c30 : Code := cl c29
noncomputable def c31 : Code := cl c30
noncomputable def c32 : Code := cl c31
noncomputable def o8 : Array Oper := rops c32
noncomputable def c33 : Code := cr c31
noncomputable def c34 : Code := cl c33
noncomputable def c35 : Code := cl c34
noncomputable def c36 : Code := cr c34
noncomputable def c37 : Code := cr c33
noncomputable def c38 : Code := cl c37
noncomputable def c39 : Code := cl c38
noncomputable def c40 : Code := cl c39
noncomputable def o9 : Array Oper := rops c40
noncomputable def c41 : Code := cr c39
noncomputable def c42 : Code := cl c41
noncomputable def c43 : Code := cl c42
noncomputable def o10 : Array Oper := rops c43
noncomputable def c44 : Code := cr c42
noncomputable def c45 : Code := cl c44
noncomputable def c46 : Code := cl c45
noncomputable def o11 : Array Oper := rops c46
noncomputable def c47 : Code := cr c45
noncomputable def c48 : Code := cr c44
noncomputable def c49 : Code := cr c41
noncomputable def c50 : Code := cl c49
noncomputable def o12 : Array Oper := rops c50
noncomputable def c51 : Code := cr c49
noncomputable def c52 : Code := cl c51
noncomputable def o13 : Array Oper := rops c52
noncomputable def c53 : Code := cr c51
noncomputable def c54 : Code := cr c37
noncomputable def o14 : Array Oper := rops c54
noncomputable def c55 : Code := cr c15
noncomputable def o15 : Array Oper := rops c55
noncomputable def c56 : Code := cr c4
noncomputable def c57 : Code := cl c56
noncomputable def o16 : Array Oper := rops c57
noncomputable def c58 : Code := cr c56
end F24
theorem hits_ok {w₀ : World} {C : Nat → Nat} {gs : List Grp} {a : List Gss} {ns : List ByteArray} {vg va vn : Value} (hF : Lim w₀ C) (hg : RV w₀ (Mc C) gs vg) (ha : RV w₀ (Mc C) a va) (hn : RV w₀ (Mc C) ns vn) (hal : a.length ≤ 1000) (hin : ∀ g ∈ a, 0 ≤ g.grp ∧ g.grp < gs.length) (hmb : ∀ g ∈ gs, g.mem.length ≤ 1000) (hmm : ∀ g ∈ gs, ∀ m ∈ g.mem, 0 ≤ m ∧ m < ns.length) : Calls Try.prog 24 #[vg, va, vn] w₀ (Ret fun v w' => v = .tuple #[.int .i64 (hitsS gs ns a), .int .i64 0] ∧ Stp [] w₀ C w' C) := by
  have hF0 := hF
  have hT := Stp.refl [2, 3, 4, 5, 6, 7, 8, 9] w₀ (col1 C)
  replace hF := hF.col1
  replace hg : RV w₀ (Mc (col1 C)) gs vg := by rw [Mc_col1]; exact hg
  replace ha : RV w₀ (Mc (col1 C)) a va := by rw [Mc_col1]; exact ha
  replace hn : RV w₀ (Mc (col1 C)) ns vn := by rw [Mc_col1]; exact hn
  refine calls_start (c := F24.c0) (N := 60) [vg, va, vn] Try.func24 (by kernel_rfl) (by kernel_rfl) (by kernel_rfl) ?_
  show Run _ _ _ _ [(0, vg), (1, va), (2, vn)] _ _
  refine run_seq (x := F24.c1) (y := F24.c2) (by kernel_rfl) ?_
  refine run_plain (id := 0) (ops := F24.o0) [(0, true), (1, true)] (by kernel_rfl) (by kernel_rfl) ?_
  refine yS (by kernel_rfl : opAt F24.o0 0 = some (some 6, .assign (.const (.int .i64 0)), none)) rfl rfl (fun w' hS => val_assign rfl) ?_
  refine yS (by kernel_rfl : opAt F24.o0 1 = some (some 7, .assign (.const (.int .i64 0)), none)) rfl rfl (fun w' hS => val_assign rfl) ?_
  refine Sch.nil ?_
  refine run_seq (x := F24.c3) (y := F24.c4) (by kernel_rfl) ?_
  refine run_plain (id := 1) (ops := F24.o1) [(0, true)] (by kernel_rfl) (by kernel_rfl) ?_
  refine yS (by kernel_rfl : opAt F24.o1 0 = some (some 8, .assign (.const (.int .i64 0)), none)) rfl rfl (fun w' hS => val_assign rfl) ?_
  refine Sch.nil ?_
  refine run_seq (x := F24.c5) (y := F24.c56) (by kernel_rfl) ?_
  refine run_seq (x := F24.c6) (y := F24.c7) (by kernel_rfl) ?_
  refine run_plain (id := 2) (ops := F24.o2) [(0, true), (1, true), (2, true)] (by kernel_rfl) (by kernel_rfl) ?_
  refine yS (by kernel_rfl : opAt F24.o2 0 = some (some 13, .move (.tmp 1), none)) rfl rfl (fun w' hS => val_move rfl) ?_
  refine yS (by kernel_rfl : opAt F24.o2 1 = some (some 14, .call { callee := .builtin .len, args := #[(.tmp 13)], argTypes := #[45] }, none)) rfl rfl (fun w' hS => ha.lenV rfl Try.underlying45 w' ) ?_
  refine yS (by kernel_rfl : opAt F24.o2 2 = some (some 15, .move (.const (.int .i64 0)), none)) rfl rfl (fun w' hS => val_move rfl) ?_
  refine Sch.nil ?_
  refine run_block (x := F24.c8) (id := 0) (by kernel_rfl) ?_
  
  refine run_loop (ι := Nat × (Nat → Nat)) (I := fun x w => x.1 ≤ a.length ∧ Lim w x.2 ∧ Stp [2, 3, 4, 5, 6, 7, 8, 9] w₀ (col1 C) w x.2 ∧ RV w (Mc x.2) gs vg ∧ RV w (Mc x.2) a va ∧ RV w (Mc x.2) ns vn) (e := fun x => [(0, vg), (2, vn), (8, .int .i64 (hitsS gs ns (a.take x.1))), (13, va), (14, .int .i64 a.length), (15, .int .i64 x.1)]) (m := fun x => a.length - x.1) (x₀ := (0, col1 C)) (body := F24.c9) (by kernel_rfl) (sub_cons 0 rfl rfl (sub_cons 2 rfl rfl (sub_cons 8 rfl rfl (sub_cons 13 rfl rfl (sub_cons 14 rfl rfl (sub_cons 15 rfl rfl (sub_nil _))))))) ?_ ?_
  · exact ⟨Nat.zero_le _, hF, hT, hg, ha, hn⟩
  intro ⟨k, C1⟩ w1 hI next
  obtain ⟨hk, hF, hT, hg, ha, hn⟩ := hI
  try simp only at hk hF hT hg ha hn
  have next1 := next
  clear next
  show Run _ _ _ _ [(0, vg), (2, vn), (8, .int .i64 (hitsS gs ns (a.take k))), (13, va), (14, .int .i64 a.length), (15, .int .i64 k)] _ _
  have hb1 := hitsS_bnd (ns := ns) hmb (a.take k)
  rw [List.length_take] at hb1
  have hb2 : min k a.length * 1000 ≤ 1000000 := Nat.mul_le_mul (show min k a.length ≤ 1000 by omega) (Nat.le_refl 1000)
  refine run_seq (x := F24.c10) (y := F24.c11) (by kernel_rfl) ?_
  refine run_plain (id := 3) (ops := F24.o3) [(0, true)] (by kernel_rfl) (by kernel_rfl) ?_
  refine yS (by kernel_rfl : opAt F24.o3 0 = some (some 16, .binOp .lss 3 (.tmp 15) (.tmp 14) 3, none)) rfl rfl (fun w' hS => val_lss rfl rfl) ?_
  refine Sch.nil ?_
  refine run_seq (x := F24.c12) (y := F24.c15) (by kernel_rfl) ?_
  refine run_if (x := F24.c13) (y := F24.c14) (o := .tmp 16) (by kernel_rfl) rfl (fun h16 => ?_) (fun h16 => ?_)
  · skip
    have hkl : k < a.length := by omega
    have hgr := hin _ (List.getElem_mem hkl)
    have htk := hitsS_take (gs := gs) (ns := ns) hkl
    have hgd : gs.getD (a[k]'hkl).grp.toNat default = gs[(a[k]'hkl).grp.toNat]'(by omega) := getDi _
    rw [hgd] at htk
    obtain ⟨ml, hml⟩ : ∃ x, x = (gs[(a[k]'hkl).grp.toNat]'(by omega)).mem := ⟨_, rfl⟩
    have hmlb : ml.length ≤ 1000 := by rw [hml]; exact hmb _ (List.getElem_mem _)
    have hmlm : ∀ m ∈ ml, 0 ≤ m ∧ m < ns.length := by rw [hml]; exact hmm _ (List.getElem_mem _)
    rw [← hml] at htk
    refine run_skip (by kernel_rfl) ?_
    refine run_seq (x := F24.c16) (y := F24.c55) (by kernel_rfl) ?_
    refine run_block (x := F24.c17) (id := 1) (by kernel_rfl) ?_
    refine run_seq (x := F24.c18) (y := F24.c19) (by kernel_rfl) ?_
    refine run_plain (id := 4) (ops := F24.o4) [(0, true), (1, false), (2, false), (3, false)] (by kernel_rfl) (by kernel_rfl) ?_
    refine iS (e := 56) (by kernel_rfl : opAt F24.o4 0 = some (some 17, .indexAddr 45 (.tmp 13) (.tmp 15), none)) rfl rfl ha rfl (by kernel_rfl) rfl (by omega) (by omega) ?_
    intro b17 o17 h17
    try simp only [Int.toNat_natCast] at h17
    refine lNA (by kernel_rfl : opAt F24.o4 1 = some (some 18, .load 56 (.tmp 17), none)) rfl rfl trivial h17 (by kernel_rfl) (by kernel_rfl) rfl rfl ?_
    intro v18 g18
    obtain ⟨rfl, hvs18⟩ := rv_gss.1 g18
    clear g18
    refine aS (by kernel_rfl : opAt F24.o4 2 = some (some 10, .alloc 56, none)) rfl rfl (a_alloc (cs := [.int .i64 0, .string ⟨#[]⟩]) hF 4 (by kernel_rfl)) ?_
    rintro _ w2 ⟨Cw2, bw2, rfl, hs, hx, hF⟩
    refine ⟨trivial, ?_⟩
    replace hT := hT.trans hs (by simp)
    replace hg := hg.st hs (by first | decide | (simp <;> omega))
    replace ha := ha.st hs (by first | decide | (simp <;> omega))
    replace hn := hn.st hs (by first | decide | (simp <;> omega))
    replace h17 := h17.st hs (by first | decide | (simp <;> omega))
    refine aN (by kernel_rfl : opAt F24.o4 3 = some (none, .store 56 (.tmp 10) (.tmp 18), none)) rfl (a_storeAll (vs := [.int .i64 (a[k]'hkl).grp, .string (a[k]'hkl).val]) (n := 2) rfl rfl (by kernel_rfl) rfl rfl (by intro z hz; simp only [List.mem_cons, List.not_mem_nil, or_false] at hz; rcases hz with rfl | rfl <;> rfl) hx rfl) ?_
    rintro _ w3 ⟨rfl, hs, hx⟩
    refine ⟨trivial, ?_⟩
    replace hF := hF.st hs
    replace hT := hT.trans hs (by simp)
    replace hg := hg.st hs (by first | decide | (simp <;> omega))
    replace ha := ha.st hs (by first | decide | (simp <;> omega))
    replace hn := hn.st hs (by first | decide | (simp <;> omega))
    replace h17 := h17.st hs (by first | decide | (simp <;> omega))
    refine Sch.nil ?_
    refine run_seq (x := F24.c20) (y := F24.c27) (by kernel_rfl) ?_
    refine run_seq (x := F24.c21) (y := F24.c22) (by kernel_rfl) ?_
    refine run_plain (id := 5) (ops := F24.o5) [(0, true), (1, false), (2, true), (3, true), (4, true), (5, false), (6, true), (7, true), (8, true), (9, true)] (by kernel_rfl) (by kernel_rfl) ?_
    refine yS (by kernel_rfl : opAt F24.o5 0 = some (some 19, .fieldAddr 56 (.tmp 10) 0, none)) rfl rfl (fun w' hS => val_fieldAddr (off := 0) (by kernel_rfl) rfl) ?_
    refine nS (by kernel_rfl : opAt F24.o5 1 = some (some 20, .load 3 (.tmp 19), none)) rfl rfl trivial (val_loadOwn hx.at_ (by kernel_rfl) rfl rfl) ?_
    refine yS (by kernel_rfl : opAt F24.o5 2 = some (some 21, .binOp .lss 3 (.tmp 20) (.const (.int .i64 0)) 3, none)) rfl rfl (fun w' hS => val_is (val_lss rfl rfl) (show _ = Value.bool false from congrArg Value.bool (decide_eq_false (by omega)))) ?_
    refine yS (by kernel_rfl : opAt F24.o5 3 = some (some 22, .move (.tmp 21), none)) rfl rfl (fun w' hS => val_move rfl) ?_
    refine yS (by kernel_rfl : opAt F24.o5 4 = some (some 23, .fieldAddr 56 (.tmp 10) 0, (some (3, false)))) rfl rfl (fun w' hS => val_fieldAddr (off := 0) (by kernel_rfl) rfl) ?_
    refine nS (by kernel_rfl : opAt F24.o5 5 = some (some 24, .load 3 (.tmp 23), (some (3, false)))) rfl rfl trivial (val_loadOwn hx.at_ (by kernel_rfl) rfl rfl) ?_
    refine yS (by kernel_rfl : opAt F24.o5 6 = some (some 25, .move (.tmp 0), (some (3, false)))) rfl rfl (fun w' hS => val_move rfl) ?_
    refine yS (by kernel_rfl : opAt F24.o5 7 = some (some 26, .call { callee := .builtin .len, args := #[(.tmp 25)], argTypes := #[29] }, (some (3, false)))) rfl rfl (fun w' hS => hg.lenV rfl Try.underlying29 w' ) ?_
    refine yS (by kernel_rfl : opAt F24.o5 8 = some (some 27, .binOp .geq 3 (.tmp 24) (.tmp 26) 3, (some (3, false)))) rfl rfl (fun w' hS => val_is (val_geq rfl rfl) (show _ = Value.bool false from congrArg Value.bool (decide_eq_false (by omega)))) ?_
    refine yS (by kernel_rfl : opAt F24.o5 9 = some (some 28, .pick (.tmp 22) (.const (.bool true)) (.tmp 27), none)) rfl rfl (fun w' hS => val_pick_f rfl rfl) ?_
    refine Sch.nil ?_
    refine run_cond (x := F24.c23) (y := F24.c26) (o := .tmp 28) (b := false) (by kernel_rfl) rfl (fun h => by cases h) (fun _ => ?_)
    refine run_skip (by kernel_rfl) ?_
    refine run_seq (x := F24.c28) (y := F24.c29) (by kernel_rfl) ?_
    refine run_plain (id := 7) (ops := F24.o7) [(0, true), (1, true), (2, false), (3, true), (4, true), (5, false), (6, true), (7, true)] (by kernel_rfl) (by kernel_rfl) ?_
    refine yS (by kernel_rfl : opAt F24.o7 0 = some (some 29, .move (.tmp 0), none)) rfl rfl (fun w' hS => val_move rfl) ?_
    refine yS (by kernel_rfl : opAt F24.o7 1 = some (some 30, .fieldAddr 56 (.tmp 10) 0, none)) rfl rfl (fun w' hS => val_fieldAddr (off := 0) (by kernel_rfl) rfl) ?_
    refine nS (by kernel_rfl : opAt F24.o7 2 = some (some 31, .load 3 (.tmp 30), none)) rfl rfl trivial (val_loadOwn hx.at_ (by kernel_rfl) rfl rfl) ?_
    refine iS (e := 35) (by kernel_rfl : opAt F24.o7 3 = some (some 32, .indexAddr 29 (.tmp 29) (.tmp 31), none)) rfl rfl hg rfl (by kernel_rfl) rfl (by omega) (by omega) ?_
    intro b32 o32 h32
    try simp only [Int.toNat_natCast] at h32
    have h33 := RA.gmem h32
    refine yS (by kernel_rfl : opAt F24.o7 4 = some (some 33, .fieldAddr 35 (.tmp 32) 1, none)) rfl rfl (fun w' hS => val_fieldAddr (off := 2) (by kernel_rfl) rfl) ?_
    refine lN (by kernel_rfl : opAt F24.o7 5 = some (some 34, .load 22 (.tmp 33), none)) rfl rfl trivial h33 (by kernel_rfl) rfl rfl ?_
    intro v34 g34
    rw [← hml] at g34
    refine yS (by kernel_rfl : opAt F24.o7 6 = some (some 35, .call { callee := .builtin .len, args := #[(.tmp 34)], argTypes := #[22] }, none)) rfl rfl (fun w' hS => g34.lenV rfl Try.underlying22 w' ) ?_
    refine yS (by kernel_rfl : opAt F24.o7 7 = some (some 36, .move (.const (.int .i64 0)), none)) rfl rfl (fun w' hS => val_move rfl) ?_
    refine Sch.nil ?_
    refine run_block (x := F24.c30) (id := 2) (by kernel_rfl) ?_
    
    refine run_loop (ι := Nat × (Nat → Nat)) (I := fun x w => x.1 ≤ ml.length ∧ Lim w x.2 ∧ Stp [2, 3, 4, 5, 6, 7, 8, 9] w₀ (col1 C) w x.2 ∧ RV w (Mc x.2) gs vg ∧ RV w (Mc x.2) a va ∧ RV w (Mc x.2) ns vn ∧ OwnB w x.2 4 bw2 (.cells [.int .i64 (a[k]'hkl).grp, .string (a[k]'hkl).val].toArray 56) ∧ RV w (Mc x.2) ml v34) (e := fun x => [(0, vg), (2, vn), (8, .int .i64 (hitsS gs ns (a.take k) + hitN ns (a[k]'hkl).val (ml.take x.1))), (10, .pointer (some ⟨bw2, 0, none⟩)), (13, va), (14, .int .i64 a.length), (15, .int .i64 k), (34, v34), (35, .int .i64 ml.length), (36, .int .i64 x.1)]) (m := fun x => ml.length - x.1) (x₀ := (0, Cw2)) (body := F24.c31) (by kernel_rfl) (sub_cons 0 rfl rfl (sub_cons 2 rfl rfl (sub_cons 8 rfl (eq_int (by show hitsS gs ns (a.take k) = _ + 0; omega)) (sub_cons 10 rfl rfl (sub_cons 13 rfl rfl (sub_cons 14 rfl rfl (sub_cons 15 rfl rfl (sub_cons 34 rfl rfl (sub_cons 35 rfl rfl (sub_cons 36 rfl rfl (sub_nil _))))))))))) ?_ ?_
    · exact ⟨Nat.zero_le _, hF, hT, hg, ha, hn, hx, g34⟩
    intro ⟨j, C1⟩ w4 hI next
    obtain ⟨hj, hF, hT, hg, ha, hn, hx, g34⟩ := hI
    try simp only at hj hF hT hg ha hn hx g34
    have next2 := next
    clear next
    show Run _ _ _ _ [(0, vg), (2, vn), (8, .int .i64 (hitsS gs ns (a.take k) + hitN ns (a[k]'hkl).val (ml.take j))), (10, .pointer (some ⟨bw2, 0, none⟩)), (13, va), (14, .int .i64 a.length), (15, .int .i64 k), (34, v34), (35, .int .i64 ml.length), (36, .int .i64 j)] _ _
    have hnb := hitN_le (ns := ns) (v := (a[k]'hkl).val) (l := ml.take j)
    rw [List.length_take] at hnb
    refine run_seq (x := F24.c32) (y := F24.c33) (by kernel_rfl) ?_
    refine run_plain (id := 8) (ops := F24.o8) [(0, true)] (by kernel_rfl) (by kernel_rfl) ?_
    refine yS (by kernel_rfl : opAt F24.o8 0 = some (some 37, .binOp .lss 3 (.tmp 36) (.tmp 35) 3, none)) rfl rfl (fun w' hS => val_lss rfl rfl) ?_
    refine Sch.nil ?_
    refine run_seq (x := F24.c34) (y := F24.c37) (by kernel_rfl) ?_
    refine run_if (x := F24.c35) (y := F24.c36) (o := .tmp 37) (by kernel_rfl) rfl (fun h37 => ?_) (fun h37 => ?_)
    · skip
      have hjl : j < ml.length := by omega
      have hmj := hmlm _ (List.getElem_mem hjl)
      have htj := hitN_take (ns := ns) (v := (a[k]'hkl).val) hjl
      have hnd : ns.getD (ml[j]'hjl).toNat default = ns[(ml[j]'hjl).toNat]'(by omega) := getDi _
      rw [hnd] at htj
      refine run_skip (by kernel_rfl) ?_
      refine run_seq (x := F24.c38) (y := F24.c54) (by kernel_rfl) ?_
      refine run_block (x := F24.c39) (id := 3) (by kernel_rfl) ?_
      refine run_seq (x := F24.c40) (y := F24.c41) (by kernel_rfl) ?_
      refine run_plain (id := 9) (ops := F24.o9) [(0, true), (1, false), (2, true)] (by kernel_rfl) (by kernel_rfl) ?_
      refine iS (e := 3) (by kernel_rfl : opAt F24.o9 0 = some (some 38, .indexAddr 22 (.tmp 34) (.tmp 36), none)) rfl rfl g34 rfl (by kernel_rfl) rfl (by omega) (by omega) ?_
      intro b38 o38 h38
      try simp only [Int.toNat_natCast] at h38
      refine lN (by kernel_rfl : opAt F24.o9 1 = some (some 39, .load 3 (.tmp 38), none)) rfl rfl trivial h38 (by kernel_rfl) rfl rfl ?_
      intro v39 g39
      first | (obtain rfl := rv_nat.1 g39) | (obtain rfl := rv_int.1 g39)
      refine yS (by kernel_rfl : opAt F24.o9 2 = some (some 12, .assign (.tmp 39), none)) rfl rfl (fun w' hS => val_assign rfl) ?_
      refine Sch.nil ?_
      refine run_seq (x := F24.c42) (y := F24.c49) (by kernel_rfl) ?_
      refine run_seq (x := F24.c43) (y := F24.c44) (by kernel_rfl) ?_
      refine run_plain (id := 10) (ops := F24.o10) [(0, true), (1, true), (2, true), (3, true), (4, true), (5, true), (6, true), (7, true)] (by kernel_rfl) (by kernel_rfl) ?_
      refine yS (by kernel_rfl : opAt F24.o10 0 = some (some 40, .move (.tmp 12), none)) rfl rfl (fun w' hS => val_move rfl) ?_
      refine yS (by kernel_rfl : opAt F24.o10 1 = some (some 41, .binOp .lss 3 (.tmp 40) (.const (.int .i64 0)) 3, none)) rfl rfl (fun w' hS => val_is (val_lss rfl rfl) (show _ = Value.bool false from congrArg Value.bool (decide_eq_false (by omega)))) ?_
      refine yS (by kernel_rfl : opAt F24.o10 2 = some (some 42, .move (.tmp 41), none)) rfl rfl (fun w' hS => val_move rfl) ?_
      refine yS (by kernel_rfl : opAt F24.o10 3 = some (some 43, .move (.tmp 12), (some (2, false)))) rfl rfl (fun w' hS => val_move rfl) ?_
      refine yS (by kernel_rfl : opAt F24.o10 4 = some (some 44, .move (.tmp 2), (some (2, false)))) rfl rfl (fun w' hS => val_move rfl) ?_
      refine yS (by kernel_rfl : opAt F24.o10 5 = some (some 45, .call { callee := .builtin .len, args := #[(.tmp 44)], argTypes := #[51] }, (some (2, false)))) rfl rfl (fun w' hS => hn.lenV rfl Try.underlying51 w' ) ?_
      refine yS (by kernel_rfl : opAt F24.o10 6 = some (some 46, .binOp .geq 3 (.tmp 43) (.tmp 45) 3, (some (2, false)))) rfl rfl (fun w' hS => val_is (val_geq rfl rfl) (show _ = Value.bool false from congrArg Value.bool (decide_eq_false (by omega)))) ?_
      refine yS (by kernel_rfl : opAt F24.o10 7 = some (some 47, .pick (.tmp 42) (.const (.bool true)) (.tmp 46), none)) rfl rfl (fun w' hS => val_pick_f rfl rfl) ?_
      refine Sch.nil ?_
      refine run_cond (x := F24.c45) (y := F24.c48) (o := .tmp 47) (b := false) (by kernel_rfl) rfl (fun h => by cases h) (fun _ => ?_)
      refine run_skip (by kernel_rfl) ?_
      refine run_seq (x := F24.c50) (y := F24.c51) (by kernel_rfl) ?_
      refine run_draw (id := 12) (ops := F24.o12) [] (C1) [(0, true), (1, true), (2, true), (3, true), (4, true), (5, true), (6, true)] Try_mixed (by kernel_rfl) (by kernel_rfl) (by kernel_rfl) ?_
      intro w5 hs
      replace hF := hF.st hs
      replace hT := hT.trans hs (by simp)
      replace hg := hg.st hs (by first | decide | (simp <;> omega))
      replace ha := ha.st hs (by first | decide | (simp <;> omega))
      replace hn := hn.st hs (by first | decide | (simp <;> omega))
      replace hx := hx.st hs (by first | decide | (simp <;> omega))
      replace g34 := g34.st hs (by first | decide | (simp <;> omega))
      replace h38 := h38.st hs (by first | decide | (simp <;> omega))
      refine yS (by kernel_rfl : opAt F24.o12 0 = some (some 48, .move (.tmp 2), none)) rfl rfl (fun w' hS => val_move rfl) ?_
      refine yS (by kernel_rfl : opAt F24.o12 1 = some (some 49, .move (.tmp 12), none)) rfl rfl (fun w' hS => val_move rfl) ?_
      refine iS (e := 9) (by kernel_rfl : opAt F24.o12 2 = some (some 50, .indexAddr 51 (.tmp 48) (.tmp 49), none)) rfl rfl hn rfl (by kernel_rfl) rfl (by omega) (by omega) ?_
      intro b50 o50 h50
      try simp only [Int.toNat_natCast] at h50
      refine lS (by kernel_rfl : opAt F24.o12 3 = some (some 51, .load 9 (.tmp 50), none)) rfl rfl (fun w' hS => h50.stay hS (by first | decide | (simp <;> omega))) h50 (by kernel_rfl) rfl rfl ?_
      intro v51 g51
      obtain ⟨rfl, _⟩ := rv_str.1 g51
      refine yS (by kernel_rfl : opAt F24.o12 4 = some (some 52, .fieldAddr 56 (.tmp 10) 1, none)) rfl rfl (fun w' hS => val_fieldAddr (off := 1) (by kernel_rfl) rfl) ?_
      refine yS (by kernel_rfl : opAt F24.o12 5 = some (some 53, .load 9 (.tmp 52), none)) rfl rfl (fun w' hS => val_loadOwn (hx.stay hS (by decide)) (by kernel_rfl) rfl rfl) ?_
      refine yS (by kernel_rfl : opAt F24.o12 6 = some (some 54, .binOp .eql 9 (.tmp 51) (.tmp 53) 9, none)) rfl rfl (fun w' hS => val_strEql rfl rfl Try.underlying9) ?_
      refine Sch.nil ?_
      refine run_if (x := F24.c52) (y := F24.c53) (o := .tmp 54) (by kernel_rfl) rfl (fun h54 => ?_) (fun h54 => ?_)
      · skip
        refine run_plain (id := 13) (ops := F24.o13) [(0, true), (1, true), (2, true)] (by kernel_rfl) (by kernel_rfl) ?_
        refine yS (by kernel_rfl : opAt F24.o13 0 = some (some 55, .move (.tmp 8), none)) rfl rfl (fun w' hS => val_move rfl) ?_
        refine yS (by kernel_rfl : opAt F24.o13 1 = some (some 56, .binOp .add 3 (.tmp 55) (.const (.int .i64 1)) 3, none)) rfl rfl (fun w' hS => val_addi rfl rfl (by omega) (by omega)) ?_
        refine yS (by kernel_rfl : opAt F24.o13 2 = some (some 8, .assign (.tmp 56), none)) rfl rfl (fun w' hS => val_assign rfl) ?_
        refine Sch.nil ?_
        refine run_inBlock ?_
        refine run_plain (id := 14) (ops := F24.o14) [(0, true), (1, true)] (by kernel_rfl) (by kernel_rfl) ?_
        refine yS (by kernel_rfl : opAt F24.o14 0 = some (some 57, .binOp .add 3 (.tmp 36) (.const (.int .i64 1)) 3, none)) rfl rfl (fun w' hS => val_addi rfl rfl (by omega) (by omega)) ?_
        refine yS (by kernel_rfl : opAt F24.o14 1 = some (some 36, .move (.tmp 57), none)) rfl rfl (fun w' hS => val_move rfl) ?_
        refine Sch.nil ?_
        refine kp (sub_cons 0 rfl rfl (sub_cons 2 rfl rfl (sub_cons 8 rfl (eq_int (by rw [htj, if_pos h54]; omega)) (sub_cons 10 rfl rfl (sub_cons 13 rfl rfl (sub_cons 14 rfl rfl (sub_cons 15 rfl rfl (sub_cons 34 rfl rfl (sub_cons 35 rfl rfl (sub_cons 36 rfl (eq_int (by simp)) (sub_nil _))))))))))) (next2 (j + 1, C1) _ ⟨(by first | omega | (simp only; omega)), hF, hT, hg, ha, hn, hx, g34⟩ (by first | omega | (simp only; omega)))
      · skip
        refine run_skip (by kernel_rfl) ?_
        refine run_inBlock ?_
        refine run_plain (id := 14) (ops := F24.o14) [(0, true), (1, true)] (by kernel_rfl) (by kernel_rfl) ?_
        refine yS (by kernel_rfl : opAt F24.o14 0 = some (some 57, .binOp .add 3 (.tmp 36) (.const (.int .i64 1)) 3, none)) rfl rfl (fun w' hS => val_addi rfl rfl (by omega) (by omega)) ?_
        refine yS (by kernel_rfl : opAt F24.o14 1 = some (some 36, .move (.tmp 57), none)) rfl rfl (fun w' hS => val_move rfl) ?_
        refine Sch.nil ?_
        refine kp (sub_cons 0 rfl rfl (sub_cons 2 rfl rfl (sub_cons 8 rfl (eq_int (by rw [htj, if_neg h54]; omega)) (sub_cons 10 rfl rfl (sub_cons 13 rfl rfl (sub_cons 14 rfl rfl (sub_cons 15 rfl rfl (sub_cons 34 rfl rfl (sub_cons 35 rfl rfl (sub_cons 36 rfl (eq_int (by simp)) (sub_nil _))))))))))) (next2 (j + 1, C1) _ ⟨(by first | omega | (simp only; omega)), hF, hT, hg, ha, hn, hx, g34⟩ (by first | omega | (simp only; omega)))
    · skip
      have hjl : j = ml.length := by omega
      rw [hjl, List.take_length, ← htk]
      refine run_exit (id := 2) (by kernel_rfl) rfl ?_
      refine run_inBlock ?_
      refine run_plain (id := 15) (ops := F24.o15) [(0, true), (1, true)] (by kernel_rfl) (by kernel_rfl) ?_
      refine yS (by kernel_rfl : opAt F24.o15 0 = some (some 58, .binOp .add 3 (.tmp 15) (.const (.int .i64 1)) 3, none)) rfl rfl (fun w' hS => val_addi rfl rfl (by omega) (by omega)) ?_
      refine yS (by kernel_rfl : opAt F24.o15 1 = some (some 15, .move (.tmp 58), none)) rfl rfl (fun w' hS => val_move rfl) ?_
      refine Sch.nil ?_
      refine kp (sub_cons 0 rfl rfl (sub_cons 2 rfl rfl (sub_cons 8 rfl rfl (sub_cons 13 rfl rfl (sub_cons 14 rfl rfl (sub_cons 15 rfl (eq_int (by simp)) (sub_nil _))))))) (next1 (k + 1, C1) _ ⟨(by first | omega | (simp only; omega)), hF, hT, hg, ha, hn⟩ (by first | omega | (simp only; omega)))
  · skip
    have hkl : k = a.length := by omega
    rw [hkl, List.take_length]
    refine run_exit (id := 0) (by kernel_rfl) rfl ?_
    refine run_seq (x := F24.c57) (y := F24.c58) (by kernel_rfl) ?_
    refine run_plain (id := 16) (ops := F24.o16) [(0, true), (1, true), (2, true)] (by kernel_rfl) (by kernel_rfl) ?_
    refine yS (by kernel_rfl : opAt F24.o16 0 = some (some 59, .move (.tmp 8), none)) rfl rfl (fun w' hS => val_move rfl) ?_
    refine yS (by kernel_rfl : opAt F24.o16 1 = some (some 6, .assign (.tmp 59), none)) rfl rfl (fun w' hS => val_assign rfl) ?_
    refine yS (by kernel_rfl : opAt F24.o16 2 = some (some 7, .assign (.const (.int .i64 0)), none)) rfl rfl (fun w' hS => val_assign rfl) ?_
    refine Sch.nil ?_
    refine run_ret2 (by kernel_rfl) Try.func24 Try.results24 rfl rfl ?_
    exact ⟨rfl, hT.out1 (by decide)⟩
end Go.Proofs.Ytbdlkdiadplmcaa
