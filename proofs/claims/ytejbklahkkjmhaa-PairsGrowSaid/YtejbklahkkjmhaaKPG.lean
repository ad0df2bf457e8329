/- Steps through functions of the program. -/
import Derived.Test.YtejbklahkkjmhaaKP9
import Derived.Test.YtejbklahkkjmhaaKPB
import Derived.Test.YtejbklahkkjmhaaKPE
set_option linter.unusedVariables false
set_option linter.unusedSimpArgs false
set_option maxRecDepth 100000
set_option maxHeartbeats 400000
namespace Go.Proofs.Ytejbklahkkjmhaa
open Go.K Go.K.Rep

namespace F7
noncomputable def c0 : Code := bodyOf Try.f7
noncomputable def c1 : Code := cl c0
noncomputable def o0 : Array Oper := rops c1
noncomputable def c2 : Code := cr c0
noncomputable def c3 : Code := cl c2
noncomputable def c4 : Code := cl c3
noncomputable def o1 : Array Oper := rops c4
noncomputable def c5 : Code := cr c3
noncomputable def c6 : Code := cl c5
noncomputable def c7 : Code := cl c6
noncomputable def o2 : Array Oper := rops c7
noncomputable def c8 : Code := cr c6
noncomputable def c9 : Code := cr c5
noncomputable def c10 : Code := cr c2
noncomputable def c11 : Code := cl c10
noncomputable def o3 : Array Oper := rops c11
noncomputable def c12 : Code := cr c10
noncomputable def c13 : Code := cl c12
noncomputable def o4 : Array Oper := rops c13
noncomputable def c14 : Code := cr c12
noncomputable def c15 : Code := cl c14
noncomputable def o5 : Array Oper := rops c15
noncomputable def c16 : Code := cr c14
noncomputable def c17 : Code := cl c16
noncomputable def o6 : Array Oper := rops c17
noncomputable def c18 : Code := cr c16
noncomputable def c19 : Code := cl c18
noncomputable def c20 : Code := cl c19
noncomputable def o7 : Array Oper := rops c20
noncomputable def c21 : Code := cr c19
noncomputable def c22 : Code := cl c21
noncomputable def c23 : Code := cl c22
noncomputable def o8 : Array Oper := rops c23
noncomputable def c24 : Code := cr c22
noncomputable def c25 : Code := cr c21
noncomputable def c26 : Code := cr c18
noncomputable def c27 : Code := cl c26
noncomputable def c28 : Code := cl c27
noncomputable def o9 : Array Oper := rops c28
noncomputable def c29 : Code := cr c27
noncomputable def c30 : Code := cl c29
noncomputable def c31 : Code := cl c30
noncomputable def c32 : Code := cl c31
noncomputable def c33 : Code := cl c32
noncomputable def o10 : Array Oper := rops c33
noncomputable def c34 : Code := cr c32
noncomputable def c35 : Code := cl c34
noncomputable def c36 : Code := cr c34
noncomputable def c37 : Code := cr c31
noncomputable def c38 : Code := cl c37
noncomputable def c39 : Code := cl c38
noncomputable def c40 : Code := cl c39
noncomputable def o12 : Array Oper := rops c40
noncomputable def c41 : Code := cr c39
noncomputable def c42 : Code := cl c41
noncomputable def c43 : Code := cl c42
noncomputable def o13 : Array Oper := rops c43
noncomputable def c44 : Code := cr c42
noncomputable def c45 : Code := cl c44
noncomputable def c46 : Code := cl c45
noncomputable def o14 : Array Oper := rops c46
noncomputable def c47 : Code := cr c45
noncomputable def c48 : Code := cr c44
noncomputable def c49 : Code := cr c41
noncomputable def c50 : Code := cl c49
noncomputable def o15 : Array Oper := rops c50
noncomputable def c51 : Code := cr c49
noncomputable def c52 : Code := cl c51
noncomputable def c53 : Code := cl c52
noncomputable def c54 : Code := cl c53
noncomputable def c55 : Code := cl c54
noncomputable def o16 : Array Oper := rops c55
noncomputable def c56 : Code := cr c54
noncomputable def c57 : Code := cl c56
noncomputable def c58 : Code := cr c56
noncomputable def c59 : Code := cr c53
noncomputable def c60 : Code := cl c59
noncomputable def c61 : Code := cl c60
noncomputable def c62 : Code := cl c61
noncomputable def o18 : Array Oper := rops c62
noncomputable def c63 : Code := cr c61
noncomputable def c64 : Code := cl c63
noncomputable def o19 : Array Oper := rops c64
noncomputable def c65 : Code := cr c63
noncomputable def c66 : Code := cl c65
noncomputable def o20 : Array Oper := rops c66
noncomputable def c67 : Code := cr c65
noncomputable def c68 : Code := cl c67
noncomputable def c69 : Code := cl c68
noncomputable def o21 : Array Oper := rops c69
noncomputable def c70 : Code := cr c68
noncomputable def c71 : Code := cr c67
noncomputable def c72 : Code := cr c59
noncomputable def o17 : Array Oper := rops c72
noncomputable def c73 : Code := cr c37
noncomputable def o11 : Array Oper := rops c73
noncomputable def c74 : Code := cr c26
noncomputable def c75 : Code := cl c74
noncomputable def o22 : Array Oper := rops c75
noncomputable def c76 : Code := cr c74
end F7
/-- The statement's function answers true. -/
theorem pairsGrow_ok {w₀ : World} {C : Nat → Nat} {l : List Int} {vl : Value} (hF : Lim w₀ C) (hl : RV w₀ (Mc C) l vl) : Calls Try.prog 7 #[vl] w₀ (Ret fun v w' => v = .bool true ∧ Stp [] w₀ C w' C) := by
  have hF0 := hF
  have hT := Stp.refl [2, 3, 4, 5, 6, 7, 8, 9] w₀ (col1 C)
  replace hF := hF.col1
  replace hl : RV w₀ (Mc (col1 C)) l vl := by rw [Mc_col1]; exact hl
  refine calls_start (c := F7.c0) (N := 113) [vl] Try.func7 (by kernel_rfl) (by kernel_rfl) (by kernel_rfl) ?_
  show Run _ _ _ _ [(0, vl)] _ _
  refine run_seq (x := F7.c1) (y := F7.c2) (by kernel_rfl) ?_
  refine run_plain (id := 0) (ops := F7.o0) [(0, true)] (by kernel_rfl) (by kernel_rfl) ?_
  refine yS (by kernel_rfl : opAt F7.o0 0 = some (some 2, .assign (.const (.bool false)), none)) rfl rfl (fun w' hS => val_assign rfl) ?_
  refine Sch.nil ?_
  refine run_seq (x := F7.c3) (y := F7.c10) (by kernel_rfl) ?_
  refine run_seq (x := F7.c4) (y := F7.c5) (by kernel_rfl) ?_
  refine run_plain (id := 1) (ops := F7.o1) [(0, false), (1, true), (2, true), (3, true), (4, false), (5, true), (6, true)] (by kernel_rfl) (by kernel_rfl) ?_
  refine cS (by kernel_rfl : opAt F7.o1 0 = some (some 16, .call { callee := .value (.func 8), args := #[], argTypes := #[] }, none)) rfl rfl (ent Try.call8 rfl) (awake_ok hF) ?_
  rintro vw1 w1 ⟨rfl, hs⟩
  refine ⟨trivial, ?_⟩
  replace hF := hF.st hs
  replace hT := hT.trans hs (by simp)
  replace hl := hl.st hs (by first | decide | (simp <;> omega))
  refine yS (by kernel_rfl : opAt F7.o1 1 = some (some 17, .unOp .not 4 (.tmp 16), none)) rfl rfl (fun w' hS => val_not rfl) ?_
  refine yS (by kernel_rfl : opAt F7.o1 2 = some (some 18, .move (.tmp 17), none)) rfl rfl (fun w' hS => val_move rfl) ?_
  refine yS (by kernel_rfl : opAt F7.o1 3 = some (some 19, .move (.tmp 0), (some (2, false)))) rfl rfl (fun w' hS => val_move rfl) ?_
  refine cS (by kernel_rfl : opAt F7.o1 4 = some (some 20, .call { callee := .value (.func 9), args := #[(.tmp 19)], argTypes := #[22] }, (some (2, false)))) rfl rfl (ent Try.call9 rfl) (few_ok' hl) ?_
  rintro vw2 w2 ⟨rfl, rfl⟩
  refine ⟨trivial, ?_⟩
  refine yS (by kernel_rfl : opAt F7.o1 5 = some (some 21, .unOp .not 4 (.tmp 20), (some (2, false)))) rfl rfl (fun w' hS => val_notd rfl) ?_
  refine yS (by kernel_rfl : opAt F7.o1 6 = some (some 22, .pick (.tmp 18) (.const (.bool true)) (.tmp 21), none)) rfl rfl (fun w' hS => val_pick_f rfl rfl) ?_
  refine Sch.nil ?_
  refine run_if (x := F7.c6) (y := F7.c9) (o := .tmp 22) (by kernel_rfl) rfl (fun h22 => ?_) (fun h22 => ?_)
  · skip
    refine run_seq (x := F7.c7) (y := F7.c8) (by kernel_rfl) ?_
    refine run_plain (id := 2) (ops := F7.o2) [(0, false), (1, true)] (by kernel_rfl) (by kernel_rfl) ?_
    refine cS (by kernel_rfl : opAt F7.o2 0 = some (some 23, .call { callee := .value (.func 8), args := #[], argTypes := #[] }, none)) rfl rfl (ent Try.call8 rfl) (awake_ok hF) ?_
    rintro vw3 w3 ⟨rfl, hs⟩
    refine ⟨trivial, ?_⟩
    replace hF := hF.st hs
    replace hT := hT.trans hs (by simp)
    replace hl := hl.st hs (by first | decide | (simp <;> omega))
    refine yS (by kernel_rfl : opAt F7.o2 1 = some (some 2, .assign (.tmp 23), none)) rfl rfl (fun w' hS => val_assign rfl) ?_
    refine Sch.nil ?_
    refine run_ret1 (by kernel_rfl) Try.func7 Try.results7 rfl ?_
    exact ⟨rfl, hT.out1 (by decide)⟩
  · skip
    refine run_skip (by kernel_rfl) ?_
    refine run_seq (x := F7.c11) (y := F7.c12) (by kernel_rfl) ?_
    refine run_plain (id := 3) (ops := F7.o3) [(0, true), (1, false), (2, true)] (by kernel_rfl) (by kernel_rfl) ?_
    refine yS (by kernel_rfl : opAt F7.o3 0 = some (some 24, .move (.tmp 0), none)) rfl rfl (fun w' hS => val_move rfl) ?_
    refine cS (by kernel_rfl : opAt F7.o3 1 = some (some 25, .call { callee := .value (.func 10), args := #[(.tmp 24)], argTypes := #[22] }, none)) rfl rfl (ent Try.call10 rfl) (new_ok hF hl) ?_
    rintro vw4 w4 ⟨Cd, bd, rfl, hs, hF, hd⟩
    refine ⟨trivial, ?_⟩
    replace hT := hT.trans hs (by simp)
    replace hl := hl.st hs (by first | decide | (simp <;> omega))
    obtain ⟨d0, hd0⟩ : ∃ d0 : Dk, d0 = ⟨l, 0, 11400714819323198485⟩ := ⟨_, rfl⟩
    rw [← hd0] at hd
    have hdl0 : d0.list.length ≤ 140737488355328 := by rw [hd0]; exact hl.le
    refine yS (by kernel_rfl : opAt F7.o3 2 = some (some 3, .assign (.tmp 25), none)) rfl rfl (fun w' hS => val_assign rfl) ?_
    refine Sch.nil ?_
    refine run_seq (x := F7.c13) (y := F7.c14) (by kernel_rfl) ?_
    refine run_plain (id := 4) (ops := F7.o4) [(0, true), (1, false), (2, true), (3, true)] (by kernel_rfl) (by kernel_rfl) ?_
    refine yS (by kernel_rfl : opAt F7.o4 0 = some (some 26, .move (.tmp 3), none)) rfl rfl (fun w' hS => val_move rfl) ?_
    refine cS (by kernel_rfl : opAt F7.o4 1 = some (some 27, .call { callee := .value (.func 11), args := #[(.tmp 26), (.const (.int .i64 4))], argTypes := #[25, 3] }, none)) rfl rfl (ent Try.call11 rfl) (next_ok (d := d0) (n := 4) hF (by decide) hd hdl0 (by omega)) ?_
    rintro vw5 w5 ⟨rfl, hs, hd⟩
    refine ⟨trivial, ?_⟩
    replace hF := hF.st hs
    replace hT := hT.trans hs (by simp)
    replace hl := hl.st hs (by first | decide | (simp <;> omega))
    have hrn1 := d0.num_range (n := 4) (by omega)
    obtain ⟨n1, hnn1⟩ : ∃ n1 : Nat, d0.num 4 = n1 := ⟨_, (Int.toNat_of_nonneg hrn1.1).symm⟩
    rw [hnn1] at hrn1 ⊢
    obtain ⟨d1, hd1⟩ : ∃ d1, d1 = d0.after 4 := ⟨_, rfl⟩
    rw [← hd1] at hd
    have hdl1 : d1.list.length ≤ 140737488355328 := by rw [hd1, Dk.after_list]; exact hdl0
    refine yS (by kernel_rfl : opAt F7.o4 2 = some (some 28, .binOp .add 3 (.const (.int .i64 1)) (.tmp 27) 3, none)) rfl rfl (fun w' hS => val_is (val_addi rfl rfl (by omega) (by omega)) (congrArg (Value.int .i64) (show (1 : Int) + n1 = ((n1 + 1 : Nat) : Int) from by omega))) ?_
    refine yS (by kernel_rfl : opAt F7.o4 3 = some (some 4, .assign (.tmp 28), none)) rfl rfl (fun w' hS => val_assign rfl) ?_
    refine Sch.nil ?_
    refine run_seq (x := F7.c15) (y := F7.c16) (by kernel_rfl) ?_
    refine run_plain (id := 5) (ops := F7.o5) [(0, true), (1, true), (2, false), (3, true), (4, true), (5, false), (6, true), (7, true)] (by kernel_rfl) (by kernel_rfl) ?_
    refine yS (by kernel_rfl : opAt F7.o5 0 = some (some 29, .move (.tmp 3), none)) rfl rfl (fun w' hS => val_move rfl) ?_
    refine yS (by kernel_rfl : opAt F7.o5 1 = some (some 30, .move (.tmp 4), none)) rfl rfl (fun w' hS => val_move rfl) ?_
    refine cS (by kernel_rfl : opAt F7.o5 2 = some (some 31, .call { callee := .value (.func 12), args := #[(.tmp 29), (.tmp 30), (.const (.int .i64 10))], argTypes := #[25, 3, 3] }, none)) rfl rfl (ent Try.call12 rfl) (blockLists_ok (d := d1) (keys := n1 + 1) (most := 10) hF (by decide) hd hdl1 (by omega) (by decide)) ?_
    rintro vw6 w6 ⟨hs, ha, hd⟩
    refine ⟨trivial, ?_⟩
    replace hF := hF.st hs
    replace hT := hT.trans hs (by simp)
    replace hl := hl.st hs (by first | decide | (simp <;> omega))
    obtain ⟨d2, hd2⟩ : ∃ d2, d2 = (listsSt d1 10 (n1 + 1)).1 := ⟨_, rfl⟩
    obtain ⟨a, hda⟩ : ∃ a, a = (listsSt d1 10 (n1 + 1)).2 := ⟨_, rfl⟩
    rw [← hd2] at hd
    rw [← hda] at ha
    have hdl2 : d2.list.length ≤ 140737488355328 := by rw [hd2, listsSt_list]; exact hdl1
    have hla : a.length = n1 + 1 := by rw [hda]; exact listsSt_len _ _ _
    have hsa : ∀ x ∈ a, total x ≤ 4611686018427387904 := fun x hx => by
      rw [hda] at hx
      have := listsSt_total _ _ x hx
      omega
    refine yS (by kernel_rfl : opAt F7.o5 3 = some (some 32, .move (.tmp 3), none)) rfl rfl (fun w' hS => val_move rfl) ?_
    refine yS (by kernel_rfl : opAt F7.o5 4 = some (some 33, .move (.tmp 4), none)) rfl rfl (fun w' hS => val_move rfl) ?_
    refine cS (by kernel_rfl : opAt F7.o5 5 = some (some 34, .call { callee := .value (.func 12), args := #[(.tmp 32), (.tmp 33), (.const (.int .i64 10))], argTypes := #[25, 3, 3] }, none)) rfl rfl (ent Try.call12 rfl) (blockLists_ok (d := d2) (keys := n1 + 1) (most := 10) hF (by decide) hd hdl2 (by omega) (by decide)) ?_
    rintro vw7 w7 ⟨hs, hb, hd⟩
    refine ⟨trivial, ?_⟩
    replace hF := hF.st hs
    replace hT := hT.trans hs (by simp)
    replace hl := hl.st hs (by first | decide | (simp <;> omega))
    replace ha := ha.st hs (by first | decide | (simp <;> omega))
    obtain ⟨d3, hd3⟩ : ∃ d3, d3 = (listsSt d2 10 (n1 + 1)).1 := ⟨_, rfl⟩
    obtain ⟨b, hdb⟩ : ∃ b, b = (listsSt d2 10 (n1 + 1)).2 := ⟨_, rfl⟩
    rw [← hd3] at hd
    rw [← hdb] at hb
    have hdl3 : d3.list.length ≤ 140737488355328 := by rw [hd3, listsSt_list]; exact hdl2
    have hlb : b.length = n1 + 1 := by rw [hdb]; exact listsSt_len _ _ _
    have hsb : ∀ x ∈ b, total x ≤ 4611686018427387904 := fun x hx => by
      rw [hdb] at hx
      have := listsSt_total _ _ x hx
      omega
    refine yS (by kernel_rfl : opAt F7.o5 6 = some (some 5, .assign (.tmp 31), none)) rfl rfl (fun w' hS => val_assign rfl) ?_
    refine yS (by kernel_rfl : opAt F7.o5 7 = some (some 6, .assign (.tmp 34), none)) rfl rfl (fun w' hS => val_assign rfl) ?_
    refine Sch.nil ?_
    refine run_seq (x := F7.c17) (y := F7.c18) (by kernel_rfl) ?_
    refine run_plain (id := 6) (ops := F7.o6) [(0, true), (1, true), (2, false), (3, true), (4, true), (5, true), (6, true), (7, true)] (by kernel_rfl) (by kernel_rfl) ?_
    refine yS (by kernel_rfl : opAt F7.o6 0 = some (some 36, .move (.tmp 5), none)) rfl rfl (fun w' hS => val_move rfl) ?_
    refine yS (by kernel_rfl : opAt F7.o6 1 = some (some 37, .move (.tmp 6), none)) rfl rfl (fun w' hS => val_move rfl) ?_
    obtain ⟨z, hz, hz8, hz1⟩ : ∃ z : Nat, z = 2 ^ (n1 + 1) ∧ z ≤ 16 ∧ 2 ≤ z := ⟨_, rfl, Nat.pow_le_pow_right (n := 2) (by decide) (show n1 + 1 ≤ 4 by omega), Nat.pow_le_pow_right (n := 2) (by decide) (show 1 ≤ n1 + 1 by omega)⟩
    have hchk : ∀ m : Nat, m < z → checkM a b (m : Int) = 0 := fun m hm => by rw [hda, hdb]; exact checkM_dealt d1 d2 (by decide) (by omega) (by rw [← hz]; omega)
    have hck0 := hchk 0 (by omega)
    simp only [Int.natCast_zero] at hck0
    obtain ⟨ag, hag⟩ : ∃ ag, ag = agrI a b a.length := ⟨_, rfl⟩
    obtain ⟨ev, hev⟩ : ∃ ev, ev = evO z ag := ⟨_, rfl⟩
    have hevl : ev.length = z := by rw [hev, evO_len]
    have hevg : ∀ (i : Nat) (h : i < ev.length), ev[i] = ((ag.filter (hits i)).length : Int) := fun i h => by subst hev; exact evO_get z ag i h
    have hagS : ∀ m, agreeS a b m = (ag.filter (alls m)).length := fun m => by rw [hag]; rfl
    refine cS (by kernel_rfl : opAt F7.o6 2 = some (some 38, .call { callee := .value (.func 27), args := #[(.tmp 36), (.tmp 37)], argTypes := #[28, 28] }, none)) rfl rfl (ent Try.call27 rfl) (every_ok hF ha hb hsa hsb) ?_
    rintro vw8 w8 ⟨ue, rfl, hs, he⟩
    refine ⟨trivial, ?_⟩
    replace hF := hF.st hs
    replace hT := hT.trans hs (by simp)
    replace hl := hl.st hs (by first | decide | (simp <;> omega))
    replace hd := hd.st hs (by first | decide | (simp <;> omega)) (by first | decide | (simp <;> omega))
    replace ha := ha.st hs (by first | decide | (simp <;> omega))
    replace hb := hb.st hs (by first | decide | (simp <;> omega))
    rw [hck0]
    rw [hck0, if_neg (by decide), ← hag, hla, ← hz, ← hev] at he
    refine yS (by kernel_rfl : opAt F7.o6 3 = some (some 35, .move (.tmp 38), none)) rfl rfl (fun w' hS => val_move rfl) ?_
    refine yS (by kernel_rfl : opAt F7.o6 4 = some (some 39, .extract (.tmp 35) 0, none)) rfl rfl (fun w' hS => val_extract rfl rfl) ?_
    refine yS (by kernel_rfl : opAt F7.o6 5 = some (some 40, .extract (.tmp 35) 1, none)) rfl rfl (fun w' hS => val_extract rfl rfl) ?_
    refine yS (by kernel_rfl : opAt F7.o6 6 = some (some 7, .assign (.tmp 39), none)) rfl rfl (fun w' hS => val_assign rfl) ?_
    refine yS (by kernel_rfl : opAt F7.o6 7 = some (some 8, .assign (.tmp 40), none)) rfl rfl (fun w' hS => val_assign rfl) ?_
    refine Sch.nil ?_
    refine run_seq (x := F7.c19) (y := F7.c26) (by kernel_rfl) ?_
    refine run_seq (x := F7.c20) (y := F7.c21) (by kernel_rfl) ?_
    refine run_plain (id := 7) (ops := F7.o7) [(0, true), (1, true), (2, true), (3, true), (4, true), (5, true), (6, true), (7, true), (8, true), (9, true), (10, true), (11, true), (12, false), (13, true), (14, true)] (by kernel_rfl) (by kernel_rfl) ?_
    refine yS (by kernel_rfl : opAt F7.o7 0 = some (some 41, .move (.tmp 8), none)) rfl rfl (fun w' hS => val_move rfl) ?_
    refine yS (by kernel_rfl : opAt F7.o7 1 = some (some 42, .binOp .neq 31 (.tmp 41) (.const (.int .i64 0)) 31, none)) rfl rfl (fun w' hS => val_F (val_neq rfl rfl) (by decide)) ?_
    refine yS (by kernel_rfl : opAt F7.o7 2 = some (some 43, .move (.tmp 42), none)) rfl rfl (fun w' hS => val_move rfl) ?_
    refine yS (by kernel_rfl : opAt F7.o7 3 = some (some 44, .move (.tmp 7), (some (2, false)))) rfl rfl (fun w' hS => val_move rfl) ?_
    refine yS (by kernel_rfl : opAt F7.o7 4 = some (some 45, .call { callee := .builtin .len, args := #[(.tmp 44)], argTypes := #[22] }, (some (2, false)))) rfl rfl (fun w' hS => he.lenV rfl Try.underlying22 w' ) ?_
    refine yS (by kernel_rfl : opAt F7.o7 5 = some (some 46, .move (.tmp 4), (some (2, false)))) rfl rfl (fun w' hS => val_move rfl) ?_
    refine yS (by kernel_rfl : opAt F7.o7 6 = some (some 47, .binOp .shl 3 (.const (.int .i64 1)) (.tmp 46) 3, (some (2, false)))) rfl rfl (fun w' hS => val_shlE (r := (z : Int)) rfl rfl (by omega) (by rw [hz]; exact shl1N (by omega))) ?_
    refine yS (by kernel_rfl : opAt F7.o7 7 = some (some 48, .binOp .neq 3 (.tmp 45) (.tmp 47) 3, (some (2, false)))) rfl rfl (fun w' hS => val_F (val_neq rfl rfl) (by omega)) ?_
    refine yS (by kernel_rfl : opAt F7.o7 8 = some (some 49, .pick (.tmp 43) (.const (.bool true)) (.tmp 48), none)) rfl rfl (fun w' hS => val_pick_f rfl rfl) ?_
    refine yS (by kernel_rfl : opAt F7.o7 9 = some (some 50, .move (.tmp 49), none)) rfl rfl (fun w' hS => val_move rfl) ?_
    refine yS (by kernel_rfl : opAt F7.o7 10 = some (some 51, .move (.tmp 7), (some (9, false)))) rfl rfl (fun w' hS => val_move rfl) ?_
    refine iS (e := 3) (by kernel_rfl : opAt F7.o7 11 = some (some 52, .indexAddr 22 (.tmp 51) (.const (.int .i64 0)), (some (9, false)))) rfl rfl he rfl (by kernel_rfl) rfl (by omega) (by omega) ?_
    intro b52 o52 h52
    try simp only [Int.toNat_natCast] at h52
    refine lN (by kernel_rfl : opAt F7.o7 12 = some (some 53, .load 3 (.tmp 52), (some (9, false)))) rfl rfl trivial h52 (by kernel_rfl) rfl rfl ?_
    intro v53 g53
    obtain rfl := rv_int.1 g53
    refine yS (by kernel_rfl : opAt F7.o7 13 = some (some 54, .binOp .neq 3 (.tmp 53) (.const (.int .i64 0)) 3, (some (9, false)))) rfl rfl (fun w' hS => val_F (val_neq rfl rfl) (by rw [hevg]; simp only [Int.toNat_zero]; rw [hits_zero]; decide)) ?_
    refine yS (by kernel_rfl : opAt F7.o7 14 = some (some 55, .pick (.tmp 50) (.const (.bool true)) (.tmp 54), none)) rfl rfl (fun w' hS => val_pick_f rfl rfl) ?_
    refine Sch.nil ?_
    refine run_cond (x := F7.c22) (y := F7.c25) (o := .tmp 55) (b := false) (by kernel_rfl) rfl (fun h => by cases h) (fun _ => ?_)
    refine run_skip (by kernel_rfl) ?_
    refine run_seq (x := F7.c27) (y := F7.c74) (by kernel_rfl) ?_
    refine run_seq (x := F7.c28) (y := F7.c29) (by kernel_rfl) ?_
    refine run_plain (id := 9) (ops := F7.o9) [(0, true)] (by kernel_rfl) (by kernel_rfl) ?_
    refine yS (by kernel_rfl : opAt F7.o9 0 = some (some 9, .assign (.const (.int .i64 1)), none)) rfl rfl (fun w' hS => val_assign rfl) ?_
    refine Sch.nil ?_
    refine run_block (x := F7.c30) (id := 0) (by kernel_rfl) ?_
    refine run_loop (ι := Nat × (Nat → Nat)) (I := fun x w => 1 ≤ x.1 ∧ x.1 ≤ z ∧ Lim w x.2 ∧ Stp [2, 3, 4, 5, 6, 7, 8, 9] w₀ (col1 C) w x.2 ∧ RV w (Mc x.2) a vw6 ∧ RV w (Mc x.2) b vw7 ∧ RV w (Mc x.2) ev ue) (e := fun x => [(4, .int .i64 (n1 + 1 : Nat)), (5, vw6), (6, vw7), (7, ue), (9, .int .i64 x.1)]) (m := fun x => z - x.1) (x₀ := (1, Cd)) (body := F7.c31) (by kernel_rfl) (sub_cons 4 rfl rfl (sub_cons 5 rfl rfl (sub_cons 6 rfl rfl (sub_cons 7 rfl rfl (sub_cons 9 rfl rfl (sub_nil _)))))) ?_ ?_
    · exact ⟨Nat.le_refl _, by simp only; omega, hF, hT, ha, hb, he⟩
    intro ⟨k, C1⟩ w9 hI next
    obtain ⟨hk1, hk, hF, hT, ha, hb, he⟩ := hI
    simp only at hk1 hk hF hT ha hb he
    show Run _ _ _ _ [(4, .int .i64 (n1 + 1 : Nat)), (5, vw6), (6, vw7), (7, ue), (9, .int .i64 (k : Int))] _ _
    refine run_seq (x := F7.c32) (y := F7.c37) (by kernel_rfl) ?_
    refine run_seq (x := F7.c33) (y := F7.c34) (by kernel_rfl) ?_
    refine run_plain (id := 10) (ops := F7.o10) [(0, true), (1, true), (2, true), (3, true)] (by kernel_rfl) (by kernel_rfl) ?_
    refine yS (by kernel_rfl : opAt F7.o10 0 = some (some 56, .move (.tmp 9), none)) rfl rfl (fun w' hS => val_move rfl) ?_
    refine yS (by kernel_rfl : opAt F7.o10 1 = some (some 57, .move (.tmp 4), none)) rfl rfl (fun w' hS => val_move rfl) ?_
    refine yS (by kernel_rfl : opAt F7.o10 2 = some (some 58, .binOp .shl 3 (.const (.int .i64 1)) (.tmp 57) 3, none)) rfl rfl (fun w' hS => val_shlE (r := (z : Int)) rfl rfl (by omega) (by rw [hz]; exact shl1N (by omega))) ?_
    refine yS (by kernel_rfl : opAt F7.o10 3 = some (some 59, .binOp .lss 3 (.tmp 56) (.tmp 58) 3, none)) rfl rfl (fun w' hS => val_lss rfl rfl) ?_
    refine Sch.nil ?_
    refine run_if (x := F7.c35) (y := F7.c36) (o := .tmp 59) (by kernel_rfl) rfl (fun h59 => ?_) (fun h59 => ?_)
    · skip
      have hkz : k < z := by omega
      refine run_skip (by kernel_rfl) ?_
      refine run_seq (x := F7.c38) (y := F7.c73) (by kernel_rfl) ?_
      refine run_block (x := F7.c39) (id := 1) (by kernel_rfl) ?_
      refine run_seq (x := F7.c40) (y := F7.c41) (by kernel_rfl) ?_
      refine run_plain (id := 12) (ops := F7.o12) [(0, true), (1, true), (2, true), (3, false), (4, true), (5, true), (6, true), (7, true), (8, true)] (by kernel_rfl) (by kernel_rfl) ?_
      refine yS (by kernel_rfl : opAt F7.o12 0 = some (some 63, .move (.tmp 5), none)) rfl rfl (fun w' hS => val_move rfl) ?_
      refine yS (by kernel_rfl : opAt F7.o12 1 = some (some 64, .move (.tmp 6), none)) rfl rfl (fun w' hS => val_move rfl) ?_
      refine yS (by kernel_rfl : opAt F7.o12 2 = some (some 65, .move (.tmp 9), none)) rfl rfl (fun w' hS => val_move rfl) ?_
      refine cS (by kernel_rfl : opAt F7.o12 3 = some (some 66, .call { callee := .value (.func 16), args := #[(.tmp 63), (.tmp 64), (.tmp 65)], argTypes := #[28, 28, 3] }, none)) rfl rfl (ent Try.call16 rfl) (agreeing_ok (mask := (k : Int)) hF ha hb hsa hsb) ?_
      rintro vw10 w10 ⟨hv, hs⟩
      refine ⟨trivial, ?_⟩
      replace hF := hF.st hs
      replace hT := hT.trans hs (by simp)
      replace ha := ha.st hs (by first | decide | (simp <;> omega))
      replace hb := hb.st hs (by first | decide | (simp <;> omega))
      replace he := he.st hs (by first | decide | (simp <;> omega))
      have hck := hchk k hkz
      rw [if_neg (by rw [hck]; omega), hck, Int.toNat_natCast, hagS] at hv
      subst hv
      refine yS (by kernel_rfl : opAt F7.o12 4 = some (some 62, .move (.tmp 66), none)) rfl rfl (fun w' hS => val_move rfl) ?_
      refine yS (by kernel_rfl : opAt F7.o12 5 = some (some 67, .extract (.tmp 62) 0, none)) rfl rfl (fun w' hS => val_extract rfl rfl) ?_
      refine yS (by kernel_rfl : opAt F7.o12 6 = some (some 68, .extract (.tmp 62) 1, none)) rfl rfl (fun w' hS => val_extract rfl rfl) ?_
      refine yS (by kernel_rfl : opAt F7.o12 7 = some (some 10, .assign (.tmp 67), none)) rfl rfl (fun w' hS => val_assign rfl) ?_
      refine yS (by kernel_rfl : opAt F7.o12 8 = some (some 11, .assign (.tmp 68), none)) rfl rfl (fun w' hS => val_assign rfl) ?_
      refine Sch.nil ?_
      refine run_seq (x := F7.c42) (y := F7.c49) (by kernel_rfl) ?_
      refine run_seq (x := F7.c43) (y := F7.c44) (by kernel_rfl) ?_
      refine run_plain (id := 13) (ops := F7.o13) [(0, true), (1, true), (2, true), (3, true), (4, true), (5, true), (6, true), (7, false), (8, true), (9, true)] (by kernel_rfl) (by kernel_rfl) ?_
      refine yS (by kernel_rfl : opAt F7.o13 0 = some (some 69, .move (.tmp 11), none)) rfl rfl (fun w' hS => val_move rfl) ?_
      refine yS (by kernel_rfl : opAt F7.o13 1 = some (some 70, .binOp .neq 31 (.tmp 69) (.const (.int .i64 0)) 31, none)) rfl rfl (fun w' hS => val_F (val_neq rfl rfl) (by decide)) ?_
      refine yS (by kernel_rfl : opAt F7.o13 2 = some (some 71, .move (.tmp 70), none)) rfl rfl (fun w' hS => val_move rfl) ?_
      refine yS (by kernel_rfl : opAt F7.o13 3 = some (some 72, .move (.tmp 10), (some (2, false)))) rfl rfl (fun w' hS => val_move rfl) ?_
      refine yS (by kernel_rfl : opAt F7.o13 4 = some (some 73, .move (.tmp 7), (some (2, false)))) rfl rfl (fun w' hS => val_move rfl) ?_
      refine yS (by kernel_rfl : opAt F7.o13 5 = some (some 74, .move (.tmp 9), (some (2, false)))) rfl rfl (fun w' hS => val_move rfl) ?_
      refine iS (e := 3) (by kernel_rfl : opAt F7.o13 6 = some (some 75, .indexAddr 22 (.tmp 73) (.tmp 74), (some (2, false)))) rfl rfl he rfl (by kernel_rfl) rfl (by omega) (by omega) ?_
      intro b75 o75 h75
      try simp only [Int.toNat_natCast] at h75
      refine lN (by kernel_rfl : opAt F7.o13 7 = some (some 76, .load 3 (.tmp 75), (some (2, false)))) rfl rfl trivial h75 (by kernel_rfl) rfl rfl ?_
      intro v76 g76
      obtain rfl := rv_int.1 g76
      refine yS (by kernel_rfl : opAt F7.o13 8 = some (some 77, .binOp .gtr 3 (.tmp 72) (.tmp 76) 3, (some (2, false)))) rfl rfl (fun w' hS => val_F (val_gtr rfl rfl) (by rw [hevg]; have := alls_hits ag (m := k) (by omega); omega)) ?_
      refine yS (by kernel_rfl : opAt F7.o13 9 = some (some 78, .pick (.tmp 71) (.const (.bool true)) (.tmp 77), none)) rfl rfl (fun w' hS => val_pick_f rfl rfl) ?_
      refine Sch.nil ?_
      refine run_cond (x := F7.c45) (y := F7.c48) (o := .tmp 78) (b := false) (by kernel_rfl) rfl (fun h => by cases h) (fun _ => ?_)
      refine run_skip (by kernel_rfl) ?_
      refine run_seq (x := F7.c50) (y := F7.c51) (by kernel_rfl) ?_
      refine run_plain (id := 15) (ops := F7.o15) [(0, true)] (by kernel_rfl) (by kernel_rfl) ?_
      refine yS (by kernel_rfl : opAt F7.o15 0 = some (some 12, .assign (.const (.int .i64 0)), none)) rfl rfl (fun w' hS => val_assign rfl) ?_
      refine Sch.nil ?_
      refine run_block (x := F7.c52) (id := 2) (by kernel_rfl) ?_
      have next0x := next
      clear next
      refine run_loop (ι := Nat × (Nat → Nat)) (I := fun x w => x.1 ≤ n1 + 1 ∧ Lim w x.2 ∧ Stp [2, 3, 4, 5, 6, 7, 8, 9] w₀ (col1 C) w x.2 ∧ RV w (Mc x.2) a vw6 ∧ RV w (Mc x.2) b vw7 ∧ RV w (Mc x.2) ev ue) (e := fun x => [(4, .int .i64 (n1 + 1 : Nat)), (5, vw6), (6, vw7), (7, ue), (9, .int .i64 k), (10, .int .i64 ((ag.filter (alls k)).length : Nat)), (12, .int .i64 x.1)]) (m := fun x => n1 + 1 - x.1) (x₀ := (0, C1)) (body := F7.c53) (by kernel_rfl) (sub_cons 4 rfl rfl (sub_cons 5 rfl rfl (sub_cons 6 rfl rfl (sub_cons 7 rfl rfl (sub_cons 9 rfl rfl (sub_cons 10 rfl rfl (sub_cons 12 rfl rfl (sub_nil _)))))))) ?_ ?_
      · exact ⟨Nat.zero_le _, hF, hT, ha, hb, he⟩
      intro ⟨i, C2⟩ w11 hI next
      obtain ⟨hi, hF, hT, ha, hb, he⟩ := hI
      simp only at hi hF hT ha hb he
      show Run _ _ _ _ [(4, .int .i64 (n1 + 1 : Nat)), (5, vw6), (6, vw7), (7, ue), (9, .int .i64 k), (10, .int .i64 ((ag.filter (alls k)).length : Nat)), (12, .int .i64 (i : Int))] _ _
      refine run_seq (x := F7.c54) (y := F7.c59) (by kernel_rfl) ?_
      refine run_seq (x := F7.c55) (y := F7.c56) (by kernel_rfl) ?_
      refine run_plain (id := 16) (ops := F7.o16) [(0, true), (1, true), (2, true)] (by kernel_rfl) (by kernel_rfl) ?_
      refine yS (by kernel_rfl : opAt F7.o16 0 = some (some 79, .move (.tmp 12), none)) rfl rfl (fun w' hS => val_move rfl) ?_
      refine yS (by kernel_rfl : opAt F7.o16 1 = some (some 80, .move (.tmp 4), none)) rfl rfl (fun w' hS => val_move rfl) ?_
      refine yS (by kernel_rfl : opAt F7.o16 2 = some (some 81, .binOp .lss 3 (.tmp 79) (.tmp 80) 3, none)) rfl rfl (fun w' hS => val_lss rfl rfl) ?_
      refine Sch.nil ?_
      refine run_if (x := F7.c57) (y := F7.c58) (o := .tmp 81) (by kernel_rfl) rfl (fun h81 => ?_) (fun h81 => ?_)
      · skip
        have hin : i < n1 + 1 := by omega
        obtain ⟨pw, hpw⟩ : ∃ pw : Nat, pw = 2 ^ i := ⟨_, rfl⟩
        have hpz : pw < z := by rw [hpw, hz]; exact Nat.pow_lt_pow_right (by decide) hin
        obtain ⟨more, hmore⟩ : ∃ m : Nat, m = k ||| pw := ⟨_, rfl⟩
        have hmz : more < z := by rw [hmore, hz]; exact Nat.or_lt_two_pow (by rw [← hz]; exact hkz) (by rw [← hz]; exact hpz)
        have hm0 : more ≠ 0 := by
          have : k ≤ more := by rw [hmore]; exact Nat.left_le_or
          omega
        have hgr := hits_grow ag k pw
        have hal := alls_grow ag k pw
        rw [← hmore] at hgr hal
        refine run_skip (by kernel_rfl) ?_
        refine run_seq (x := F7.c60) (y := F7.c72) (by kernel_rfl) ?_
        refine run_block (x := F7.c61) (id := 3) (by kernel_rfl) ?_
        refine run_seq (x := F7.c62) (y := F7.c63) (by kernel_rfl) ?_
        refine run_plain (id := 18) (ops := F7.o18) [(0, true), (1, true), (2, true), (3, true), (4, true)] (by kernel_rfl) (by kernel_rfl) ?_
        refine yS (by kernel_rfl : opAt F7.o18 0 = some (some 84, .move (.tmp 9), none)) rfl rfl (fun w' hS => val_move rfl) ?_
        refine yS (by kernel_rfl : opAt F7.o18 1 = some (some 85, .move (.tmp 12), none)) rfl rfl (fun w' hS => val_move rfl) ?_
        refine yS (by kernel_rfl : opAt F7.o18 2 = some (some 86, .binOp .shl 3 (.const (.int .i64 1)) (.tmp 85) 3, none)) rfl rfl (fun w' hS => val_shlE (r := (pw : Int)) rfl rfl (by omega) (by rw [hpw]; exact shl1N (by omega))) ?_
        refine yS (by kernel_rfl : opAt F7.o18 3 = some (some 87, .binOp .or 3 (.tmp 84) (.tmp 86) 3, none)) rfl rfl (fun w' hS => val_orE (r := (more : Int)) rfl rfl (by rw [hmore]; exact bits_or (by omega) (by omega))) ?_
        refine yS (by kernel_rfl : opAt F7.o18 4 = some (some 13, .assign (.tmp 87), none)) rfl rfl (fun w' hS => val_assign rfl) ?_
        refine Sch.nil ?_
        refine run_seq (x := F7.c64) (y := F7.c65) (by kernel_rfl) ?_
        refine run_plain (id := 19) (ops := F7.o19) [(0, true), (1, true), (2, true), (3, false), (4, true), (5, true), (6, true), (7, true), (8, true)] (by kernel_rfl) (by kernel_rfl) ?_
        refine yS (by kernel_rfl : opAt F7.o19 0 = some (some 89, .move (.tmp 5), none)) rfl rfl (fun w' hS => val_move rfl) ?_
        refine yS (by kernel_rfl : opAt F7.o19 1 = some (some 90, .move (.tmp 6), none)) rfl rfl (fun w' hS => val_move rfl) ?_
        refine yS (by kernel_rfl : opAt F7.o19 2 = some (some 91, .move (.tmp 13), none)) rfl rfl (fun w' hS => val_move rfl) ?_
        refine cS (by kernel_rfl : opAt F7.o19 3 = some (some 92, .call { callee := .value (.func 16), args := #[(.tmp 89), (.tmp 90), (.tmp 91)], argTypes := #[28, 28, 3] }, none)) rfl rfl (ent Try.call16 rfl) (agreeing_ok (mask := (more : Int)) hF ha hb hsa hsb) ?_
        rintro vw12 w12 ⟨hv, hs⟩
        refine ⟨trivial, ?_⟩
        replace hF := hF.st hs
        replace hT := hT.trans hs (by simp)
        replace ha := ha.st hs (by first | decide | (simp <;> omega))
        replace hb := hb.st hs (by first | decide | (simp <;> omega))
        replace he := he.st hs (by first | decide | (simp <;> omega))
        have hck := hchk more hmz
        rw [if_neg (by rw [hck]; omega), hck, Int.toNat_natCast, hagS] at hv
        subst hv
        refine yS (by kernel_rfl : opAt F7.o19 4 = some (some 88, .move (.tmp 92), none)) rfl rfl (fun w' hS => val_move rfl) ?_
        refine yS (by kernel_rfl : opAt F7.o19 5 = some (some 93, .extract (.tmp 88) 0, none)) rfl rfl (fun w' hS => val_extract rfl rfl) ?_
        refine yS (by kernel_rfl : opAt F7.o19 6 = some (some 94, .extract (.tmp 88) 1, none)) rfl rfl (fun w' hS => val_extract rfl rfl) ?_
        refine yS (by kernel_rfl : opAt F7.o19 7 = some (some 14, .assign (.tmp 93), none)) rfl rfl (fun w' hS => val_assign rfl) ?_
        refine yS (by kernel_rfl : opAt F7.o19 8 = some (some 15, .assign (.tmp 94), none)) rfl rfl (fun w' hS => val_assign rfl) ?_
        refine Sch.nil ?_
        refine run_seq (x := F7.c66) (y := F7.c67) (by kernel_rfl) ?_
        refine run_draw (id := 20) (ops := F7.o20) [] (C2) [(0, true), (1, true), (2, true), (3, true), (4, true), (5, true), (6, true), (7, true), (8, true), (9, true), (10, true), (11, true), (12, true), (13, true), (14, true), (15, true), (16, true), (17, true)] Try_mixed (by kernel_rfl) (by kernel_rfl) (by kernel_rfl) ?_
        intro w13 hs
        replace hF := hF.st hs
        replace hT := hT.trans hs (by simp)
        replace ha := ha.st hs (by first | decide | (simp <;> omega))
        replace hb := hb.st hs (by first | decide | (simp <;> omega))
        replace he := he.st hs (by first | decide | (simp <;> omega))
        refine yS (by kernel_rfl : opAt F7.o20 0 = some (some 95, .move (.tmp 15), none)) rfl rfl (fun w' hS => val_move rfl) ?_
        refine yS (by kernel_rfl : opAt F7.o20 1 = some (some 96, .binOp .neq 31 (.tmp 95) (.const (.int .i64 0)) 31, none)) rfl rfl (fun w' hS => val_F (val_neq rfl rfl) (by decide)) ?_
        refine yS (by kernel_rfl : opAt F7.o20 2 = some (some 97, .move (.tmp 96), none)) rfl rfl (fun w' hS => val_move rfl) ?_
        refine yS (by kernel_rfl : opAt F7.o20 3 = some (some 98, .move (.tmp 7), (some (2, false)))) rfl rfl (fun w' hS => val_move rfl) ?_
        refine yS (by kernel_rfl : opAt F7.o20 4 = some (some 99, .move (.tmp 13), (some (2, false)))) rfl rfl (fun w' hS => val_move rfl) ?_
        refine iS (e := 3) (by kernel_rfl : opAt F7.o20 5 = some (some 100, .indexAddr 22 (.tmp 98) (.tmp 99), (some (2, false)))) rfl rfl he rfl (by kernel_rfl) rfl (by omega) (by omega) ?_
        intro b100 o100 h100
        try simp only [Int.toNat_natCast] at h100
        refine lS (by kernel_rfl : opAt F7.o20 6 = some (some 101, .load 3 (.tmp 100), (some (2, false)))) rfl rfl (fun w' hS => h100.stay hS (by decide)) h100 (by kernel_rfl) rfl rfl ?_
        intro v101 g101
        obtain rfl := rv_int.1 g101
        refine yS (by kernel_rfl : opAt F7.o20 7 = some (some 102, .move (.tmp 7), (some (2, false)))) rfl rfl (fun w' hS => val_move rfl) ?_
        refine yS (by kernel_rfl : opAt F7.o20 8 = some (some 103, .move (.tmp 9), (some (2, false)))) rfl rfl (fun w' hS => val_move rfl) ?_
        refine iS (e := 3) (by kernel_rfl : opAt F7.o20 9 = some (some 104, .indexAddr 22 (.tmp 102) (.tmp 103), (some (2, false)))) rfl rfl he rfl (by kernel_rfl) rfl (by omega) (by omega) ?_
        intro b104 o104 h104
        try simp only [Int.toNat_natCast] at h104
        refine lS (by kernel_rfl : opAt F7.o20 10 = some (some 105, .load 3 (.tmp 104), (some (2, false)))) rfl rfl (fun w' hS => h104.stay hS (by decide)) h104 (by kernel_rfl) rfl rfl ?_
        intro v105 g105
        obtain rfl := rv_int.1 g105
        refine yS (by kernel_rfl : opAt F7.o20 11 = some (some 106, .binOp .lss 3 (.tmp 101) (.tmp 105) 3, (some (2, false)))) rfl rfl (fun w' hS => val_F (val_lss rfl rfl) (by rw [hevg, hevg]; omega)) ?_
        refine yS (by kernel_rfl : opAt F7.o20 12 = some (some 107, .pick (.tmp 97) (.const (.bool true)) (.tmp 106), none)) rfl rfl (fun w' hS => val_pick_f rfl rfl) ?_
        refine yS (by kernel_rfl : opAt F7.o20 13 = some (some 108, .move (.tmp 107), none)) rfl rfl (fun w' hS => val_move rfl) ?_
        refine yS (by kernel_rfl : opAt F7.o20 14 = some (some 109, .move (.tmp 14), (some (13, false)))) rfl rfl (fun w' hS => val_move rfl) ?_
        refine yS (by kernel_rfl : opAt F7.o20 15 = some (some 110, .move (.tmp 10), (some (13, false)))) rfl rfl (fun w' hS => val_move rfl) ?_
        refine yS (by kernel_rfl : opAt F7.o20 16 = some (some 111, .binOp .gtr 3 (.tmp 109) (.tmp 110) 3, (some (13, false)))) rfl rfl (fun w' hS => val_F (val_gtr rfl rfl) (by omega)) ?_
        refine yS (by kernel_rfl : opAt F7.o20 17 = some (some 112, .pick (.tmp 108) (.const (.bool true)) (.tmp 111), none)) rfl rfl (fun w' hS => val_pick_f rfl rfl) ?_
        refine Sch.nil ?_
        refine run_cond (x := F7.c68) (y := F7.c71) (o := .tmp 112) (b := false) (by kernel_rfl) rfl (fun h => by cases h) (fun _ => ?_)
        refine run_skip (by kernel_rfl) ?_
        refine run_inBlock ?_
        refine run_plain (id := 17) (ops := F7.o17) [(0, true), (1, true), (2, true)] (by kernel_rfl) (by kernel_rfl) ?_
        refine yS (by kernel_rfl : opAt F7.o17 0 = some (some 82, .move (.tmp 12), none)) rfl rfl (fun w' hS => val_move rfl) ?_
        refine yS (by kernel_rfl : opAt F7.o17 1 = some (some 83, .binOp .add 3 (.tmp 82) (.const (.int .i64 1)) 3, none)) rfl rfl (fun w' hS => val_addi rfl rfl (by omega) (by omega)) ?_
        refine yS (by kernel_rfl : opAt F7.o17 2 = some (some 12, .assign (.tmp 83), none)) rfl rfl (fun w' hS => val_assign rfl) ?_
        refine Sch.nil ?_
        refine kp (sub_cons 4 rfl rfl (sub_cons 5 rfl rfl (sub_cons 6 rfl rfl (sub_cons 7 rfl rfl (sub_cons 9 rfl rfl (sub_cons 10 rfl rfl (sub_cons 12 rfl (eq_int (by simp)) (sub_nil _)))))))) (next (i + 1, C2) _ ⟨by simp only; omega, hF, hT, ha, hb, he⟩ (by simp only; omega))
      · skip
        obtain rfl : i = n1 + 1 := by omega
        refine run_exit (id := 2) (by kernel_rfl) rfl ?_
        refine run_inBlock ?_
        refine run_plain (id := 11) (ops := F7.o11) [(0, true), (1, true), (2, true)] (by kernel_rfl) (by kernel_rfl) ?_
        refine yS (by kernel_rfl : opAt F7.o11 0 = some (some 60, .move (.tmp 9), none)) rfl rfl (fun w' hS => val_move rfl) ?_
        refine yS (by kernel_rfl : opAt F7.o11 1 = some (some 61, .binOp .add 3 (.tmp 60) (.const (.int .i64 1)) 3, none)) rfl rfl (fun w' hS => val_addi rfl rfl (by omega) (by omega)) ?_
        refine yS (by kernel_rfl : opAt F7.o11 2 = some (some 9, .assign (.tmp 61), none)) rfl rfl (fun w' hS => val_assign rfl) ?_
        refine Sch.nil ?_
        refine kp (sub_cons 4 rfl rfl (sub_cons 5 rfl rfl (sub_cons 6 rfl rfl (sub_cons 7 rfl rfl (sub_cons 9 rfl (eq_int (by simp)) (sub_nil _)))))) (next0x (k + 1, C2) _ ⟨by simp only; omega, by simp only; omega, hF, hT, ha, hb, he⟩ (by simp only; omega))
    · skip
      obtain rfl : k = z := by omega
      refine run_exit (id := 0) (by kernel_rfl) rfl ?_
      refine run_seq (x := F7.c75) (y := F7.c76) (by kernel_rfl) ?_
      refine run_plain (id := 22) (ops := F7.o22) [(0, true)] (by kernel_rfl) (by kernel_rfl) ?_
      refine yS (by kernel_rfl : opAt F7.o22 0 = some (some 2, .assign (.const (.bool true)), none)) rfl rfl (fun w' hS => val_assign rfl) ?_
      refine Sch.nil ?_
      refine run_ret1 (by kernel_rfl) Try.func7 Try.results7 rfl ?_
      exact ⟨rfl, hT.out1 (by decide)⟩
namespace F7B
noncomputable def c0 : Code := bodyOf Try.f7
noncomputable def c1 : Code := cl c0
noncomputable def o0 : Array Oper := rops c1
noncomputable def c2 : Code := cr c0
noncomputable def c3 : Code := cl c2
noncomputable def c4 : Code := cl c3
noncomputable def o1 : Array Oper := rops c4
noncomputable def c5 : Code := cr c3
noncomputable def c6 : Code := cl c5
noncomputable def c7 : Code := cl c6
noncomputable def o2 : Array Oper := rops c7
noncomputable def c8 : Code := cr c6
noncomputable def c9 : Code := cr c5
noncomputable def c10 : Code := cr c2
noncomputable def c11 : Code := cl c10
noncomputable def o3 : Array Oper := rops c11
noncomputable def c12 : Code := cr c10
noncomputable def c13 : Code := cl c12
noncomputable def o4 : Array Oper := rops c13
noncomputable def c14 : Code := cr c12
noncomputable def c15 : Code := cl c14
noncomputable def o5 : Array Oper := rops c15
noncomputable def c16 : Code := cr c14
noncomputable def c17 : Code := cl c16
noncomputable def o6 : Array Oper := rops c17
noncomputable def c18 : Code := cr c16
noncomputable def c19 : Code := cl c18
noncomputable def c20 : Code := cl c19
noncomputable def o7 : Array Oper := rops c20
noncomputable def c21 : Code := cr c19
noncomputable def c22 : Code := cl c21
noncomputable def c23 : Code := cl c22
noncomputable def o8 : Array Oper := rops c23
noncomputable def c24 : Code := cr c22
noncomputable def c25 : Code := cr c21
noncomputable def c26 : Code := cr c18
noncomputable def c27 : Code := cl c26
noncomputable def c28 : Code := cl c27
noncomputable def o9 : Array Oper := rops c28
noncomputable def c29 : Code := cr c27
noncomputable def c30 : Code := cl c29
noncomputable def c31 : Code := cl c30
noncomputable def c32 : Code := cl c31
noncomputable def c33 : Code := cl c32
noncomputable def o10 : Array Oper := rops c33
noncomputable def c34 : Code := cr c32
noncomputable def c35 : Code := cl c34
noncomputable def c36 : Code := cr c34
noncomputable def c37 : Code := cr c31
noncomputable def c38 : Code := cl c37
noncomputable def c39 : Code := cl c38
noncomputable def c40 : Code := cl c39
noncomputable def o12 : Array Oper := rops c40
noncomputable def c41 : Code := cr c39
noncomputable def c42 : Code := cl c41
noncomputable def c43 : Code := cl c42
noncomputable def o13 : Array Oper := rops c43
noncomputable def c44 : Code := cr c42
noncomputable def c45 : Code := cl c44
noncomputable def c46 : Code := cl c45
noncomputable def o14 : Array Oper := rops c46
noncomputable def c47 : Code := cr c45
noncomputable def c48 : Code := cr c44
noncomputable def c49 : Code := cr c41
noncomputable def c50 : Code := cl c49
noncomputable def o15 : Array Oper := rops c50
noncomputable def c51 : Code := cr c49
noncomputable def c52 : Code := cl c51
noncomputable def c53 : Code := cl c52
noncomputable def c54 : Code := cl c53
noncomputable def c55 : Code := cl c54
noncomputable def o16 : Array Oper := rops c55
noncomputable def c56 : Code := cr c54
noncomputable def c57 : Code := cl c56
noncomputable def c58 : Code := cr c56
noncomputable def c59 : Code := cr c53
noncomputable def c60 : Code := cl c59
noncomputable def c61 : Code := cl c60
noncomputable def c62 : Code := cl c61
noncomputable def o18 : Array Oper := rops c62
noncomputable def c63 : Code := cr c61
noncomputable def c64 : Code := cl c63
noncomputable def o19 : Array Oper := rops c64
noncomputable def c65 : Code := cr c63
noncomputable def c66 : Code := cl c65
noncomputable def o20 : Array Oper := rops c66
noncomputable def c67 : Code := cr c65
noncomputable def c68 : Code := cl c67
noncomputable def c69 : Code := cl c68
noncomputable def o21 : Array Oper := rops c69
noncomputable def c70 : Code := cr c68
noncomputable def c71 : Code := cr c67
noncomputable def c72 : Code := cr c59
noncomputable def o17 : Array Oper := rops c72
noncomputable def c73 : Code := cr c37
noncomputable def o11 : Array Oper := rops c73
noncomputable def c74 : Code := cr c26
noncomputable def c75 : Code := cl c74
noncomputable def o22 : Array Oper := rops c75
noncomputable def c76 : Code := cr c74
end F7B
/-- .. where more is handed than it looks at. -/
theorem pairsGrow_big {w₀ : World} {C : Nat → Nat} {p : Option Addr} {n c : Nat} (hF : Lim w₀ C) (hn : 400 < n) : Calls Try.prog 7 #[.slice p n c] w₀ (Ret fun v w' => v = .bool true ∧ Stp [] w₀ C w' C) := by
  have hF0 := hF
  have hT := Stp.refl [2, 3, 4, 5, 6, 7, 8, 9] w₀ (col1 C)
  replace hF := hF.col1
  refine calls_start (c := F7B.c0) (N := 113) [.slice p n c] Try.func7 (by kernel_rfl) (by kernel_rfl) (by kernel_rfl) ?_
  show Run _ _ _ _ [(0, .slice p n c)] _ _
  refine run_seq (x := F7B.c1) (y := F7B.c2) (by kernel_rfl) ?_
  refine run_plain (id := 0) (ops := F7B.o0) [(0, true)] (by kernel_rfl) (by kernel_rfl) ?_
  refine yS (by kernel_rfl : opAt F7B.o0 0 = some (some 2, .assign (.const (.bool false)), none)) rfl rfl (fun w' hS => val_assign rfl) ?_
  refine Sch.nil ?_
  refine run_seq (x := F7B.c3) (y := F7B.c10) (by kernel_rfl) ?_
  refine run_seq (x := F7B.c4) (y := F7B.c5) (by kernel_rfl) ?_
  refine run_plain (id := 1) (ops := F7B.o1) [(0, false), (1, true), (2, true), (3, true), (4, false), (5, true), (6, true)] (by kernel_rfl) (by kernel_rfl) ?_
  refine cS (by kernel_rfl : opAt F7B.o1 0 = some (some 16, .call { callee := .value (.func 8), args := #[], argTypes := #[] }, none)) rfl rfl (ent Try.call8 rfl) (awake_ok hF) ?_
  rintro vw1 w1 ⟨rfl, hs⟩
  refine ⟨trivial, ?_⟩
  replace hF := hF.st hs
  replace hT := hT.trans hs (by simp)
  refine yS (by kernel_rfl : opAt F7B.o1 1 = some (some 17, .unOp .not 4 (.tmp 16), none)) rfl rfl (fun w' hS => val_not rfl) ?_
  refine yS (by kernel_rfl : opAt F7B.o1 2 = some (some 18, .move (.tmp 17), none)) rfl rfl (fun w' hS => val_move rfl) ?_
  refine yS (by kernel_rfl : opAt F7B.o1 3 = some (some 19, .move (.tmp 0), (some (2, false)))) rfl rfl (fun w' hS => val_move rfl) ?_
  refine cS (by kernel_rfl : opAt F7B.o1 4 = some (some 20, .call { callee := .value (.func 9), args := #[(.tmp 19)], argTypes := #[22] }, (some (2, false)))) rfl rfl (ent Try.call9 rfl) (few_ok _ _ _ _) ?_
  rintro vw2 w2 ⟨rfl, rfl⟩
  refine ⟨trivial, ?_⟩
  rw [decide_eq_false (show ¬ (n : Int) ≤ 400 by omega)]
  refine yS (by kernel_rfl : opAt F7B.o1 5 = some (some 21, .unOp .not 4 (.tmp 20), (some (2, false)))) rfl rfl (fun w' hS => val_not rfl) ?_
  refine yS (by kernel_rfl : opAt F7B.o1 6 = some (some 22, .pick (.tmp 18) (.const (.bool true)) (.tmp 21), none)) rfl rfl (fun w' hS => val_pick_f rfl rfl) ?_
  refine Sch.nil ?_
  refine run_cond (x := F7B.c6) (y := F7B.c9) (o := .tmp 22) (b := true) (by kernel_rfl) rfl (fun _ => ?_) (fun h => by cases h)
  refine run_seq (x := F7B.c7) (y := F7B.c8) (by kernel_rfl) ?_
  refine run_plain (id := 2) (ops := F7B.o2) [(0, false), (1, true)] (by kernel_rfl) (by kernel_rfl) ?_
  refine cS (by kernel_rfl : opAt F7B.o2 0 = some (some 23, .call { callee := .value (.func 8), args := #[], argTypes := #[] }, none)) rfl rfl (ent Try.call8 rfl) (awake_ok hF) ?_
  rintro vw3 w3 ⟨rfl, hs⟩
  refine ⟨trivial, ?_⟩
  replace hF := hF.st hs
  replace hT := hT.trans hs (by simp)
  refine yS (by kernel_rfl : opAt F7B.o2 1 = some (some 2, .assign (.tmp 23), none)) rfl rfl (fun w' hS => val_assign rfl) ?_
  refine Sch.nil ?_
  refine run_ret1 (by kernel_rfl) Try.func7 Try.results7 rfl ?_
  exact ⟨rfl, hT.out1 (by decide)⟩
end Go.Proofs.Ytejbklahkkjmhaa

