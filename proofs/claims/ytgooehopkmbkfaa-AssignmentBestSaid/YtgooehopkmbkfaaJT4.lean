/- Steps through functions of the program. -/
import Derived.Test.YtgooehopkmbkfaaJT3
import Derived.Test.YtgooehopkmbkfaaL2
set_option linter.unusedVariables false
set_option linter.unusedSimpArgs false
set_option maxRecDepth 100000
set_option maxHeartbeats 4000000
namespace Go.Proofs.Ytgooehopkmbkfaa
open Go.K Go.K.Rep

namespace F45
noncomputable def c0 : Code := bodyOf Try.f45
noncomputable def c1 : Code := cl c0
noncomputable def o0 : Array Oper := rops c1
noncomputable def c2 : Code := cr c0
noncomputable def c3 : Code := cl c2
noncomputable def o1 : Array Oper := rops c3
noncomputable def c4 : Code := cr c2
noncomputable def c5 : Code := cl c4
noncomputable def o2 : Array Oper := rops c5
noncomputable def c6 : Code := cr c4
noncomputable def c7 : Code := cl c6
noncomputable def o3 : Array Oper := rops c7
noncomputable def c8 : Code := cr c6
noncomputable def c9 : Code := cl c8
noncomputable def o4 : Array Oper := rops c9
noncomputable def c10 : Code := cr c8
noncomputable def c11 : Code := cl c10
noncomputable def c12 : Code := cl c11
noncomputable def o5 : Array Oper := rops c12
noncomputable def c13 : Code := cr c11
noncomputable def c14 : Code := cl c13
noncomputable def c15 : Code := cl c14
noncomputable def c16 : Code := cl c15
noncomputable def o6 : Array Oper := rops c16
noncomputable def c17 : Code := cr c15
noncomputable def c18 : Code := cl c17
noncomputable def c19 : Code := cl c18
noncomputable def c20 : Code := cr c18
noncomputable def c21 : Code := cr c17
noncomputable def c22 : Code := cl c21
noncomputable def c23 : Code := cl c22
noncomputable def c24 : Code := cl c23
noncomputable def o7 : Array Oper := rops c24
noncomputable def c25 : Code := cr c23
noncomputable def o8 : Array Oper := rops c25
noncomputable def c26 : Code := cr c21
noncomputable def o9 : Array Oper := rops c26
noncomputable def c27 : Code := cr c10
noncomputable def c28 : Code := cl c27
noncomputable def o10 : Array Oper := rops c28
noncomputable def c29 : Code := cr c27
noncomputable def c30 : Code := cl c29
noncomputable def c31 : Code := cl c30
noncomputable def o11 : Array Oper := rops c31
noncomputable def c32 : Code := cr c30
noncomputable def c33 : Code := cl c32
noncomputable def o12 : Array Oper := rops c33
noncomputable def c34 : Code := cr c32
noncomputable def c35 : Code := cr c29
noncomputable def c36 : Code := cl c35
noncomputable def c37 : Code := cl c36
noncomputable def o13 : Array Oper := rops c37
noncomputable def c38 : Code := cr c36
noncomputable def c39 : Code := cl c38
noncomputable def c40 : Code := cl c39
noncomputable def c41 : Code := cl c40
noncomputable def o14 : Array Oper := rops c41
noncomputable def c42 : Code := cr c40
noncomputable def c43 : Code := cl c42
noncomputable def c44 : Code := cl c43
noncomputable def c45 : Code := cr c43
noncomputable def c46 : Code := cr c42
noncomputable def c47 : Code := cl c46
noncomputable def c48 : Code := cl c47
noncomputable def c49 : Code := cl c48
noncomputable def o15 : Array Oper := rops c49
noncomputable def c50 : Code := cr c48
noncomputable def c51 : Code := cl c50
noncomputable def o16 : Array Oper := rops c51
noncomputable def c52 : Code := cr c50
noncomputable def o17 : Array Oper := rops c52
noncomputable def c53 : Code := cr c46
noncomputable def o18 : Array Oper := rops c53
noncomputable def c54 : Code := cr c35
noncomputable def c55 : Code := cl c54
noncomputable def c56 : Code := cl c55
noncomputable def o19 : Array Oper := rops c56
noncomputable def c57 : Code := cr c55
noncomputable def c58 : Code := cl c57
noncomputable def c59 : Code := cl c58
noncomputable def c60 : Code := cl c59
noncomputable def o20 : Array Oper := rops c60
noncomputable def c61 : Code := cr c59
noncomputable def c62 : Code := cl c61
noncomputable def c63 : Code := cl c62
noncomputable def c64 : Code := cr c62
noncomputable def c65 : Code := cr c61
noncomputable def c66 : Code := cl c65
noncomputable def c67 : Code := cl c66
noncomputable def c68 : Code := cl c67
noncomputable def o21 : Array Oper := rops c68
noncomputable def c69 : Code := cr c67
noncomputable def c70 : Code := cl c69
noncomputable def o22 : Array Oper := rops c70
noncomputable def c71 : Code := cr c69
noncomputable def o23 : Array Oper := rops c71
noncomputable def c72 : Code := cr c65
noncomputable def o24 : Array Oper := rops c72
noncomputable def c73 : Code := cr c54
noncomputable def c74 : Code := cl c73
noncomputable def c75 : Code := cl c74
noncomputable def o25 : Array Oper := rops c75
noncomputable def c76 : Code := cr c74
noncomputable def c77 : Code := cl c76
noncomputable def c78 : Code := cl c77
noncomputable def c79 : Code := cl c78
noncomputable def o26 : Array Oper := rops c79
noncomputable def c80 : Code := cr c78
noncomputable def c81 : Code := cl c80
noncomputable def c82 : Code := cl c81
noncomputable def c83 : Code := cr c81
noncomputable def c84 : Code := cr c80
noncomputable def c85 : Code := cl c84
noncomputable def c86 : Code := cl c85
noncomputable def c87 : Code := cl c86
noncomputable def o27 : Array Oper := rops c87
noncomputable def c88 : Code := cr c86
noncomputable def c89 : Code := cl c88
noncomputable def o28 : Array Oper := rops c89
noncomputable def c90 : Code := cr c88
noncomputable def c91 : Code := cl c90
noncomputable def o29 : Array Oper := rops c91
noncomputable def c92 : Code := cr c90
noncomputable def c93 : Code := cl c92
noncomputable def c94 : Code := cl c93
noncomputable def c95 : Code := cl c94
noncomputable def o30 : Array Oper := rops c95
noncomputable def c96 : Code := cr c94
noncomputable def c97 : Code := cl c96
noncomputable def c98 : Code := cl c97
noncomputable def c99 : Code := cr c97
noncomputable def c100 : Code := cr c96
noncomputable def c101 : Code := cl c100
noncomputable def c102 : Code := cl c101
noncomputable def c103 : Code := cl c102
noncomputable def o31 : Array Oper := rops c103
noncomputable def c104 : Code := cr c102
noncomputable def o32 : Array Oper := rops c104
noncomputable def c105 : Code := cr c100
noncomputable def o33 : Array Oper := rops c105
noncomputable def c106 : Code := cr c84
noncomputable def o34 : Array Oper := rops c106
noncomputable def c107 : Code := cr c73
noncomputable def c108 : Code := cl c107
noncomputable def o35 : Array Oper := rops c108
noncomputable def c109 : Code := cr c107
end F45
/-- 'tight.New'. -/
theorem tnew_all {w₀ : World} {C : Nat → Nat} {n m fw : Nat} {cap : Array Value} {wt : Nat → Nat → Int} {W : Int} (hF : Lim w₀ C) (hn : n ≤ 100000) (hm : m ≤ 100000) (hcall : ∀ args w, (callFunc fw args).run Try.prog w = .ok (.enter fw args) w) (hwt : ∀ w1, Stp [] w₀ C w1 C → ∀ i j : Nat, i < n → j < m → Calls Try.prog fw ([Value.int .i64 i, Value.int .i64 j] ++ cap.toList).toArray w1 (Ret fun v w2 => v = .int .i64 (wt i j) ∧ Stp [] w1 C w2 C))
    (hW : ∀ i j, i < n → j < m → wt i j ≤ W) (hW0 : 0 ≤ W) (hW1 : W ≤ 288230376151711744) (hWk : ((max n m : Nat) + 1 : Int) * W ≤ 288230376151711744) :
    Calls Try.prog 45 #[.int .i64 n, .int .i64 m, .func (.func fw) #[] cap] w₀ (Ret fun v w' => ∃ (b : Nat) (gr : Gr) (U V : Nat → Int), v = .pointer (some ⟨b, 0, none⟩) ∧ Stp [] w₀ C w' C ∧ RA w' (Mc C) gr b 0 ∧ GrIs n m wt U V gr ∧ GiveG w₀ C w' 3 b gr) := by
  have hF0 := hF
  have hT := Stp.refl [2, 3, 4, 5, 6, 7, 8, 9] w₀ (col1 C)
  replace hF := hF.col1
  refine calls_start (c := F45.c0) (N := 203) [.int .i64 n, .int .i64 m, .func (.func fw) #[] cap] Try.func45 (by kernel_rfl) (by kernel_rfl) (by kernel_rfl) ?_
  show Run _ _ _ _ [(0, .int .i64 n), (1, .int .i64 m), (2, .func (.func fw) #[] cap)] _ _
  refine run_seq (x := F45.c1) (y := F45.c2) (by kernel_rfl) ?_
  refine run_plain (id := 0) (ops := F45.o0) [(0, true)] (by kernel_rfl) (by kernel_rfl) ?_
  refine yS (by kernel_rfl : opAt F45.o0 0 = some (some 6, .assign (.const (.pointer none)), none)) rfl rfl (fun w' hS => val_assign rfl) ?_
  refine Sch.nil ?_
  refine run_seq (x := F45.c3) (y := F45.c4) (by kernel_rfl) ?_
  refine run_many (id := 1) (ops := F45.o1) (C := col1 C) [0, 1, 2, 4, 6] [⟨3, 20, .makeSlice 22 (.tmp 19) (.tmp 19), fun v w C => OwnL w C 3 3 v (List.replicate (n) (0 : Int))⟩, ⟨5, 22, .makeSlice 22 (.tmp 21) (.tmp 21), fun v w C => OwnL w C 4 3 v (List.replicate (m) (0 : Int))⟩, ⟨7, 24, .makeSlice 67 (.tmp 23) (.tmp 23), fun v w C => OwnL w C 5 48 v (List.replicate (n) (⟨.slice none 0 0⟩ : Sv))⟩] [(8, true), (9, false), (10, true)] Try_mixed (by kernel_rfl) (by kernel_rfl) (by kernel_rfl) hF ?_
  refine ⟨_, _, _, (by kernel_rfl : opAt F45.o1 0 = some (some 17, .move (.tmp 0), none)), rfl, fun w' => val_move rfl, ?_⟩
  refine ⟨_, _, _, (by kernel_rfl : opAt F45.o1 1 = some (some 18, .move (.tmp 1), none)), rfl, fun w' => val_move rfl, ?_⟩
  refine ⟨_, _, _, (by kernel_rfl : opAt F45.o1 2 = some (some 19, .move (.tmp 0), none)), rfl, fun w' => val_move rfl, ?_⟩
  refine ⟨_, _, _, (by kernel_rfl : opAt F45.o1 4 = some (some 21, .move (.tmp 1), none)), rfl, fun w' => val_move rfl, ?_⟩
  refine ⟨_, _, _, (by kernel_rfl : opAt F45.o1 6 = some (some 23, .move (.tmp 0), none)), rfl, fun w' => val_move rfl, ?_⟩
  refine ⟨?_, (by show List.Nodup [3, 5, 7]; decide), (by show List.Nodup [20, 22, 24]; decide), ?_⟩
  · intro m hm
    simp only [List.mem_cons, List.not_mem_nil, or_false] at hm
    rcases hm with rfl | rfl | rfl
    · exact ⟨by kernel_rfl, rfl, rfl, fun w1 C1 hs1 hF1 => a_make (e := 3) (bytes := 8) (x0 := (0 : Int)) (zs := [.int .i64 0]) hF1 (j := 3) (by decide) (by kernel_rfl) (by kernel_rfl) rfl rfl (by omega) (by omega) (by omega) (fun h M => zero_int), fun v w1 C1 w2 C2 h hs => h.st hs (by decide) (by decide)⟩
    · exact ⟨by kernel_rfl, rfl, rfl, fun w1 C1 hs1 hF1 => a_make (e := 3) (bytes := 8) (x0 := (0 : Int)) (zs := [.int .i64 0]) hF1 (j := 4) (by decide) (by kernel_rfl) (by kernel_rfl) rfl rfl (by omega) (by omega) (by omega) (fun h M => zero_int), fun v w1 C1 w2 C2 h hs => h.st hs (by decide) (by decide)⟩
    · exact ⟨by kernel_rfl, rfl, rfl, fun w1 C1 hs1 hF1 => a_make (e := 48) (bytes := 24) (x0 := (⟨.slice none 0 0⟩ : Sv)) (zs := [.slice none 0 0]) hF1 (j := 5) (by decide) (by kernel_rfl) (by kernel_rfl) rfl rfl (by omega) (by omega) (by omega) (fun h M => ⟨rfl, rfl⟩), fun v w1 C1 w2 C2 h hs => h.st hs (by decide) (by decide)⟩
  intro val w1 Cw1 hs hF hM
  obtain ⟨hU, hV, hE, _⟩ := hM
  replace hT := hT.trans hs (by simp)
  replace hU : OwnL w1 Cw1 3 3 (val 3) (List.replicate (n) (0 : Int)) := hU
  replace hV : OwnL w1 Cw1 4 3 (val 5) (List.replicate (m) (0 : Int)) := hV
  replace hE : OwnL w1 Cw1 5 48 (val 7) (List.replicate (n) (⟨.slice none 0 0⟩ : Sv)) := hE
  show Sch _ _ _ _ _ _ _ [(8, true), (9, false), (10, true)] ((20, val 3) :: (22, val 5) :: (24, val 7) :: _) _
  refine yS (by kernel_rfl : opAt F45.o1 8 = some (some 25, .build 69 #[(0, (.tmp 17)), (1, (.tmp 18)), (2, (.tmp 20)), (3, (.tmp 22)), (5, (.tmp 24))], none)) rfl rfl (fun w' hS => val_build (zs := [.int .i64 0, .int .i64 0, .slice none 0 0, .slice none 0 0, .int .i64 0, .slice none 0 0]) (ps := [(0, 1), (1, 1), (2, 1), (3, 1), (4, 1), (5, 1)]) (qs := [(0, [.int .i64 n]), (1, [.int .i64 m]), (2, [val 3]), (3, [val 5]), (5, [val 7])]) (cs := [.int .i64 n, .int .i64 m, val 3, val 5, .int .i64 0, val 7]) (by kernel_rfl) (by kernel_rfl) ⟨rfl, ⟨_, rfl, rfl⟩, rfl, ⟨_, rfl, rfl⟩, rfl, ⟨_, rfl, hU.one.1⟩, rfl, ⟨_, rfl, hV.one.1⟩, rfl, ⟨_, rfl, hE.one.1⟩, trivial⟩ rfl) ?_
  refine aS (by kernel_rfl : opAt F45.o1 9 = some (some 26, .box 69 (.tmp 25), none)) rfl rfl (a_box (cs := [.int .i64 n, .int .i64 m, val 3, val 5, .int .i64 0, val 7]) hF 2 rfl rfl) ?_
  rintro _ w2 ⟨Cw2, bw2, rfl, hs, hg, hF⟩
  refine ⟨trivial, ?_⟩
  replace hT := hT.trans hs (by simp)
  replace hU := hU.st hs (by first | decide | (simp <;> omega)) (by first | decide | (simp <;> omega))
  replace hV := hV.st hs (by first | decide | (simp <;> omega)) (by first | decide | (simp <;> omega))
  replace hE := hE.st hs (by first | decide | (simp <;> omega)) (by first | decide | (simp <;> omega))
  refine yS (by kernel_rfl : opAt F45.o1 10 = some (some 7, .assign (.tmp 26), none)) rfl rfl (fun w' hS => val_assign rfl) ?_
  refine Sch.nil ?_
  obtain ⟨xU, hxU⟩ : ∃ x, x = val 3 := ⟨_, rfl⟩
  obtain ⟨xV, hxV⟩ : ∃ x, x = val 5 := ⟨_, rfl⟩
  obtain ⟨xE, hxE⟩ : ∃ x, x = val 7 := ⟨_, rfl⟩
  rw [← hxU] at hU hg
  rw [← hxV] at hV hg
  rw [← hxE] at hE hg
  clear hxU hxV hxE
  rw [svsF_rep] at hE
  refine run_seq (x := F45.c5) (y := F45.c6) (by kernel_rfl) ?_
  refine run_plain (id := 2) (ops := F45.o2) [(0, true), (1, true), (2, true), (3, false), (4, true)] (by kernel_rfl) (by kernel_rfl) ?_
  refine yS (by kernel_rfl : opAt F45.o2 0 = some (some 27, .move (.tmp 0), none)) rfl rfl (fun w' hS => val_move rfl) ?_
  refine yS (by kernel_rfl : opAt F45.o2 1 = some (some 28, .move (.tmp 1), none)) rfl rfl (fun w' hS => val_move rfl) ?_
  refine yS (by kernel_rfl : opAt F45.o2 2 = some (some 29, .move (.tmp 2), none)) rfl rfl (fun w' hS => val_move rfl) ?_
  have hwt2 : ∀ w1, Stp [] _ Cw2 w1 Cw2 → ∀ i j : Nat, i < n → j < m → Calls Try.prog fw ([Value.int .i64 i, Value.int .i64 j] ++ cap.toList).toArray w1 (Ret fun v w2 => v = .int .i64 (wt i j) ∧ Stp [] w1 Cw2 w2 Cw2) := fun w1 hs1 i j hi hj => (hwt w1 ((hT.out1 (by decide)).trans (hs1.unfrz C) (fun c hc => hc)) i j hi hj).mono (Ret.mono fun v w2 h => ⟨h.1, h.2.unfrz _⟩)
  refine cS (by kernel_rfl : opAt F45.o2 3 = some (some 30, .call { callee := .value (.func 56), args := #[(.tmp 27), (.tmp 28), (.tmp 29)], argTypes := #[3, 3, 82] }, none)) rfl rfl (ent Try.call56 rfl) (padded_ok (wt := wt) hF hn hm hcall hwt2) ?_
  rintro xw w3 ⟨hs, hw⟩
  refine ⟨trivial, ?_⟩
  replace hF := hF.st hs
  replace hT := hT.trans hs (by simp)
  replace hU := hU.st hs (by first | decide | (simp <;> omega)) (by first | decide | (simp <;> omega))
  replace hV := hV.st hs (by first | decide | (simp <;> omega)) (by first | decide | (simp <;> omega))
  replace hE := hE.st hs (by first | decide | (simp <;> omega)) (by first | decide | (simp <;> omega))
  replace hg := hg.st hs (by first | decide | (simp <;> omega))
  refine yS (by kernel_rfl : opAt F45.o2 4 = some (some 8, .assign (.tmp 30), none)) rfl rfl (fun w' hS => val_assign rfl) ?_
  refine Sch.nil ?_
  refine run_seq (x := F45.c7) (y := F45.c8) (by kernel_rfl) ?_
  refine run_plain (id := 3) (ops := F45.o3) [(0, true), (1, true), (2, true)] (by kernel_rfl) (by kernel_rfl) ?_
  refine yS (by kernel_rfl : opAt F45.o3 0 = some (some 31, .move (.tmp 8), none)) rfl rfl (fun w' hS => val_move rfl) ?_
  refine yS (by kernel_rfl : opAt F45.o3 1 = some (some 32, .call { callee := .builtin .len, args := #[(.tmp 31)], argTypes := #[70] }, none)) rfl rfl (fun w' hS => hw.lenV rfl Try.underlying70 w' ) ?_
  refine yS (by kernel_rfl : opAt F45.o3 2 = some (some 9, .assign (.tmp 32), none)) rfl rfl (fun w' hS => val_assign rfl) ?_
  refine Sch.nil ?_
  rw [wmL_len]
  have hkm : n ≤ (max n m) ∧ m ≤ (max n m) ∧ (max n m) ≤ 100000 := by omega
  have hcb := cW_bnd (n := n) (m := m) hW0 hW
  obtain ⟨k, hkd⟩ : ∃ k, k = max n m := ⟨_, rfl⟩
  rw [← hkd] at hkm hcb hWk
  rw [← hkd]
  have hwl : (wmL n m wt).length = k := by rw [wmL_len, hkd]
  replace hkd : Hid (k = max n m) := hkd
  refine run_seq (x := F45.c9) (y := F45.c10) (by kernel_rfl) ?_
  refine run_many (id := 4) (ops := F45.o4) (C := Cw2) [0, 1, 2, 4, 5, 7, 8, 10, 11, 13, 14, 16, 17] [⟨3, 36, .makeSlice 22 (.tmp 35) (.tmp 35), fun v w C => OwnL w C 11 3 v (List.replicate (k + 1) (0 : Int))⟩, ⟨6, 39, .makeSlice 22 (.tmp 38) (.tmp 38), fun v w C => OwnL w C 12 3 v (List.replicate (k + 1) (0 : Int))⟩, ⟨9, 42, .makeSlice 22 (.tmp 41) (.tmp 41), fun v w C => OwnL w C 13 3 v (List.replicate (k + 1) (0 : Nat))⟩, ⟨12, 45, .makeSlice 22 (.tmp 44) (.tmp 44), fun v w C => OwnL w C 14 3 v (List.replicate (k + 1) (0 : Nat))⟩, ⟨15, 48, .makeSlice 22 (.tmp 47) (.tmp 47), fun v w C => OwnL w C 15 3 v (List.replicate (k + 1) (0 : Int))⟩, ⟨18, 51, .makeSlice 48 (.tmp 50) (.tmp 50), fun v w C => OwnL w C 16 4 v (List.replicate (k + 1) false)⟩] [(19, true), (20, false), (21, true)] Try_mixed (by kernel_rfl) (by kernel_rfl) (by kernel_rfl) hF ?_
  refine ⟨_, _, _, (by kernel_rfl : opAt F45.o4 0 = some (some 33, .move (.tmp 8), none)), rfl, fun w' => val_move rfl, ?_⟩
  refine ⟨_, _, _, (by kernel_rfl : opAt F45.o4 1 = some (some 34, .move (.tmp 9), none)), rfl, fun w' => val_move rfl, ?_⟩
  refine ⟨_, _, _, (by kernel_rfl : opAt F45.o4 2 = some (some 35, .binOp .add 3 (.tmp 34) (.const (.int .i64 1)) 3, none)), rfl, fun w' => val_is (val_addi rfl rfl (by omega) (by omega)) (congrArg (Value.int .i64) (show (k : Int) + 1 = ((k + 1 : Nat) : Int) from by omega)), ?_⟩
  refine ⟨_, _, _, (by kernel_rfl : opAt F45.o4 4 = some (some 37, .move (.tmp 9), none)), rfl, fun w' => val_move rfl, ?_⟩
  refine ⟨_, _, _, (by kernel_rfl : opAt F45.o4 5 = some (some 38, .binOp .add 3 (.tmp 37) (.const (.int .i64 1)) 3, none)), rfl, fun w' => val_is (val_addi rfl rfl (by omega) (by omega)) (congrArg (Value.int .i64) (show (k : Int) + 1 = ((k + 1 : Nat) : Int) from by omega)), ?_⟩
  refine ⟨_, _, _, (by kernel_rfl : opAt F45.o4 7 = some (some 40, .move (.tmp 9), none)), rfl, fun w' => val_move rfl, ?_⟩
  refine ⟨_, _, _, (by kernel_rfl : opAt F45.o4 8 = some (some 41, .binOp .add 3 (.tmp 40) (.const (.int .i64 1)) 3, none)), rfl, fun w' => val_is (val_addi rfl rfl (by omega) (by omega)) (congrArg (Value.int .i64) (show (k : Int) + 1 = ((k + 1 : Nat) : Int) from by omega)), ?_⟩
  refine ⟨_, _, _, (by kernel_rfl : opAt F45.o4 10 = some (some 43, .move (.tmp 9), none)), rfl, fun w' => val_move rfl, ?_⟩
  refine ⟨_, _, _, (by kernel_rfl : opAt F45.o4 11 = some (some 44, .binOp .add 3 (.tmp 43) (.const (.int .i64 1)) 3, none)), rfl, fun w' => val_is (val_addi rfl rfl (by omega) (by omega)) (congrArg (Value.int .i64) (show (k : Int) + 1 = ((k + 1 : Nat) : Int) from by omega)), ?_⟩
  refine ⟨_, _, _, (by kernel_rfl : opAt F45.o4 13 = some (some 46, .move (.tmp 9), none)), rfl, fun w' => val_move rfl, ?_⟩
  refine ⟨_, _, _, (by kernel_rfl : opAt F45.o4 14 = some (some 47, .binOp .add 3 (.tmp 46) (.const (.int .i64 1)) 3, none)), rfl, fun w' => val_is (val_addi rfl rfl (by omega) (by omega)) (congrArg (Value.int .i64) (show (k : Int) + 1 = ((k + 1 : Nat) : Int) from by omega)), ?_⟩
  refine ⟨_, _, _, (by kernel_rfl : opAt F45.o4 16 = some (some 49, .move (.tmp 9), none)), rfl, fun w' => val_move rfl, ?_⟩
  refine ⟨_, _, _, (by kernel_rfl : opAt F45.o4 17 = some (some 50, .binOp .add 3 (.tmp 49) (.const (.int .i64 1)) 3, none)), rfl, fun w' => val_is (val_addi rfl rfl (by omega) (by omega)) (congrArg (Value.int .i64) (show (k : Int) + 1 = ((k + 1 : Nat) : Int) from by omega)), ?_⟩
  refine ⟨?_, (by show List.Nodup [3, 6, 9, 12, 15, 18]; decide), (by show List.Nodup [36, 39, 42, 45, 48, 51]; decide), ?_⟩
  · intro m hm
    simp only [List.mem_cons, List.not_mem_nil, or_false] at hm
    rcases hm with rfl | rfl | rfl | rfl | rfl | rfl
    · exact ⟨by kernel_rfl, rfl, rfl, fun w1 C1 hs1 hF1 => a_make (e := 3) (bytes := 8) (x0 := (0 : Int)) (zs := [.int .i64 0]) hF1 (j := 11) (by decide) (by kernel_rfl) (by kernel_rfl) (l := k + 1) (c := k + 1) rfl rfl (by omega) (by omega) (by omega) (fun h M => zero_int), fun v w1 C1 w2 C2 h hs => h.st hs (by decide) (by decide)⟩
    · exact ⟨by kernel_rfl, rfl, rfl, fun w1 C1 hs1 hF1 => a_make (e := 3) (bytes := 8) (x0 := (0 : Int)) (zs := [.int .i64 0]) hF1 (j := 12) (by decide) (by kernel_rfl) (by kernel_rfl) (l := k + 1) (c := k + 1) rfl rfl (by omega) (by omega) (by omega) (fun h M => zero_int), fun v w1 C1 w2 C2 h hs => h.st hs (by decide) (by decide)⟩
    · exact ⟨by kernel_rfl, rfl, rfl, fun w1 C1 hs1 hF1 => a_make (e := 3) (bytes := 8) (x0 := (0 : Nat)) (zs := [.int .i64 0]) hF1 (j := 13) (by decide) (by kernel_rfl) (by kernel_rfl) (l := k + 1) (c := k + 1) rfl rfl (by omega) (by omega) (by omega) (fun h M => rfl), fun v w1 C1 w2 C2 h hs => h.st hs (by decide) (by decide)⟩
    · exact ⟨by kernel_rfl, rfl, rfl, fun w1 C1 hs1 hF1 => a_make (e := 3) (bytes := 8) (x0 := (0 : Nat)) (zs := [.int .i64 0]) hF1 (j := 14) (by decide) (by kernel_rfl) (by kernel_rfl) (l := k + 1) (c := k + 1) rfl rfl (by omega) (by omega) (by omega) (fun h M => rfl), fun v w1 C1 w2 C2 h hs => h.st hs (by decide) (by decide)⟩
    · exact ⟨by kernel_rfl, rfl, rfl, fun w1 C1 hs1 hF1 => a_make (e := 3) (bytes := 8) (x0 := (0 : Int)) (zs := [.int .i64 0]) hF1 (j := 15) (by decide) (by kernel_rfl) (by kernel_rfl) (l := k + 1) (c := k + 1) rfl rfl (by omega) (by omega) (by omega) (fun h M => zero_int), fun v w1 C1 w2 C2 h hs => h.st hs (by decide) (by decide)⟩
    · exact ⟨by kernel_rfl, rfl, rfl, fun w1 C1 hs1 hF1 => a_make (e := 4) (bytes := 1) (x0 := false) (zs := [.bool false]) hF1 (j := 16) (by decide) (by kernel_rfl) (by kernel_rfl) (l := k + 1) (c := k + 1) rfl rfl (by omega) (by omega) (by omega) (fun h M => rfl), fun v w1 C1 w2 C2 h hs => h.st hs (by decide) (by decide)⟩
  intro val w4 Cw4 hs hF hM
  obtain ⟨hu, hv, hr, hy, hl, hcc, _⟩ := hM
  replace hT := hT.trans hs (by simp)
  replace hU := hU.st hs (by first | decide | (simp <;> omega)) (by first | decide | (simp <;> omega))
  replace hV := hV.st hs (by first | decide | (simp <;> omega)) (by first | decide | (simp <;> omega))
  replace hE := hE.st hs (by first | decide | (simp <;> omega)) (by first | decide | (simp <;> omega))
  replace hg := hg.st hs (by first | decide | (simp <;> omega))
  replace hw := hw.st hs (by first | decide | (simp <;> omega))
  replace hu : OwnL w4 Cw4 11 3 (val 3) (List.replicate (k + 1) (0 : Int)) := hu
  replace hv : OwnL w4 Cw4 12 3 (val 6) (List.replicate (k + 1) (0 : Int)) := hv
  replace hr : OwnL w4 Cw4 13 3 (val 9) (List.replicate (k + 1) (0 : Nat)) := hr
  replace hy : OwnL w4 Cw4 14 3 (val 12) (List.replicate (k + 1) (0 : Nat)) := hy
  replace hl : OwnL w4 Cw4 15 3 (val 15) (List.replicate (k + 1) (0 : Int)) := hl
  replace hcc : OwnL w4 Cw4 16 4 (val 18) (List.replicate (k + 1) false) := hcc
  show Sch _ _ _ _ _ _ _ [(19, true), (20, false), (21, true)] ((36, val 3) :: (39, val 6) :: (42, val 9) :: (45, val 12) :: (48, val 15) :: (51, val 18) :: _) _
  refine yS (by kernel_rfl : opAt F45.o4 19 = some (some 52, .build 93 #[(0, (.tmp 33)), (1, (.tmp 36)), (2, (.tmp 39)), (3, (.tmp 42)), (4, (.tmp 45)), (5, (.tmp 48)), (6, (.tmp 51))], none)) rfl rfl (fun w' hS => val_build (zs := [.slice none 0 0, .slice none 0 0, .slice none 0 0, .slice none 0 0, .slice none 0 0, .slice none 0 0, .slice none 0 0]) (ps := [(0, 1), (1, 1), (2, 1), (3, 1), (4, 1), (5, 1), (6, 1)]) (qs := [(0, [xw]), (1, [val 3]), (2, [val 6]), (3, [val 9]), (4, [val 12]), (5, [val 15]), (6, [val 18])]) (cs := [xw, val 3, val 6, val 9, val 12, val 15, val 18]) (by kernel_rfl) (by kernel_rfl) ⟨rfl, ⟨_, rfl, (hw.one rfl).1⟩, rfl, ⟨_, rfl, hu.one.1⟩, rfl, ⟨_, rfl, hv.one.1⟩, rfl, ⟨_, rfl, hr.one.1⟩, rfl, ⟨_, rfl, hy.one.1⟩, rfl, ⟨_, rfl, hl.one.1⟩, rfl, ⟨_, rfl, hcc.one.1⟩, trivial⟩ rfl) ?_
  refine aS (by kernel_rfl : opAt F45.o4 20 = some (some 53, .box 93 (.tmp 52), none)) rfl rfl (a_box (cs := [xw, val 3, val 6, val 9, val 12, val 15, val 18]) hF 10 rfl rfl) ?_
  rintro _ w5 ⟨Cw5, bw5, rfl, hs, hsb, hF⟩
  refine ⟨trivial, ?_⟩
  replace hT := hT.trans hs (by simp)
  replace hU := hU.st hs (by first | decide | (simp <;> omega)) (by first | decide | (simp <;> omega))
  replace hV := hV.st hs (by first | decide | (simp <;> omega)) (by first | decide | (simp <;> omega))
  replace hE := hE.st hs (by first | decide | (simp <;> omega)) (by first | decide | (simp <;> omega))
  replace hg := hg.st hs (by first | decide | (simp <;> omega))
  replace hw := hw.st hs (by first | decide | (simp <;> omega))
  replace hu := hu.st hs (by first | decide | (simp <;> omega)) (by first | decide | (simp <;> omega))
  replace hv := hv.st hs (by first | decide | (simp <;> omega)) (by first | decide | (simp <;> omega))
  replace hr := hr.st hs (by first | decide | (simp <;> omega)) (by first | decide | (simp <;> omega))
  replace hy := hy.st hs (by first | decide | (simp <;> omega)) (by first | decide | (simp <;> omega))
  replace hl := hl.st hs (by first | decide | (simp <;> omega)) (by first | decide | (simp <;> omega))
  replace hcc := hcc.st hs (by first | decide | (simp <;> omega)) (by first | decide | (simp <;> omega))
  refine yS (by kernel_rfl : opAt F45.o4 21 = some (some 10, .assign (.tmp 53), none)) rfl rfl (fun w' hS => val_assign rfl) ?_
  refine Sch.nil ?_
  obtain ⟨xu, h_xu⟩ : ∃ x, x = val 3 := ⟨_, rfl⟩
  rw [← h_xu] at hu hsb
  clear h_xu
  obtain ⟨xv, h_xv⟩ : ∃ x, x = val 6 := ⟨_, rfl⟩
  rw [← h_xv] at hv hsb
  clear h_xv
  obtain ⟨xr, h_xr⟩ : ∃ x, x = val 9 := ⟨_, rfl⟩
  rw [← h_xr] at hr hsb
  clear h_xr
  obtain ⟨xy, h_xy⟩ : ∃ x, x = val 12 := ⟨_, rfl⟩
  rw [← h_xy] at hy hsb
  clear h_xy
  obtain ⟨xl, h_xl⟩ : ∃ x, x = val 15 := ⟨_, rfl⟩
  rw [← h_xl] at hl hsb
  clear h_xl
  obtain ⟨xc, h_xc⟩ : ∃ x, x = val 18 := ⟨_, rfl⟩
  rw [← h_xc] at hcc hsb
  clear h_xc
  have z1 : gI (List.replicate (k + 1) 0) = fun _ => 0 := funext fun _ => getD_rep
  have z2 : gN (List.replicate (k + 1) 0) = fun _ => 0 := funext fun _ => getD_rep
  refine run_seq (x := F45.c11) (y := F45.c27) (by kernel_rfl) ?_
  refine run_seq (x := F45.c12) (y := F45.c13) (by kernel_rfl) ?_
  refine run_plain (id := 5) (ops := F45.o5) [(0, true), (1, true)] (by kernel_rfl) (by kernel_rfl) ?_
  refine yS (by kernel_rfl : opAt F45.o5 0 = some (some 54, .move (.tmp 9), none)) rfl rfl (fun w' hS => val_move rfl) ?_
  refine yS (by kernel_rfl : opAt F45.o5 1 = some (some 55, .move (.const (.int .i64 0)), none)) rfl rfl (fun w' hS => val_move rfl) ?_
  refine Sch.nil ?_
  refine run_block (x := F45.c14) (id := 0) (by kernel_rfl) ?_
  replace hT : Stp [2, 3, 4, 5, 6, 7, 8, 9, 10, 11, 12, 13, 14, 15, 16] w₀ (col1 C) _ _ := hT.mono (by intro c hc; simp at hc ⊢; omega)
  refine run_loop (ι := Nat × (List Int) × (List Int) × (List Nat) × (List Nat) × (List Int) × (List Bool) × (Nat → Nat)) (I := fun x w => x.1 ≤ k ∧ (x.2.1.length = k + 1 ∧ x.2.2.1.length = k + 1 ∧ x.2.2.2.1.length = k + 1 ∧ x.2.2.2.2.1.length = k + 1 ∧ x.2.2.2.2.2.1.length = k + 1 ∧ x.2.2.2.2.2.2.1.length = k + 1) ∧ HI k (cW (wmL n m wt)) W x.1 (gI x.2.1) (gI x.2.2.1) (gN x.2.2.2.1) ∧ Lim w x.2.2.2.2.2.2.2 ∧ Stp [2, 3, 4, 5, 6, 7, 8, 9, 10, 11, 12, 13, 14, 15, 16] w₀ (col1 C) w x.2.2.2.2.2.2.2 ∧ OwnB w x.2.2.2.2.2.2.2 10 bw5 (.cells [xw, xu, xv, xr, xy, xl, xc].toArray 93) ∧ RV w (Mc x.2.2.2.2.2.2.2) (wmL n m wt) xw ∧ OwnL w x.2.2.2.2.2.2.2 11 3 xu x.2.1 ∧ OwnL w x.2.2.2.2.2.2.2 12 3 xv x.2.2.1 ∧ OwnL w x.2.2.2.2.2.2.2 13 3 xr x.2.2.2.1 ∧ OwnL w x.2.2.2.2.2.2.2 14 3 xy x.2.2.2.2.1 ∧ OwnL w x.2.2.2.2.2.2.2 15 3 xl x.2.2.2.2.2.1 ∧ OwnL w x.2.2.2.2.2.2.2 16 4 xc x.2.2.2.2.2.2.1 ∧ OwnB w x.2.2.2.2.2.2.2 2 bw2 (.cells [.int .i64 n, .int .i64 m, xU, xV, .int .i64 0, xE].toArray 69) ∧ OwnL w x.2.2.2.2.2.2.2 3 3 xU (List.replicate n (0 : Int)) ∧ OwnL w x.2.2.2.2.2.2.2 4 3 xV (List.replicate m (0 : Int)) ∧ OwnL w x.2.2.2.2.2.2.2 5 48 xE (svsF (fun _ => Value.slice none 0 0) n)) (e := fun x => [(0, .int .i64 n), (1, .int .i64 m), (7, .pointer (some ⟨bw2, 0, none⟩)), (8, xw), (9, .int .i64 k), (10, .pointer (some ⟨bw5, 0, none⟩)), (54, .int .i64 k), (55, .int .i64 x.1)]) (m := fun x => k - x.1) (x₀ := (0, List.replicate (k + 1) 0, List.replicate (k + 1) 0, List.replicate (k + 1) 0, List.replicate (k + 1) 0, List.replicate (k + 1) 0, List.replicate (k + 1) false, Cw5)) (body := F45.c15) (by kernel_rfl) (sub_cons 0 rfl rfl (sub_cons 1 rfl rfl (sub_cons 7 rfl rfl (sub_cons 8 rfl rfl (sub_cons 9 rfl rfl (sub_cons 10 rfl rfl (sub_cons 54 rfl rfl (sub_cons 55 rfl rfl (sub_nil _))))))))) ?_ ?_
  · exact ⟨Nat.zero_le _, (by simp only [List.length_replicate, and_self]), (by simp only [z1, z2]; exact HI.start hW0 _ _), hF, hT, hsb, hw, hu, hv, hr, hy, hl, hcc, hg, hU, hV, hE⟩
  intro ⟨i, ul, vl, rl, yl, ll, cl, C1⟩ w6 hI next
  obtain ⟨hi, hls, hI, hF, hT, hsb, hw, hu, hv, hr, hy, hl, hcc, hg, hU, hV, hE⟩ := hI
  try simp only at hi hls hI hF hT hsb hw hu hv hr hy hl hcc hg hU hV hE
  have next1 := next
  clear next
  show Run _ _ _ _ [(0, .int .i64 n), (1, .int .i64 m), (7, .pointer (some ⟨bw2, 0, none⟩)), (8, xw), (9, .int .i64 k), (10, .pointer (some ⟨bw5, 0, none⟩)), (54, .int .i64 k), (55, .int .i64 i)] _ _
  obtain ⟨e1, e2, e3, e4, e5, e6⟩ := hls
  refine run_seq (x := F45.c16) (y := F45.c17) (by kernel_rfl) ?_
  refine run_plain (id := 6) (ops := F45.o6) [(0, true)] (by kernel_rfl) (by kernel_rfl) ?_
  refine yS (by kernel_rfl : opAt F45.o6 0 = some (some 56, .binOp .lss 3 (.tmp 55) (.tmp 54) 3, none)) rfl rfl (fun w' hS => val_lss rfl rfl) ?_
  refine Sch.nil ?_
  refine run_seq (x := F45.c18) (y := F45.c21) (by kernel_rfl) ?_
  refine run_if (x := F45.c19) (y := F45.c20) (o := .tmp 56) (by kernel_rfl) rfl (fun h56 => ?_) (fun h56 => ?_)
  · skip
    have hil : i < k := by omega
    refine run_skip (by kernel_rfl) ?_
    refine run_seq (x := F45.c22) (y := F45.c26) (by kernel_rfl) ?_
    refine run_block (x := F45.c23) (id := 1) (by kernel_rfl) ?_
    refine run_seq (x := F45.c24) (y := F45.c25) (by kernel_rfl) ?_
    refine run_plain (id := 7) (ops := F45.o7) [(0, true), (1, true)] (by kernel_rfl) (by kernel_rfl) ?_
    refine yS (by kernel_rfl : opAt F45.o7 0 = some (some 57, .move (.tmp 55), none)) rfl rfl (fun w' hS => val_move rfl) ?_
    refine yS (by kernel_rfl : opAt F45.o7 1 = some (some 11, .assign (.tmp 57), none)) rfl rfl (fun w' hS => val_assign rfl) ?_
    refine Sch.nil ?_
    refine run_plain (id := 8) (ops := F45.o8) [(0, true), (1, true), (2, true), (3, false)] (by kernel_rfl) (by kernel_rfl) ?_
    refine yS (by kernel_rfl : opAt F45.o8 0 = some (some 58, .move (.tmp 10), none)) rfl rfl (fun w' hS => val_move rfl) ?_
    refine yS (by kernel_rfl : opAt F45.o8 1 = some (some 59, .move (.tmp 11), none)) rfl rfl (fun w' hS => val_move rfl) ?_
    refine yS (by kernel_rfl : opAt F45.o8 2 = some (some 60, .binOp .add 3 (.tmp 59) (.const (.int .i64 1)) 3, none)) rfl rfl (fun w' hS => val_is (val_addi rfl rfl (by omega) (by omega)) (congrArg (Value.int .i64) (show (i : Int) + 1 = ((i + 1 : Nat) : Int) from by omega))) ?_
    refine cS (by kernel_rfl : opAt F45.o8 3 = some (some 61, .call { callee := .value (.func 57), args := #[(.tmp 58), (.tmp 60)], argTypes := #[91, 3] }, none)) rfl rfl (ent Try.call57 rfl) (add_ok hF ⟨hsb, hw, hu, hv, hr, hy, hl, hcc, by omega, by omega, by omega, by omega, by omega, by omega⟩ hwl (hkd ▸ wmL_rows) hI hil hcb hW0 hW1 hWk (by omega)) ?_
    rintro vw7 w7 ⟨ul2, vl2, rl2, yl2, ll2, cl2, rfl, hs, ⟨hsb, hw, hu, hv, hr, hy, hl, hcc, t1, t2, t3, t4, t5, t6⟩, hI⟩
    refine ⟨trivial, ?_⟩
    replace hF := hF.st hs
    replace hT := hT.trans hs (by simp)
    replace hg := hg.st hs (by first | decide | (simp <;> omega))
    replace hU := hU.st hs (by first | decide | (simp <;> omega)) (by first | decide | (simp <;> omega))
    replace hV := hV.st hs (by first | decide | (simp <;> omega)) (by first | decide | (simp <;> omega))
    replace hE := hE.st hs (by first | decide | (simp <;> omega)) (by first | decide | (simp <;> omega))
    refine Sch.nil ?_
    refine run_inBlock ?_
    refine run_plain (id := 9) (ops := F45.o9) [(0, true), (1, true)] (by kernel_rfl) (by kernel_rfl) ?_
    refine yS (by kernel_rfl : opAt F45.o9 0 = some (some 62, .binOp .add 3 (.tmp 55) (.const (.int .i64 1)) 3, none)) rfl rfl (fun w' hS => val_addi rfl rfl (by omega) (by omega)) ?_
    refine yS (by kernel_rfl : opAt F45.o9 1 = some (some 55, .move (.tmp 62), none)) rfl rfl (fun w' hS => val_move rfl) ?_
    refine Sch.nil ?_
    refine kp (sub_cons 0 rfl rfl (sub_cons 1 rfl rfl (sub_cons 7 rfl rfl (sub_cons 8 rfl rfl (sub_cons 9 rfl rfl (sub_cons 10 rfl rfl (sub_cons 54 rfl rfl (sub_cons 55 rfl (eq_int (by simp)) (sub_nil _))))))))) (next1 (i + 1, ul2, vl2, rl2, yl2, ll2, cl2, C1) _ ⟨(by first | omega | (simp only; omega)), (by simp only; omega), hI, hF, hT, hsb, hw, hu, hv, hr, hy, hl, hcc, hg, hU, hV, hE⟩ (by first | omega | (simp only; omega)))
  · skip
    have hil : k = i := by omega
    clear h56
    subst hil
    replace hF := hF.frz 11
    replace hT := hT.frz (n := 11) (fun b => Nat.lt_of_lt_of_le (col1_lt2 C b) (by decide))
    replace hsb := hsb.frz (n := 11) (by decide)
    replace hw := hw.frz 11
    clear hr
    clear hy
    clear hl
    clear hcc
    replace hg := hg.frz (n := 11) (by decide)
    replace hU := hU.frzK (n := 11) (by decide)
    replace hV := hV.frzK (n := 11) (by decide)
    replace hE := hE.frzK (n := 11) (by decide)
    have hu_ := hu.frz (n := 11) (by decide) (by omega)
    have hv_ := hv.frz (n := 11) (by decide) (by omega)
    replace hu := hu_
    clear hu_
    replace hv := hv_
    clear hv_
    have hkd2 : k = max n m := hkd
    have hPX : ∀ sh : Int, (∀ j, j < k → gI vl (j + 1) ≤ sh) → (0 < k → ∃ j, j < k ∧ gI vl (j + 1) = sh) → _ := fun sh hs1 hs2 => price_bnd (n := n) (m := m) (wt := wt) (W := W) (u := ul) (v := vl) (row := gN rl) (shift := sh) hW0 (by rw [← hkd2]; exact hWk) (by rw [← hkd2]; exact hcb) (by rw [← hkd2]; exact hI) (by rw [← hkd2]; exact hs1) (by rw [← hkd2]; exact hs2)
    have hPNX : ∀ sh : Int, (∀ j, j < k → gI vl (j + 1) ≤ sh) → (0 < k → ∃ j, j < k ∧ gI vl (j + 1) = sh) → _ := fun sh hs1 hs2 => prices_new (n := n) (m := m) (wt := wt) (W := W) (u := ul) (v := vl) (row := gN rl) (shift := sh) (by rw [← hkd2]; exact hI) (by rw [← hkd2]; exact hs1) (by rw [← hkd2]; exact hs2)
    rw [← hkd2] at hPX
    have hub : ∀ q, q < k → -288230376151711744 ≤ gI ul (q + 1) ∧ gI ul (q + 1) ≤ 0 := fun q hq => by have := hI.ulb (q + 1) (by omega) (by omega); omega
    have hvb : ∀ q, q < k → -288230376151711744 ≤ gI vl (q + 1) ∧ gI vl (q + 1) ≤ 0 := fun q hq => by
      refine ⟨?_, hI.vn (q + 1) (by omega) (by omega)⟩
      by_cases e : gN rl (q + 1) = 0
      · rw [hI.vfree (q + 1) (by omega) (by omega) e]; omega
      · have h1 := hI.tight (q + 1) (by omega) (by omega) e
        have hr := hI.rng (q + 1) (by omega) (by omega)
        have h2 := hI.ulb (gN rl (q + 1)) (by omega) hr
        have h3 := hcb (gN rl (q + 1)) (q + 1) (by omega) hr (by omega) (by omega)
        omega
    clear hkd2 hcb
    obtain ⟨hkm1, hkm2, hkm3⟩ := hkm
    replace hkd : Hid (k = max n m) := hkd
    replace hW0 : Hid (0 ≤ W) := hW0
    replace hW1 : Hid (W ≤ 288230376151711744) := hW1
    replace hWk : Hid (((k : Nat) + 1 : Int) * W ≤ 288230376151711744) := hWk
    clear e3 e4 e5 e6
    refine run_exit (id := 0) (by kernel_rfl) rfl ?_
    refine run_seq (x := F45.c28) (y := F45.c29) (by kernel_rfl) ?_
    refine run_plain (id := 10) (ops := F45.o10) [(0, true)] (by kernel_rfl) (by kernel_rfl) ?_
    refine yS (by kernel_rfl : opAt F45.o10 0 = some (some 12, .assign (.const (.int .i64 0)), none)) rfl rfl (fun w' hS => val_assign rfl) ?_
    refine Sch.nil ?_
    refine run_seq (x := F45.c30) (y := F45.c35) (by kernel_rfl) ?_
    refine run_seq (x := F45.c31) (y := F45.c32) (by kernel_rfl) ?_
    refine run_plain (id := 11) (ops := F45.o11) [(0, true), (1, true)] (by kernel_rfl) (by kernel_rfl) ?_
    refine yS (by kernel_rfl : opAt F45.o11 0 = some (some 63, .move (.tmp 9), none)) rfl rfl (fun w' hS => val_move rfl) ?_
    refine yS (by kernel_rfl : opAt F45.o11 1 = some (some 64, .binOp .gtr 3 (.tmp 63) (.const (.int .i64 0)) 3, none)) rfl rfl (fun w' hS => val_gtr rfl rfl) ?_
    refine Sch.nil ?_
    refine run_join (ι := Int × (Nat → Nat)) (k := [.code F45.c35]) (I := fun x w => (-288230376151711744 ≤ x.1 ∧ x.1 ≤ 0) ∧ (∀ t, t ≤ k → -576460752303423488 ≤ sumN t (pU ul x.1) ∧ sumN t (pU ul x.1) ≤ 576460752303423488) ∧ (∀ t, t ≤ k → 0 ≤ sumN t (pV vl x.1) ∧ sumN t (pV vl x.1) ≤ 576460752303423488) ∧ (∀ i, i < k → 0 ≤ pU ul x.1 i) ∧ (Pr n m (pos wt) (pU ul x.1) (pV vl x.1) ∧ ∃ f, Tg n m (pos wt) (pU ul x.1) (pV vl x.1) f) ∧ Lim w x.2 ∧ Stp [2, 3, 4, 5, 6, 7, 8, 9, 10, 11, 12, 13, 14, 15, 16] w₀ (col1 C) w x.2 ∧ RV w (Mc x.2) (wmL n m wt) xw ∧ OwnB w x.2 10 bw5 (.cells [xw, xu, xv, xr, xy, xl, xc].toArray 93) ∧ RV w (Mc x.2) ul xu ∧ RV w (Mc x.2) vl xv ∧ OwnB w x.2 2 bw2 (.cells [.int .i64 n, .int .i64 m, xU, xV, .int .i64 0, xE].toArray 69) ∧ OwnL w x.2 3 3 xU (List.replicate n (0 : Int)) ∧ OwnL w x.2 4 3 xV (List.replicate m (0 : Int)) ∧ OwnL w x.2 5 48 xE (svsF (fun _ => Value.slice none 0 0) n)) (e := fun x => [(0, .int .i64 n), (1, .int .i64 m), (7, .pointer (some ⟨bw2, 0, none⟩)), (8, xw), (10, .pointer (some ⟨bw5, 0, none⟩)), (12, .int .i64 x.1)]) ?_ ?_
    · skip
      intro ⟨sh, C1⟩ w8 hI
      obtain ⟨hshb, b3, b4, b5, hPN, hF, hT, hw, hsb, hu, hv, hg, hU, hV, hE⟩ := hI
      try simp only at *
      show Run _ _ _ _ [(0, .int .i64 n), (1, .int .i64 m), (7, .pointer (some ⟨bw2, 0, none⟩)), (8, xw), (10, .pointer (some ⟨bw5, 0, none⟩)), (12, .int .i64 sh)] _ _
      refine run_seq (x := F45.c36) (y := F45.c54) (by kernel_rfl) ?_
      refine run_seq (x := F45.c37) (y := F45.c38) (by kernel_rfl) ?_
      refine run_plain (id := 13) (ops := F45.o13) [(0, true), (1, true)] (by kernel_rfl) (by kernel_rfl) ?_
      refine yS (by kernel_rfl : opAt F45.o13 0 = some (some 71, .move (.tmp 0), none)) rfl rfl (fun w' hS => val_move rfl) ?_
      refine yS (by kernel_rfl : opAt F45.o13 1 = some (some 72, .move (.const (.int .i64 0)), none)) rfl rfl (fun w' hS => val_move rfl) ?_
      refine Sch.nil ?_
      refine run_block (x := F45.c39) (id := 2) (by kernel_rfl) ?_
      
      refine run_loop (ι := Nat × (List Int) × (Nat → Nat)) (I := fun x w => x.1 ≤ n ∧ x.2.1.length = n ∧ (∀ q, q < x.1 → gI x.2.1 q = (pU ul sh) q) ∧ Lim w x.2.2 ∧ Stp [2, 3, 4, 5, 6, 7, 8, 9, 10, 11, 12, 13, 14, 15, 16] w₀ (col1 C) w x.2.2 ∧ RV w (Mc x.2.2) (wmL n m wt) xw ∧ OwnB w x.2.2 10 bw5 (.cells [xw, xu, xv, xr, xy, xl, xc].toArray 93) ∧ RV w (Mc x.2.2) ul xu ∧ RV w (Mc x.2.2) vl xv ∧ OwnB w x.2.2 2 bw2 (.cells [.int .i64 n, .int .i64 m, xU, xV, .int .i64 (sumN x.1 (pU ul sh)), xE].toArray 69) ∧ OwnL w x.2.2 3 3 xU x.2.1 ∧ OwnL w x.2.2 4 3 xV (List.replicate m (0 : Int)) ∧ OwnL w x.2.2 5 48 xE (svsF (fun _ => Value.slice none 0 0) n)) (e := fun x => [(0, .int .i64 n), (1, .int .i64 m), (7, .pointer (some ⟨bw2, 0, none⟩)), (8, xw), (10, .pointer (some ⟨bw5, 0, none⟩)), (12, .int .i64 sh), (71, .int .i64 n), (72, .int .i64 x.1)]) (m := fun x => n - x.1) (x₀ := (0, List.replicate n 0, C1)) (body := F45.c40) (by kernel_rfl) (sub_cons 0 rfl rfl (sub_cons 1 rfl rfl (sub_cons 7 rfl rfl (sub_cons 8 rfl rfl (sub_cons 10 rfl rfl (sub_cons 12 rfl rfl (sub_cons 71 rfl rfl (sub_cons 72 rfl rfl (sub_nil _))))))))) ?_ ?_
      · exact ⟨Nat.zero_le _, (by simp only; exact List.length_replicate), (fun q hq => by simp only at hq; omega), hF, hT, hw, hsb, hu, hv, hg, hU, hV, hE⟩
      intro ⟨p, Ul, C1⟩ w9 hI next
      obtain ⟨hp, hUl, hUv, hF, hT, hw, hsb, hu, hv, hg, hU, hV, hE⟩ := hI
      try simp only at hp hUl hUv hF hT hw hsb hu hv hg hU hV hE
      have next2 := next
      clear next
      show Run _ _ _ _ [(0, .int .i64 n), (1, .int .i64 m), (7, .pointer (some ⟨bw2, 0, none⟩)), (8, xw), (10, .pointer (some ⟨bw5, 0, none⟩)), (12, .int .i64 sh), (71, .int .i64 n), (72, .int .i64 p)] _ _
      refine run_seq (x := F45.c41) (y := F45.c42) (by kernel_rfl) ?_
      refine run_plain (id := 14) (ops := F45.o14) [(0, true)] (by kernel_rfl) (by kernel_rfl) ?_
      refine yS (by kernel_rfl : opAt F45.o14 0 = some (some 73, .binOp .lss 3 (.tmp 72) (.tmp 71) 3, none)) rfl rfl (fun w' hS => val_lss rfl rfl) ?_
      refine Sch.nil ?_
      refine run_seq (x := F45.c43) (y := F45.c46) (by kernel_rfl) ?_
      refine run_if (x := F45.c44) (y := F45.c45) (o := .tmp 73) (by kernel_rfl) rfl (fun h73 => ?_) (fun h73 => ?_)
      · skip
        have hpl : p < n := by omega
        have hup := hub p (by omega)
        rw [show gI ul (p + 1) = ul[p + 1]'(by omega) from getD_in _] at hup
        have hval : -(ul[p + 1]'(by omega)) - sh = pU ul sh p := by unfold pU; rw [show gI ul (p + 1) = ul[p + 1]'(by omega) from getD_in _]
        have c1 := b3 p (by omega)
        have c2 := b3 (p + 1) (by omega)
        rw [show sumN (p + 1) (pU ul sh) = sumN p (pU ul sh) + (pU ul sh) p from rfl] at c2
        refine run_skip (by kernel_rfl) ?_
        refine run_seq (x := F45.c47) (y := F45.c53) (by kernel_rfl) ?_
        refine run_block (x := F45.c48) (id := 3) (by kernel_rfl) ?_
        refine run_seq (x := F45.c49) (y := F45.c50) (by kernel_rfl) ?_
        refine run_plain (id := 15) (ops := F45.o15) [(0, true), (1, true)] (by kernel_rfl) (by kernel_rfl) ?_
        refine yS (by kernel_rfl : opAt F45.o15 0 = some (some 74, .move (.tmp 72), none)) rfl rfl (fun w' hS => val_move rfl) ?_
        refine yS (by kernel_rfl : opAt F45.o15 1 = some (some 13, .assign (.tmp 74), none)) rfl rfl (fun w' hS => val_assign rfl) ?_
        refine Sch.nil ?_
        refine run_seq (x := F45.c51) (y := F45.c52) (by kernel_rfl) ?_
        refine run_draw (id := 16) (ops := F45.o16) [3] (C1) [(0, true), (1, true), (2, true), (3, true), (4, true), (5, true), (6, true), (7, true), (8, true), (9, true), (10, true), (11, true), (12, true), (13, true), (14, true), (15, true), (16, true), (17, false)] Try_mixed (by kernel_rfl) (by kernel_rfl) (by kernel_rfl) ?_
        intro w10 hs
        replace hF := hF.st hs
        replace hT := hT.trans hs (by simp)
        replace hw := hw.st hs (by first | decide | (simp <;> omega))
        replace hsb := hsb.st hs (by first | decide | (simp <;> omega))
        replace hu := hu.st hs (by first | decide | (simp <;> omega))
        replace hv := hv.st hs (by first | decide | (simp <;> omega))
        replace hg := hg.st hs (by first | decide | (simp <;> omega))
        replace hU := hU.st hs (by first | decide | (simp <;> omega)) (by first | decide | (simp <;> omega))
        replace hV := hV.st hs (by first | decide | (simp <;> omega)) (by first | decide | (simp <;> omega))
        replace hE := hE.st hs (by first | decide | (simp <;> omega)) (by first | decide | (simp <;> omega))
        have hR := Stp.refl [3] w10 (C1)
        refine yS (by kernel_rfl : opAt F45.o16 0 = some (some 75, .move (.tmp 7), none)) rfl rfl (fun w' hS => val_move rfl) ?_
        refine yS (by kernel_rfl : opAt F45.o16 1 = some (some 76, .nilCheck (.tmp 75), none)) rfl rfl (fun w' hS => val_nilCheck rfl) ?_
        refine yS (by kernel_rfl : opAt F45.o16 2 = some (some 77, .fieldAddr 69 (.tmp 76) 2, none)) rfl rfl (fun w' hS => val_fieldAddr (off := 2) (by kernel_rfl) rfl) ?_
        refine yS (by kernel_rfl : opAt F45.o16 3 = some (some 78, .load 22 (.tmp 77), none)) rfl rfl (fun w' hS => val_loadOwn (hg.stay hS (by decide)) (by kernel_rfl) rfl rfl) ?_
        refine yS (by kernel_rfl : opAt F45.o16 4 = some (some 79, .move (.tmp 13), none)) rfl rfl (fun w' hS => val_move rfl) ?_
        refine yS (by kernel_rfl : opAt F45.o16 5 = some (some 80, .move (.tmp 10), none)) rfl rfl (fun w' hS => val_move rfl) ?_
        refine yS (by kernel_rfl : opAt F45.o16 6 = some (some 81, .nilCheck (.tmp 80), none)) rfl rfl (fun w' hS => val_nilCheck rfl) ?_
        refine yS (by kernel_rfl : opAt F45.o16 7 = some (some 82, .fieldAddr 93 (.tmp 81) 1, none)) rfl rfl (fun w' hS => val_fieldAddr (off := 1) (by kernel_rfl) rfl) ?_
        refine yS (by kernel_rfl : opAt F45.o16 8 = some (some 83, .load 22 (.tmp 82), none)) rfl rfl (fun w' hS => val_loadOwn (hsb.stay hS (by decide)) (by kernel_rfl) rfl rfl) ?_
        refine yS (by kernel_rfl : opAt F45.o16 9 = some (some 84, .move (.tmp 13), none)) rfl rfl (fun w' hS => val_move rfl) ?_
        refine yS (by kernel_rfl : opAt F45.o16 10 = some (some 85, .binOp .add 3 (.tmp 84) (.const (.int .i64 1)) 3, none)) rfl rfl (fun w' hS => val_addi rfl rfl (by omega) (by omega)) ?_
        refine iS (e := 3) (by kernel_rfl : opAt F45.o16 11 = some (some 86, .indexAddr 22 (.tmp 83) (.tmp 85), none)) rfl rfl hu rfl (by kernel_rfl) rfl (by omega) (by omega) ?_
        intro b86 o86 h86
        try simp only [Int.toNat_natCast] at h86
        simp only [show ((p : Int) + 1).toNat = p + 1 from by omega] at h86
        refine lS (by kernel_rfl : opAt F45.o16 12 = some (some 87, .load 3 (.tmp 86), none)) rfl rfl (fun w' hS => h86.stay hS (by first | decide | (simp <;> omega))) h86 (by kernel_rfl) rfl rfl ?_
        intro v87 g87
        first | (obtain rfl := rv_nat.1 g87) | (obtain rfl := rv_int.1 g87)
        refine yS (by kernel_rfl : opAt F45.o16 13 = some (some 88, .unOp .neg 3 (.tmp 87), none)) rfl rfl (fun w' hS => val_negi rfl (by omega) (by omega)) ?_
        refine yS (by kernel_rfl : opAt F45.o16 14 = some (some 89, .move (.tmp 12), none)) rfl rfl (fun w' hS => val_move rfl) ?_
        refine yS (by kernel_rfl : opAt F45.o16 15 = some (some 90, .binOp .sub 3 (.tmp 88) (.tmp 89) 3, none)) rfl rfl (fun w' hS => val_subi rfl rfl (by omega) (by omega)) ?_
        rw [hval]
        refine oI (e' := 3) (by kernel_rfl : opAt F45.o16 16 = some (some 91, .indexAddr 22 (.tmp 78) (.tmp 79), none)) rfl rfl hU rfl (by kernel_rfl) rfl (by omega) (by omega) ?_
        intro g91 hg91
        try simp only [Int.toNat_natCast]
        refine Sch.free rfl ?_
        refine aN (by kernel_rfl : opAt F45.o16 17 = some (none, .store 3 (.tmp 91) (.tmp 90), none)) rfl (a_storeO hU hg91 (by omega) rfl rfl (by kernel_rfl) (rv_int.2 rfl)) ?_
        rintro _ w11 ⟨rfl, hs, hU⟩
        refine ⟨trivial, ?_⟩
        replace hF := hF.st hs
        replace hT := hT.trans hs (by simp)
        replace hw := hw.st hs (by first | decide | (simp <;> omega))
        replace hsb := hsb.st hs (by first | decide | (simp <;> omega))
        replace hu := hu.st hs (by first | decide | (simp <;> omega))
        replace hv := hv.st hs (by first | decide | (simp <;> omega))
        replace hg := hg.st hs (by first | decide | (simp <;> omega))
        replace hV := hV.st hs (by first | decide | (simp <;> omega)) (by first | decide | (simp <;> omega))
        replace hE := hE.st hs (by first | decide | (simp <;> omega)) (by first | decide | (simp <;> omega))
        replace h86 := h86.st hs (by first | decide | (simp <;> omega))
        refine Sch.nil ?_
        have hnl : (Ul.set p ((pU ul sh) p)).length = n := by rw [List.length_set]; exact hUl
        have hnv : (Ul.set p ((pU ul sh) p))[p]'(by omega) = (pU ul sh) p := List.getElem_set_self _
        refine run_draw2 (id := 17) (ops := F45.o17) [2] (C1) [0, 1, 2, 4, 5, 6, 8] 3 [(7, false), (9, true), (10, true), (11, true), (12, true), (13, true), (14, false)] 7 [(9, true), (10, true), (3, false), (11, true), (12, true), (13, true), (14, false)] Try_mixed (by kernel_rfl) (by kernel_rfl) (by kernel_rfl) ?_ ?_
        · skip
          intro w12 hs
          replace hF := hF.st hs
          replace hT := hT.trans hs (by simp)
          replace hw := hw.st hs (by first | decide | (simp <;> omega))
          replace hsb := hsb.st hs (by first | decide | (simp <;> omega))
          replace hu := hu.st hs (by first | decide | (simp <;> omega))
          replace hv := hv.st hs (by first | decide | (simp <;> omega))
          replace hg := hg.st hs (by first | decide | (simp <;> omega))
          replace hU := hU.st hs (by first | decide | (simp <;> omega)) (by first | decide | (simp <;> omega))
          replace hV := hV.st hs (by first | decide | (simp <;> omega)) (by first | decide | (simp <;> omega))
          replace hE := hE.st hs (by first | decide | (simp <;> omega)) (by first | decide | (simp <;> omega))
          replace h86 := h86.st hs (by first | decide | (simp <;> omega))
          show Sch _ _ _ _ _ _ _ [(0, true), (1, true), (2, true), (4, true), (5, true), (6, true), (8, true), (3, false), (7, false), (9, true), (10, true), (11, true), (12, true), (13, true), (14, false)] _ _
          have hR := Stp.refl [2] w12 (C1)
          refine yS (by kernel_rfl : opAt F45.o17 0 = some (some 92, .move (.tmp 7), none)) rfl rfl (fun w' hS => val_move rfl) ?_
          refine yS (by kernel_rfl : opAt F45.o17 1 = some (some 93, .nilCheck (.tmp 92), none)) rfl rfl (fun w' hS => val_nilCheck rfl) ?_
          refine yS (by kernel_rfl : opAt F45.o17 2 = some (some 94, .fieldAddr 69 (.tmp 93) 4, none)) rfl rfl (fun w' hS => val_fieldAddr (off := 4) (by kernel_rfl) rfl) ?_
          refine yS (by kernel_rfl : opAt F45.o17 4 = some (some 96, .move (.tmp 7), none)) rfl rfl (fun w' hS => val_move rfl) ?_
          refine yS (by kernel_rfl : opAt F45.o17 5 = some (some 97, .nilCheck (.tmp 96), none)) rfl rfl (fun w' hS => val_nilCheck rfl) ?_
          refine yS (by kernel_rfl : opAt F45.o17 6 = some (some 98, .fieldAddr 69 (.tmp 97) 2, none)) rfl rfl (fun w' hS => val_fieldAddr (off := 2) (by kernel_rfl) rfl) ?_
          refine yS (by kernel_rfl : opAt F45.o17 8 = some (some 100, .move (.tmp 13), none)) rfl rfl (fun w' hS => val_move rfl) ?_
          refine nS (by kernel_rfl : opAt F45.o17 3 = some (some 95, .load 3 (.tmp 94), none)) rfl rfl hR.ext (val_loadOwn hg.at_ (by kernel_rfl) rfl rfl) ?_
          refine nS (by kernel_rfl : opAt F45.o17 7 = some (some 99, .load 22 (.tmp 98), none)) rfl rfl hR.ext (val_loadOwn hg.at_ (by kernel_rfl) rfl rfl) ?_
          refine oI (e' := 3) (by kernel_rfl : opAt F45.o17 9 = some (some 101, .indexAddr 22 (.tmp 99) (.tmp 100), none)) rfl rfl hU rfl (by kernel_rfl) rfl (by omega) (by omega) ?_
          intro g101 hg101
          try simp only [Int.toNat_natCast]
          refine oS (I := [2]) (by kernel_rfl : opAt F45.o17 10 = some (some 102, .load 3 (.tmp 101), none)) rfl rfl hU hg101 (fun w' hS => hU.stay hg101 hS (by first | decide | (simp <;> omega))) (by omega) (by kernel_rfl) rfl rfl ?_
          intro v102 g102
          try simp only [Int.toNat_natCast] at g102
          first | (obtain rfl := rv_nat.1 g102) | (obtain rfl := rv_int.1 g102)
          rw [hnv]
          refine yS (by kernel_rfl : opAt F45.o17 11 = some (some 103, .binOp .add 3 (.tmp 95) (.tmp 102) 3, none)) rfl rfl (fun w' hS => val_addi rfl rfl (by omega) (by omega)) ?_
          refine yS (by kernel_rfl : opAt F45.o17 12 = some (some 104, .nilCheck (.tmp 92), none)) rfl rfl (fun w' hS => val_nilCheck rfl) ?_
          refine yS (by kernel_rfl : opAt F45.o17 13 = some (some 105, .fieldAddr 69 (.tmp 104) 4, none)) rfl rfl (fun w' hS => val_fieldAddr (off := 4) (by kernel_rfl) rfl) ?_
          refine Sch.free rfl ?_
          refine aN (by kernel_rfl : opAt F45.o17 14 = some (none, .store 3 (.tmp 105) (.tmp 103), none)) rfl (a_store1 rfl rfl (by kernel_rfl) rfl rfl hg (by simp)) ?_
          rintro _ w13 ⟨rfl, hs, hg⟩
          refine ⟨trivial, ?_⟩
          replace hF := hF.st hs
          replace hT := hT.trans hs (by simp)
          replace hw := hw.st hs (by first | decide | (simp <;> omega))
          replace hsb := hsb.st hs (by first | decide | (simp <;> omega))
          replace hu := hu.st hs (by first | decide | (simp <;> omega))
          replace hv := hv.st hs (by first | decide | (simp <;> omega))
          replace hU := hU.st hs (by first | decide | (simp <;> omega)) (by first | decide | (simp <;> omega))
          replace hV := hV.st hs (by first | decide | (simp <;> omega)) (by first | decide | (simp <;> omega))
          replace hE := hE.st hs (by first | decide | (simp <;> omega)) (by first | decide | (simp <;> omega))
          replace h86 := h86.st hs (by first | decide | (simp <;> omega))
          simp only [List.set_cons_succ, List.set_cons_zero] at hg
          refine Sch.nil ?_
          refine run_inBlock ?_
          refine run_plain (id := 18) (ops := F45.o18) [(0, true), (1, true)] (by kernel_rfl) (by kernel_rfl) ?_
          refine yS (by kernel_rfl : opAt F45.o18 0 = some (some 106, .binOp .add 3 (.tmp 72) (.const (.int .i64 1)) 3, none)) rfl rfl (fun w' hS => val_addi rfl rfl (by omega) (by omega)) ?_
          refine yS (by kernel_rfl : opAt F45.o18 1 = some (some 72, .move (.tmp 106), none)) rfl rfl (fun w' hS => val_move rfl) ?_
          refine Sch.nil ?_
          refine kp (sub_cons 0 rfl rfl (sub_cons 1 rfl rfl (sub_cons 7 rfl rfl (sub_cons 8 rfl rfl (sub_cons 10 rfl rfl (sub_cons 12 rfl rfl (sub_cons 71 rfl rfl (sub_cons 72 rfl (eq_int (by simp)) (sub_nil _))))))))) (next2 (p + 1, Ul.set p ((pU ul sh) p), C1) _ ⟨(by first | omega | (simp only; omega)), (by simp only [List.length_set]; exact hUl), (fun q hq => by
              simp only at hq ⊢
              show (Ul.set p _).getD q 0 = _
              rw [getD_set (by omega)]
              split
              · rename_i e; subst e; rfl
              · exact hUv q (by omega)), hF, hT, hw, hsb, hu, hv, hg, hU, hV, hE⟩ (by first | omega | (simp only; omega)))
        · skip
          intro w14 hs
          replace hF := hF.st hs
          replace hT := hT.trans hs (by simp)
          replace hw := hw.st hs (by first | decide | (simp <;> omega))
          replace hsb := hsb.st hs (by first | decide | (simp <;> omega))
          replace hu := hu.st hs (by first | decide | (simp <;> omega))
          replace hv := hv.st hs (by first | decide | (simp <;> omega))
          replace hg := hg.st hs (by first | decide | (simp <;> omega))
          replace hU := hU.st hs (by first | decide | (simp <;> omega)) (by first | decide | (simp <;> omega))
          replace hV := hV.st hs (by first | decide | (simp <;> omega)) (by first | decide | (simp <;> omega))
          replace hE := hE.st hs (by first | decide | (simp <;> omega)) (by first | decide | (simp <;> omega))
          replace h86 := h86.st hs (by first | decide | (simp <;> omega))
          show Sch _ _ _ _ _ _ _ [(0, true), (1, true), (2, true), (4, true), (5, true), (6, true), (8, true), (7, false), (9, true), (10, true), (3, false), (11, true), (12, true), (13, true), (14, false)] _ _
          have hR := Stp.refl [2] w14 (C1)
          refine yS (by kernel_rfl : opAt F45.o17 0 = some (some 92, .move (.tmp 7), none)) rfl rfl (fun w' hS => val_move rfl) ?_
          refine yS (by kernel_rfl : opAt F45.o17 1 = some (some 93, .nilCheck (.tmp 92), none)) rfl rfl (fun w' hS => val_nilCheck rfl) ?_
          refine yS (by kernel_rfl : opAt F45.o17 2 = some (some 94, .fieldAddr 69 (.tmp 93) 4, none)) rfl rfl (fun w' hS => val_fieldAddr (off := 4) (by kernel_rfl) rfl) ?_
          refine yS (by kernel_rfl : opAt F45.o17 4 = some (some 96, .move (.tmp 7), none)) rfl rfl (fun w' hS => val_move rfl) ?_
          refine yS (by kernel_rfl : opAt F45.o17 5 = some (some 97, .nilCheck (.tmp 96), none)) rfl rfl (fun w' hS => val_nilCheck rfl) ?_
          refine yS (by kernel_rfl : opAt F45.o17 6 = some (some 98, .fieldAddr 69 (.tmp 97) 2, none)) rfl rfl (fun w' hS => val_fieldAddr (off := 2) (by kernel_rfl) rfl) ?_
          refine yS (by kernel_rfl : opAt F45.o17 8 = some (some 100, .move (.tmp 13), none)) rfl rfl (fun w' hS => val_move rfl) ?_
          refine nS (by kernel_rfl : opAt F45.o17 7 = some (some 99, .load 22 (.tmp 98), none)) rfl rfl hR.ext (val_loadOwn hg.at_ (by kernel_rfl) rfl rfl) ?_
          refine oI (e' := 3) (by kernel_rfl : opAt F45.o17 9 = some (some 101, .indexAddr 22 (.tmp 99) (.tmp 100), none)) rfl rfl hU rfl (by kernel_rfl) rfl (by omega) (by omega) ?_
          intro g101 hg101
          try simp only [Int.toNat_natCast]
          refine oS (I := [2]) (by kernel_rfl : opAt F45.o17 10 = some (some 102, .load 3 (.tmp 101), none)) rfl rfl hU hg101 (fun w' hS => hU.stay hg101 hS (by first | decide | (simp <;> omega))) (by omega) (by kernel_rfl) rfl rfl ?_
          intro v102 g102
          try simp only [Int.toNat_natCast] at g102
          first | (obtain rfl := rv_nat.1 g102) | (obtain rfl := rv_int.1 g102)
          rw [hnv]
          refine nS (by kernel_rfl : opAt F45.o17 3 = some (some 95, .load 3 (.tmp 94), none)) rfl rfl hR.ext (val_loadOwn hg.at_ (by kernel_rfl) rfl rfl) ?_
          refine yS (by kernel_rfl : opAt F45.o17 11 = some (some 103, .binOp .add 3 (.tmp 95) (.tmp 102) 3, none)) rfl rfl (fun w' hS => val_addi rfl rfl (by omega) (by omega)) ?_
          refine yS (by kernel_rfl : opAt F45.o17 12 = some (some 104, .nilCheck (.tmp 92), none)) rfl rfl (fun w' hS => val_nilCheck rfl) ?_
          refine yS (by kernel_rfl : opAt F45.o17 13 = some (some 105, .fieldAddr 69 (.tmp 104) 4, none)) rfl rfl (fun w' hS => val_fieldAddr (off := 4) (by kernel_rfl) rfl) ?_
          refine Sch.free rfl ?_
          refine aN (by kernel_rfl : opAt F45.o17 14 = some (none, .store 3 (.tmp 105) (.tmp 103), none)) rfl (a_store1 rfl rfl (by kernel_rfl) rfl rfl hg (by simp)) ?_
          rintro _ w15 ⟨rfl, hs, hg⟩
          refine ⟨trivial, ?_⟩
          replace hF := hF.st hs
          replace hT := hT.trans hs (by simp)
          replace hw := hw.st hs (by first | decide | (simp <;> omega))
          replace hsb := hsb.st hs (by first | decide | (simp <;> omega))
          replace hu := hu.st hs (by first | decide | (simp <;> omega))
          replace hv := hv.st hs (by first | decide | (simp <;> omega))
          replace hU := hU.st hs (by first | decide | (simp <;> omega)) (by first | decide | (simp <;> omega))
          replace hV := hV.st hs (by first | decide | (simp <;> omega)) (by first | decide | (simp <;> omega))
          replace hE := hE.st hs (by first | decide | (simp <;> omega)) (by first | decide | (simp <;> omega))
          replace h86 := h86.st hs (by first | decide | (simp <;> omega))
          simp only [List.set_cons_succ, List.set_cons_zero] at hg
          refine Sch.nil ?_
          refine run_inBlock ?_
          refine run_plain (id := 18) (ops := F45.o18) [(0, true), (1, true)] (by kernel_rfl) (by kernel_rfl) ?_
          refine yS (by kernel_rfl : opAt F45.o18 0 = some (some 106, .binOp .add 3 (.tmp 72) (.const (.int .i64 1)) 3, none)) rfl rfl (fun w' hS => val_addi rfl rfl (by omega) (by omega)) ?_
          refine yS (by kernel_rfl : opAt F45.o18 1 = some (some 72, .move (.tmp 106), none)) rfl rfl (fun w' hS => val_move rfl) ?_
          refine Sch.nil ?_
          refine kp (sub_cons 0 rfl rfl (sub_cons 1 rfl rfl (sub_cons 7 rfl rfl (sub_cons 8 rfl rfl (sub_cons 10 rfl rfl (sub_cons 12 rfl rfl (sub_cons 71 rfl rfl (sub_cons 72 rfl (eq_int (by simp)) (sub_nil _))))))))) (next2 (p + 1, Ul.set p ((pU ul sh) p), C1) _ ⟨(by first | omega | (simp only; omega)), (by simp only [List.length_set]; exact hUl), (fun q hq => by
              simp only at hq ⊢
              show (Ul.set p _).getD q 0 = _
              rw [getD_set (by omega)]
              split
              · rename_i e; subst e; rfl
              · exact hUv q (by omega)), hF, hT, hw, hsb, hu, hv, hg, hU, hV, hE⟩ (by first | omega | (simp only; omega)))
      · skip
        obtain rfl : n = p := by omega
        have hUv2 := hUv
        refine run_exit (id := 2) (by kernel_rfl) rfl ?_
        refine run_seq (x := F45.c55) (y := F45.c73) (by kernel_rfl) ?_
        refine run_seq (x := F45.c56) (y := F45.c57) (by kernel_rfl) ?_
        refine run_plain (id := 19) (ops := F45.o19) [(0, true), (1, true)] (by kernel_rfl) (by kernel_rfl) ?_
        refine yS (by kernel_rfl : opAt F45.o19 0 = some (some 107, .move (.tmp 1), none)) rfl rfl (fun w' hS => val_move rfl) ?_
        refine yS (by kernel_rfl : opAt F45.o19 1 = some (some 108, .move (.const (.int .i64 0)), none)) rfl rfl (fun w' hS => val_move rfl) ?_
        refine Sch.nil ?_
        refine run_block (x := F45.c58) (id := 4) (by kernel_rfl) ?_
        
        refine run_loop (ι := Nat × (List Int) × (Nat → Nat)) (I := fun x w => x.1 ≤ m ∧ x.2.1.length = m ∧ (∀ q, q < x.1 → gI x.2.1 q = (pV vl sh) q) ∧ Lim w x.2.2 ∧ Stp [2, 3, 4, 5, 6, 7, 8, 9, 10, 11, 12, 13, 14, 15, 16] w₀ (col1 C) w x.2.2 ∧ RV w (Mc x.2.2) (wmL n m wt) xw ∧ OwnB w x.2.2 10 bw5 (.cells [xw, xu, xv, xr, xy, xl, xc].toArray 93) ∧ RV w (Mc x.2.2) ul xu ∧ RV w (Mc x.2.2) vl xv ∧ OwnB w x.2.2 2 bw2 (.cells [.int .i64 n, .int .i64 m, xU, xV, .int .i64 (sumN n (pU ul sh) + sumN x.1 (pV vl sh)), xE].toArray 69) ∧ OwnL w x.2.2 3 3 xU Ul ∧ OwnL w x.2.2 4 3 xV x.2.1 ∧ OwnL w x.2.2 5 48 xE (svsF (fun _ => Value.slice none 0 0) n)) (e := fun x => [(0, .int .i64 n), (1, .int .i64 m), (7, .pointer (some ⟨bw2, 0, none⟩)), (8, xw), (10, .pointer (some ⟨bw5, 0, none⟩)), (12, .int .i64 sh), (107, .int .i64 m), (108, .int .i64 x.1)]) (m := fun x => m - x.1) (x₀ := (0, List.replicate m 0, C1)) (body := F45.c59) (by kernel_rfl) (sub_cons 0 rfl rfl (sub_cons 1 rfl rfl (sub_cons 7 rfl rfl (sub_cons 8 rfl rfl (sub_cons 10 rfl rfl (sub_cons 12 rfl rfl (sub_cons 107 rfl rfl (sub_cons 108 rfl rfl (sub_nil _))))))))) ?_ ?_
        · exact ⟨Nat.zero_le _, (by simp only; exact List.length_replicate), (fun q hq => by simp only at hq; omega), hF, hT, hw, hsb, hu, hv, by simpa [sumN] using hg, hU, hV, hE⟩
        intro ⟨p, Vl, C1⟩ w16 hI next
        obtain ⟨hp, hVl, hVv, hF, hT, hw, hsb, hu, hv, hg, hU, hV, hE⟩ := hI
        try simp only at hp hVl hVv hF hT hw hsb hu hv hg hU hV hE
        have next3 := next
        clear next
        show Run _ _ _ _ [(0, .int .i64 n), (1, .int .i64 m), (7, .pointer (some ⟨bw2, 0, none⟩)), (8, xw), (10, .pointer (some ⟨bw5, 0, none⟩)), (12, .int .i64 sh), (107, .int .i64 m), (108, .int .i64 p)] _ _
        refine run_seq (x := F45.c60) (y := F45.c61) (by kernel_rfl) ?_
        refine run_plain (id := 20) (ops := F45.o20) [(0, true)] (by kernel_rfl) (by kernel_rfl) ?_
        refine yS (by kernel_rfl : opAt F45.o20 0 = some (some 109, .binOp .lss 3 (.tmp 108) (.tmp 107) 3, none)) rfl rfl (fun w' hS => val_lss rfl rfl) ?_
        refine Sch.nil ?_
        refine run_seq (x := F45.c62) (y := F45.c65) (by kernel_rfl) ?_
        refine run_if (x := F45.c63) (y := F45.c64) (o := .tmp 109) (by kernel_rfl) rfl (fun h109 => ?_) (fun h109 => ?_)
        · skip
          have hpl : p < m := by omega
          have hvp := hvb p (by omega)
          rw [show gI vl (p + 1) = vl[p + 1]'(by omega) from getD_in _] at hvp
          have hval : sh - vl[p + 1]'(by omega) = pV vl sh p := by unfold pV; rw [show gI vl (p + 1) = vl[p + 1]'(by omega) from getD_in _]
          have c0 := b3 n (by omega)
          have c1 := b4 p (by omega)
          have c2 := b4 (p + 1) (by omega)
          rw [show sumN (p + 1) (pV vl sh) = sumN p (pV vl sh) + (pV vl sh) p from rfl] at c2
          refine run_skip (by kernel_rfl) ?_
          refine run_seq (x := F45.c66) (y := F45.c72) (by kernel_rfl) ?_
          refine run_block (x := F45.c67) (id := 5) (by kernel_rfl) ?_
          refine run_seq (x := F45.c68) (y := F45.c69) (by kernel_rfl) ?_
          refine run_plain (id := 21) (ops := F45.o21) [(0, true), (1, true)] (by kernel_rfl) (by kernel_rfl) ?_
          refine yS (by kernel_rfl : opAt F45.o21 0 = some (some 110, .move (.tmp 108), none)) rfl rfl (fun w' hS => val_move rfl) ?_
          refine yS (by kernel_rfl : opAt F45.o21 1 = some (some 14, .assign (.tmp 110), none)) rfl rfl (fun w' hS => val_assign rfl) ?_
          refine Sch.nil ?_
          refine run_seq (x := F45.c70) (y := F45.c71) (by kernel_rfl) ?_
          refine run_draw (id := 22) (ops := F45.o22) [4] (C1) [(0, true), (1, true), (2, true), (3, true), (4, true), (5, true), (6, true), (7, true), (8, true), (9, true), (10, true), (11, true), (12, true), (13, true), (14, true), (15, true), (16, false)] Try_mixed (by kernel_rfl) (by kernel_rfl) (by kernel_rfl) ?_
          intro w17 hs
          replace hF := hF.st hs
          replace hT := hT.trans hs (by simp)
          replace hw := hw.st hs (by first | decide | (simp <;> omega))
          replace hsb := hsb.st hs (by first | decide | (simp <;> omega))
          replace hu := hu.st hs (by first | decide | (simp <;> omega))
          replace hv := hv.st hs (by first | decide | (simp <;> omega))
          replace hg := hg.st hs (by first | decide | (simp <;> omega))
          replace hU := hU.st hs (by first | decide | (simp <;> omega)) (by first | decide | (simp <;> omega))
          replace hV := hV.st hs (by first | decide | (simp <;> omega)) (by first | decide | (simp <;> omega))
          replace hE := hE.st hs (by first | decide | (simp <;> omega)) (by first | decide | (simp <;> omega))
          have hR := Stp.refl [4] w17 (C1)
          refine yS (by kernel_rfl : opAt F45.o22 0 = some (some 111, .move (.tmp 7), none)) rfl rfl (fun w' hS => val_move rfl) ?_
          refine yS (by kernel_rfl : opAt F45.o22 1 = some (some 112, .nilCheck (.tmp 111), none)) rfl rfl (fun w' hS => val_nilCheck rfl) ?_
          refine yS (by kernel_rfl : opAt F45.o22 2 = some (some 113, .fieldAddr 69 (.tmp 112) 3, none)) rfl rfl (fun w' hS => val_fieldAddr (off := 3) (by kernel_rfl) rfl) ?_
          refine yS (by kernel_rfl : opAt F45.o22 3 = some (some 114, .load 22 (.tmp 113), none)) rfl rfl (fun w' hS => val_loadOwn (hg.stay hS (by decide)) (by kernel_rfl) rfl rfl) ?_
          refine yS (by kernel_rfl : opAt F45.o22 4 = some (some 115, .move (.tmp 14), none)) rfl rfl (fun w' hS => val_move rfl) ?_
          refine yS (by kernel_rfl : opAt F45.o22 5 = some (some 116, .move (.tmp 12), none)) rfl rfl (fun w' hS => val_move rfl) ?_
          refine yS (by kernel_rfl : opAt F45.o22 6 = some (some 117, .move (.tmp 10), none)) rfl rfl (fun w' hS => val_move rfl) ?_
          refine yS (by kernel_rfl : opAt F45.o22 7 = some (some 118, .nilCheck (.tmp 117), none)) rfl rfl (fun w' hS => val_nilCheck rfl) ?_
          refine yS (by kernel_rfl : opAt F45.o22 8 = some (some 119, .fieldAddr 93 (.tmp 118) 2, none)) rfl rfl (fun w' hS => val_fieldAddr (off := 2) (by kernel_rfl) rfl) ?_
          refine yS (by kernel_rfl : opAt F45.o22 9 = some (some 120, .load 22 (.tmp 119), none)) rfl rfl (fun w' hS => val_loadOwn (hsb.stay hS (by decide)) (by kernel_rfl) rfl rfl) ?_
          refine yS (by kernel_rfl : opAt F45.o22 10 = some (some 121, .move (.tmp 14), none)) rfl rfl (fun w' hS => val_move rfl) ?_
          refine yS (by kernel_rfl : opAt F45.o22 11 = some (some 122, .binOp .add 3 (.tmp 121) (.const (.int .i64 1)) 3, none)) rfl rfl (fun w' hS => val_addi rfl rfl (by omega) (by omega)) ?_
          refine iS (e := 3) (by kernel_rfl : opAt F45.o22 12 = some (some 123, .indexAddr 22 (.tmp 120) (.tmp 122), none)) rfl rfl hv rfl (by kernel_rfl) rfl (by omega) (by omega) ?_
          intro b123 o123 h123
          try simp only [Int.toNat_natCast] at h123
          simp only [show ((p : Int) + 1).toNat = p + 1 from by omega] at h123
          refine lS (by kernel_rfl : opAt F45.o22 13 = some (some 124, .load 3 (.tmp 123), none)) rfl rfl (fun w' hS => h123.stay hS (by first | decide | (simp <;> omega))) h123 (by kernel_rfl) rfl rfl ?_
          intro v124 g124
          first | (obtain rfl := rv_nat.1 g124) | (obtain rfl := rv_int.1 g124)
          refine yS (by kernel_rfl : opAt F45.o22 14 = some (some 125, .binOp .sub 3 (.tmp 116) (.tmp 124) 3, none)) rfl rfl (fun w' hS => val_subi rfl rfl (by omega) (by omega)) ?_
          rw [hval]
          refine oI (e' := 3) (by kernel_rfl : opAt F45.o22 15 = some (some 126, .indexAddr 22 (.tmp 114) (.tmp 115), none)) rfl rfl hV rfl (by kernel_rfl) rfl (by omega) (by omega) ?_
          intro g126 hg126
          try simp only [Int.toNat_natCast]
          refine Sch.free rfl ?_
          refine aN (by kernel_rfl : opAt F45.o22 16 = some (none, .store 3 (.tmp 126) (.tmp 125), none)) rfl (a_storeO hV hg126 (by omega) rfl rfl (by kernel_rfl) (rv_int.2 rfl)) ?_
          rintro _ w18 ⟨rfl, hs, hV⟩
          refine ⟨trivial, ?_⟩
          replace hF := hF.st hs
          replace hT := hT.trans hs (by simp)
          replace hw := hw.st hs (by first | decide | (simp <;> omega))
          replace hsb := hsb.st hs (by first | decide | (simp <;> omega))
          replace hu := hu.st hs (by first | decide | (simp <;> omega))
          replace hv := hv.st hs (by first | decide | (simp <;> omega))
          replace hg := hg.st hs (by first | decide | (simp <;> omega))
          replace hU := hU.st hs (by first | decide | (simp <;> omega)) (by first | decide | (simp <;> omega))
          replace hE := hE.st hs (by first | decide | (simp <;> omega)) (by first | decide | (simp <;> omega))
          replace h123 := h123.st hs (by first | decide | (simp <;> omega))
          refine Sch.nil ?_
          have hnl : (Vl.set p ((pV vl sh) p)).length = m := by rw [List.length_set]; exact hVl
          have hnv : (Vl.set p ((pV vl sh) p))[p]'(by omega) = (pV vl sh) p := List.getElem_set_self _
          refine run_draw2 (id := 23) (ops := F45.o23) [2] (C1) [0, 1, 2, 4, 5, 6, 8] 3 [(7, false), (9, true), (10, true), (11, true), (12, true), (13, true), (14, false)] 7 [(9, true), (10, true), (3, false), (11, true), (12, true), (13, true), (14, false)] Try_mixed (by kernel_rfl) (by kernel_rfl) (by kernel_rfl) ?_ ?_
          · skip
            intro w19 hs
            replace hF := hF.st hs
            replace hT := hT.trans hs (by simp)
            replace hw := hw.st hs (by first | decide | (simp <;> omega))
            replace hsb := hsb.st hs (by first | decide | (simp <;> omega))
            replace hu := hu.st hs (by first | decide | (simp <;> omega))
            replace hv := hv.st hs (by first | decide | (simp <;> omega))
            replace hg := hg.st hs (by first | decide | (simp <;> omega))
            replace hU := hU.st hs (by first | decide | (simp <;> omega)) (by first | decide | (simp <;> omega))
            replace hV := hV.st hs (by first | decide | (simp <;> omega)) (by first | decide | (simp <;> omega))
            replace hE := hE.st hs (by first | decide | (simp <;> omega)) (by first | decide | (simp <;> omega))
            replace h123 := h123.st hs (by first | decide | (simp <;> omega))
            show Sch _ _ _ _ _ _ _ [(0, true), (1, true), (2, true), (4, true), (5, true), (6, true), (8, true), (3, false), (7, false), (9, true), (10, true), (11, true), (12, true), (13, true), (14, false)] _ _
            have hR := Stp.refl [2] w19 (C1)
            refine yS (by kernel_rfl : opAt F45.o23 0 = some (some 127, .move (.tmp 7), none)) rfl rfl (fun w' hS => val_move rfl) ?_
            refine yS (by kernel_rfl : opAt F45.o23 1 = some (some 128, .nilCheck (.tmp 127), none)) rfl rfl (fun w' hS => val_nilCheck rfl) ?_
            refine yS (by kernel_rfl : opAt F45.o23 2 = some (some 129, .fieldAddr 69 (.tmp 128) 4, none)) rfl rfl (fun w' hS => val_fieldAddr (off := 4) (by kernel_rfl) rfl) ?_
            refine yS (by kernel_rfl : opAt F45.o23 4 = some (some 131, .move (.tmp 7), none)) rfl rfl (fun w' hS => val_move rfl) ?_
            refine yS (by kernel_rfl : opAt F45.o23 5 = some (some 132, .nilCheck (.tmp 131), none)) rfl rfl (fun w' hS => val_nilCheck rfl) ?_
            refine yS (by kernel_rfl : opAt F45.o23 6 = some (some 133, .fieldAddr 69 (.tmp 132) 3, none)) rfl rfl (fun w' hS => val_fieldAddr (off := 3) (by kernel_rfl) rfl) ?_
            refine yS (by kernel_rfl : opAt F45.o23 8 = some (some 135, .move (.tmp 14), none)) rfl rfl (fun w' hS => val_move rfl) ?_
            refine nS (by kernel_rfl : opAt F45.o23 3 = some (some 130, .load 3 (.tmp 129), none)) rfl rfl hR.ext (val_loadOwn hg.at_ (by kernel_rfl) rfl rfl) ?_
            refine nS (by kernel_rfl : opAt F45.o23 7 = some (some 134, .load 22 (.tmp 133), none)) rfl rfl hR.ext (val_loadOwn hg.at_ (by kernel_rfl) rfl rfl) ?_
            refine oI (e' := 3) (by kernel_rfl : opAt F45.o23 9 = some (some 136, .indexAddr 22 (.tmp 134) (.tmp 135), none)) rfl rfl hV rfl (by kernel_rfl) rfl (by omega) (by omega) ?_
            intro g136 hg136
            try simp only [Int.toNat_natCast]
            refine oS (I := [2]) (by kernel_rfl : opAt F45.o23 10 = some (some 137, .load 3 (.tmp 136), none)) rfl rfl hV hg136 (fun w' hS => hV.stay hg136 hS (by first | decide | (simp <;> omega))) (by omega) (by kernel_rfl) rfl rfl ?_
            intro v137 g137
            try simp only [Int.toNat_natCast] at g137
            first | (obtain rfl := rv_nat.1 g137) | (obtain rfl := rv_int.1 g137)
            rw [hnv]
            refine yS (by kernel_rfl : opAt F45.o23 11 = some (some 138, .binOp .add 3 (.tmp 130) (.tmp 137) 3, none)) rfl rfl (fun w' hS => val_addi rfl rfl (by omega) (by omega)) ?_
            refine yS (by kernel_rfl : opAt F45.o23 12 = some (some 139, .nilCheck (.tmp 127), none)) rfl rfl (fun w' hS => val_nilCheck rfl) ?_
            refine yS (by kernel_rfl : opAt F45.o23 13 = some (some 140, .fieldAddr 69 (.tmp 139) 4, none)) rfl rfl (fun w' hS => val_fieldAddr (off := 4) (by kernel_rfl) rfl) ?_
            refine Sch.free rfl ?_
            refine aN (by kernel_rfl : opAt F45.o23 14 = some (none, .store 3 (.tmp 140) (.tmp 138), none)) rfl (a_store1 rfl rfl (by kernel_rfl) rfl rfl hg (by simp)) ?_
            rintro _ w20 ⟨rfl, hs, hg⟩
            refine ⟨trivial, ?_⟩
            replace hF := hF.st hs
            replace hT := hT.trans hs (by simp)
            replace hw := hw.st hs (by first | decide | (simp <;> omega))
            replace hsb := hsb.st hs (by first | decide | (simp <;> omega))
            replace hu := hu.st hs (by first | decide | (simp <;> omega))
            replace hv := hv.st hs (by first | decide | (simp <;> omega))
            replace hU := hU.st hs (by first | decide | (simp <;> omega)) (by first | decide | (simp <;> omega))
            replace hV := hV.st hs (by first | decide | (simp <;> omega)) (by first | decide | (simp <;> omega))
            replace hE := hE.st hs (by first | decide | (simp <;> omega)) (by first | decide | (simp <;> omega))
            replace h123 := h123.st hs (by first | decide | (simp <;> omega))
            simp only [List.set_cons_succ, List.set_cons_zero] at hg
            refine Sch.nil ?_
            refine run_inBlock ?_
            refine run_plain (id := 24) (ops := F45.o24) [(0, true), (1, true)] (by kernel_rfl) (by kernel_rfl) ?_
            refine yS (by kernel_rfl : opAt F45.o24 0 = some (some 141, .binOp .add 3 (.tmp 108) (.const (.int .i64 1)) 3, none)) rfl rfl (fun w' hS => val_addi rfl rfl (by omega) (by omega)) ?_
            refine yS (by kernel_rfl : opAt F45.o24 1 = some (some 108, .move (.tmp 141), none)) rfl rfl (fun w' hS => val_move rfl) ?_
            refine Sch.nil ?_
            refine kp (sub_cons 0 rfl rfl (sub_cons 1 rfl rfl (sub_cons 7 rfl rfl (sub_cons 8 rfl rfl (sub_cons 10 rfl rfl (sub_cons 12 rfl rfl (sub_cons 107 rfl rfl (sub_cons 108 rfl (eq_int (by simp)) (sub_nil _))))))))) (next3 (p + 1, Vl.set p ((pV vl sh) p), C1) _ ⟨(by first | omega | (simp only; omega)), (by simp only [List.length_set]; exact hVl), (fun q hq => by
                simp only at hq ⊢
                show (Vl.set p _).getD q 0 = _
                rw [getD_set (by omega)]
                split
                · rename_i e; subst e; rfl
                · exact hVv q (by omega)), hF, hT, hw, hsb, hu, hv, (by simp only [sumN]; rw [← Int.add_assoc]; exact hg), hU, hV, hE⟩ (by first | omega | (simp only; omega)))
          · skip
            intro w21 hs
            replace hF := hF.st hs
            replace hT := hT.trans hs (by simp)
            replace hw := hw.st hs (by first | decide | (simp <;> omega))
            replace hsb := hsb.st hs (by first | decide | (simp <;> omega))
            replace hu := hu.st hs (by first | decide | (simp <;> omega))
            replace hv := hv.st hs (by first | decide | (simp <;> omega))
            replace hg := hg.st hs (by first | decide | (simp <;> omega))
            replace hU := hU.st hs (by first | decide | (simp <;> omega)) (by first | decide | (simp <;> omega))
            replace hV := hV.st hs (by first | decide | (simp <;> omega)) (by first | decide | (simp <;> omega))
            replace hE := hE.st hs (by first | decide | (simp <;> omega)) (by first | decide | (simp <;> omega))
            replace h123 := h123.st hs (by first | decide | (simp <;> omega))
            show Sch _ _ _ _ _ _ _ [(0, true), (1, true), (2, true), (4, true), (5, true), (6, true), (8, true), (7, false), (9, true), (10, true), (3, false), (11, true), (12, true), (13, true), (14, false)] _ _
            have hR := Stp.refl [2] w21 (C1)
            refine yS (by kernel_rfl : opAt F45.o23 0 = some (some 127, .move (.tmp 7), none)) rfl rfl (fun w' hS => val_move rfl) ?_
            refine yS (by kernel_rfl : opAt F45.o23 1 = some (some 128, .nilCheck (.tmp 127), none)) rfl rfl (fun w' hS => val_nilCheck rfl) ?_
            refine yS (by kernel_rfl : opAt F45.o23 2 = some (some 129, .fieldAddr 69 (.tmp 128) 4, none)) rfl rfl (fun w' hS => val_fieldAddr (off := 4) (by kernel_rfl) rfl) ?_
            refine yS (by kernel_rfl : opAt F45.o23 4 = some (some 131, .move (.tmp 7), none)) rfl rfl (fun w' hS => val_move rfl) ?_
            refine yS (by kernel_rfl : opAt F45.o23 5 = some (some 132, .nilCheck (.tmp 131), none)) rfl rfl (fun w' hS => val_nilCheck rfl) ?_
            refine yS (by kernel_rfl : opAt F45.o23 6 = some (some 133, .fieldAddr 69 (.tmp 132) 3, none)) rfl rfl (fun w' hS => val_fieldAddr (off := 3) (by kernel_rfl) rfl) ?_
            refine yS (by kernel_rfl : opAt F45.o23 8 = some (some 135, .move (.tmp 14), none)) rfl rfl (fun w' hS => val_move rfl) ?_
            refine nS (by kernel_rfl : opAt F45.o23 7 = some (some 134, .load 22 (.tmp 133), none)) rfl rfl hR.ext (val_loadOwn hg.at_ (by kernel_rfl) rfl rfl) ?_
            refine oI (e' := 3) (by kernel_rfl : opAt F45.o23 9 = some (some 136, .indexAddr 22 (.tmp 134) (.tmp 135), none)) rfl rfl hV rfl (by kernel_rfl) rfl (by omega) (by omega) ?_
            intro g136 hg136
            try simp only [Int.toNat_natCast]
            refine oS (I := [2]) (by kernel_rfl : opAt F45.o23 10 = some (some 137, .load 3 (.tmp 136), none)) rfl rfl hV hg136 (fun w' hS => hV.stay hg136 hS (by first | decide | (simp <;> omega))) (by omega) (by kernel_rfl) rfl rfl ?_
            intro v137 g137
            try simp only [Int.toNat_natCast] at g137
            first | (obtain rfl := rv_nat.1 g137) | (obtain rfl := rv_int.1 g137)
            rw [hnv]
            refine nS (by kernel_rfl : opAt F45.o23 3 = some (some 130, .load 3 (.tmp 129), none)) rfl rfl hR.ext (val_loadOwn hg.at_ (by kernel_rfl) rfl rfl) ?_
            refine yS (by kernel_rfl : opAt F45.o23 11 = some (some 138, .binOp .add 3 (.tmp 130) (.tmp 137) 3, none)) rfl rfl (fun w' hS => val_addi rfl rfl (by omega) (by omega)) ?_
            refine yS (by kernel_rfl : opAt F45.o23 12 = some (some 139, .nilCheck (.tmp 127), none)) rfl rfl (fun w' hS => val_nilCheck rfl) ?_
            refine yS (by kernel_rfl : opAt F45.o23 13 = some (some 140, .fieldAddr 69 (.tmp 139) 4, none)) rfl rfl (fun w' hS => val_fieldAddr (off := 4) (by kernel_rfl) rfl) ?_
            refine Sch.free rfl ?_
            refine aN (by kernel_rfl : opAt F45.o23 14 = some (none, .store 3 (.tmp 140) (.tmp 138), none)) rfl (a_store1 rfl rfl (by kernel_rfl) rfl rfl hg (by simp)) ?_
            rintro _ w22 ⟨rfl, hs, hg⟩
            refine ⟨trivial, ?_⟩
            replace hF := hF.st hs
            replace hT := hT.trans hs (by simp)
            replace hw := hw.st hs (by first | decide | (simp <;> omega))
            replace hsb := hsb.st hs (by first | decide | (simp <;> omega))
            replace hu := hu.st hs (by first | decide | (simp <;> omega))
            replace hv := hv.st hs (by first | decide | (simp <;> omega))
            replace hU := hU.st hs (by first | decide | (simp <;> omega)) (by first | decide | (simp <;> omega))
            replace hV := hV.st hs (by first | decide | (simp <;> omega)) (by first | decide | (simp <;> omega))
            replace hE := hE.st hs (by first | decide | (simp <;> omega)) (by first | decide | (simp <;> omega))
            replace h123 := h123.st hs (by first | decide | (simp <;> omega))
            simp only [List.set_cons_succ, List.set_cons_zero] at hg
            refine Sch.nil ?_
            refine run_inBlock ?_
            refine run_plain (id := 24) (ops := F45.o24) [(0, true), (1, true)] (by kernel_rfl) (by kernel_rfl) ?_
            refine yS (by kernel_rfl : opAt F45.o24 0 = some (some 141, .binOp .add 3 (.tmp 108) (.const (.int .i64 1)) 3, none)) rfl rfl (fun w' hS => val_addi rfl rfl (by omega) (by omega)) ?_
            refine yS (by kernel_rfl : opAt F45.o24 1 = some (some 108, .move (.tmp 141), none)) rfl rfl (fun w' hS => val_move rfl) ?_
            refine Sch.nil ?_
            refine kp (sub_cons 0 rfl rfl (sub_cons 1 rfl rfl (sub_cons 7 rfl rfl (sub_cons 8 rfl rfl (sub_cons 10 rfl rfl (sub_cons 12 rfl rfl (sub_cons 107 rfl rfl (sub_cons 108 rfl (eq_int (by simp)) (sub_nil _))))))))) (next3 (p + 1, Vl.set p ((pV vl sh) p), C1) _ ⟨(by first | omega | (simp only; omega)), (by simp only [List.length_set]; exact hVl), (fun q hq => by
                simp only at hq ⊢
                show (Vl.set p _).getD q 0 = _
                rw [getD_set (by omega)]
                split
                · rename_i e; subst e; rfl
                · exact hVv q (by omega)), hF, hT, hw, hsb, hu, hv, (by simp only [sumN]; rw [← Int.add_assoc]; exact hg), hU, hV, hE⟩ (by first | omega | (simp only; omega)))
        · skip
          obtain rfl : m = p := by omega
          have hVv2 := hVv
          refine run_exit (id := 4) (by kernel_rfl) rfl ?_
          refine run_seq (x := F45.c74) (y := F45.c107) (by kernel_rfl) ?_
          refine run_seq (x := F45.c75) (y := F45.c76) (by kernel_rfl) ?_
          refine run_plain (id := 25) (ops := F45.o25) [(0, true), (1, true)] (by kernel_rfl) (by kernel_rfl) ?_
          refine yS (by kernel_rfl : opAt F45.o25 0 = some (some 142, .move (.tmp 0), none)) rfl rfl (fun w' hS => val_move rfl) ?_
          refine yS (by kernel_rfl : opAt F45.o25 1 = some (some 143, .move (.const (.int .i64 0)), none)) rfl rfl (fun w' hS => val_move rfl) ?_
          refine Sch.nil ?_
          refine run_block (x := F45.c77) (id := 6) (by kernel_rfl) ?_
          
          refine run_loop (ι := Nat × (Nat → Value) × (Nat → Nat)) (I := fun x w => x.1 ≤ n ∧ Lim w x.2.2 ∧ Stp [2, 3, 4, 5, 6, 7, 8, 9, 10, 11, 12, 13, 14, 15, 16] w₀ (col1 C) w x.2.2 ∧ RV w (Mc x.2.2) (wmL n m wt) xw ∧ OwnB w x.2.2 2 bw2 (.cells [.int .i64 n, .int .i64 m, xU, xV, .int .i64 (sumN n (pU ul sh) + sumN m (pV vl sh)), xE].toArray 69) ∧ OwnL w x.2.2 3 3 xU Ul ∧ OwnL w x.2.2 4 3 xV Vl ∧ OwnL w x.2.2 5 48 xE (svsF x.2.1 n) ∧ (∀ q, q < x.1 → RV w (Mc x.2.2) (erow m wt (pU ul sh) (pV vl sh) q) (x.2.1 q))) (e := fun x => [(0, .int .i64 n), (1, .int .i64 m), (7, .pointer (some ⟨bw2, 0, none⟩)), (8, xw), (142, .int .i64 n), (143, .int .i64 x.1)]) (m := fun x => n - x.1) (x₀ := (0, (fun _ => Value.slice none 0 0), C1)) (body := F45.c78) (by kernel_rfl) (sub_cons 0 rfl rfl (sub_cons 1 rfl rfl (sub_cons 7 rfl rfl (sub_cons 8 rfl rfl (sub_cons 142 rfl rfl (sub_cons 143 rfl rfl (sub_nil _))))))) ?_ ?_
          · exact ⟨Nat.zero_le _, hF, hT, hw, hg, hU, hV, hE, fun q hq => by simp only at hq; omega⟩
          intro ⟨p, vf, C1⟩ w23 hI next
          obtain ⟨hp, hF, hT, hw, hg, hU, hV, hE, hrows⟩ := hI
          try simp only at hp hF hT hw hg hU hV hE hrows
          have next4 := next
          clear next
          show Run _ _ _ _ [(0, .int .i64 n), (1, .int .i64 m), (7, .pointer (some ⟨bw2, 0, none⟩)), (8, xw), (142, .int .i64 n), (143, .int .i64 p)] _ _
          have hsl := svsF_len vf n
          refine run_seq (x := F45.c79) (y := F45.c80) (by kernel_rfl) ?_
          refine run_plain (id := 26) (ops := F45.o26) [(0, true)] (by kernel_rfl) (by kernel_rfl) ?_
          refine yS (by kernel_rfl : opAt F45.o26 0 = some (some 144, .binOp .lss 3 (.tmp 143) (.tmp 142) 3, none)) rfl rfl (fun w' hS => val_lss rfl rfl) ?_
          refine Sch.nil ?_
          refine run_seq (x := F45.c81) (y := F45.c84) (by kernel_rfl) ?_
          refine run_if (x := F45.c82) (y := F45.c83) (o := .tmp 144) (by kernel_rfl) rfl (fun h144 => ?_) (fun h144 => ?_)
          · skip
            have hpl : p < n := by omega
            refine run_skip (by kernel_rfl) ?_
            refine run_seq (x := F45.c85) (y := F45.c106) (by kernel_rfl) ?_
            refine run_block (x := F45.c86) (id := 7) (by kernel_rfl) ?_
            refine run_seq (x := F45.c87) (y := F45.c88) (by kernel_rfl) ?_
            refine run_plain (id := 27) (ops := F45.o27) [(0, true), (1, true)] (by kernel_rfl) (by kernel_rfl) ?_
            refine yS (by kernel_rfl : opAt F45.o27 0 = some (some 145, .move (.tmp 143), none)) rfl rfl (fun w' hS => val_move rfl) ?_
            refine yS (by kernel_rfl : opAt F45.o27 1 = some (some 15, .assign (.tmp 145), none)) rfl rfl (fun w' hS => val_assign rfl) ?_
            refine Sch.nil ?_
            refine run_seq (x := F45.c89) (y := F45.c90) (by kernel_rfl) ?_
            refine run_draw (id := 28) (ops := F45.o28) [5] (C1) [(0, true), (1, true), (2, true), (3, true), (4, true), (5, true), (6, false), (7, true), (8, false)] Try_mixed (by kernel_rfl) (by kernel_rfl) (by kernel_rfl) ?_
            intro w24 hs
            replace hF := hF.st hs
            replace hT := hT.trans hs (by simp)
            replace hw := hw.st hs (by first | decide | (simp <;> omega))
            replace hg := hg.st hs (by first | decide | (simp <;> omega))
            replace hU := hU.st hs (by first | decide | (simp <;> omega)) (by first | decide | (simp <;> omega))
            replace hV := hV.st hs (by first | decide | (simp <;> omega)) (by first | decide | (simp <;> omega))
            replace hE := hE.st hs (by first | decide | (simp <;> omega)) (by first | decide | (simp <;> omega))
            replace hrows := fun k hk => (hrows k hk).st hs (by first | decide | (simp <;> omega))
            have hR := Stp.refl [5] w24 (C1)
            refine yS (by kernel_rfl : opAt F45.o28 0 = some (some 146, .move (.tmp 7), none)) rfl rfl (fun w' hS => val_move rfl) ?_
            refine yS (by kernel_rfl : opAt F45.o28 1 = some (some 147, .nilCheck (.tmp 146), none)) rfl rfl (fun w' hS => val_nilCheck rfl) ?_
            refine yS (by kernel_rfl : opAt F45.o28 2 = some (some 148, .fieldAddr 69 (.tmp 147) 5, none)) rfl rfl (fun w' hS => val_fieldAddr (off := 5) (by kernel_rfl) rfl) ?_
            refine yS (by kernel_rfl : opAt F45.o28 3 = some (some 149, .load 67 (.tmp 148), none)) rfl rfl (fun w' hS => val_loadOwn (hg.stay hS (by decide)) (by kernel_rfl) rfl rfl) ?_
            refine yS (by kernel_rfl : opAt F45.o28 4 = some (some 150, .move (.tmp 15), none)) rfl rfl (fun w' hS => val_move rfl) ?_
            refine yS (by kernel_rfl : opAt F45.o28 5 = some (some 151, .move (.tmp 1), none)) rfl rfl (fun w' hS => val_move rfl) ?_
            refine aS (by kernel_rfl : opAt F45.o28 6 = some (some 152, .makeSlice 48 (.tmp 151) (.tmp 151), none)) rfl rfl (a_make (e := 4) (bytes := 1) (x0 := false) (zs := [.bool false]) hF (j := 6) (by decide) (by kernel_rfl) (by kernel_rfl) rfl rfl (by omega) (by omega) (by omega) (fun h M => rfl)) ?_
            rintro v152 w25 ⟨Cw25, hs, hb, hF⟩
            refine ⟨(hR.trans hs (by simp)).ext, ?_⟩
            replace hT := hT.trans hs (by simp)
            replace hw := hw.st hs (by first | decide | (simp <;> omega))
            replace hg := hg.st hs (by first | decide | (simp <;> omega))
            replace hU := hU.st hs (by first | decide | (simp <;> omega)) (by first | decide | (simp <;> omega))
            replace hV := hV.st hs (by first | decide | (simp <;> omega)) (by first | decide | (simp <;> omega))
            replace hE := hE.st hs (by first | decide | (simp <;> omega)) (by first | decide | (simp <;> omega))
            replace hrows := fun k hk => (hrows k hk).st hs (by first | decide | (simp <;> omega))
            replace hR := hR.trans hs (by simp)
            refine oI (e' := 48) (by kernel_rfl : opAt F45.o28 7 = some (some 153, .indexAddr 67 (.tmp 149) (.tmp 150), none)) rfl rfl hE rfl (by kernel_rfl) rfl (by omega) (by omega) ?_
            intro g153 hg153
            try simp only [Int.toNat_natCast]
            refine Sch.free rfl ?_
            refine aN (by kernel_rfl : opAt F45.o28 8 = some (none, .store 48 (.tmp 153) (.tmp 152), none)) rfl (a_storeO hE hg153 (by omega) rfl rfl (by kernel_rfl) (rv_sv.2 ⟨rfl, hb.one.2⟩)) ?_
            rintro _ w26 ⟨rfl, hs, hE⟩
            refine ⟨trivial, ?_⟩
            replace hF := hF.st hs
            replace hT := hT.trans hs (by simp)
            replace hw := hw.st hs (by first | decide | (simp <;> omega))
            replace hg := hg.st hs (by first | decide | (simp <;> omega))
            replace hU := hU.st hs (by first | decide | (simp <;> omega)) (by first | decide | (simp <;> omega))
            replace hV := hV.st hs (by first | decide | (simp <;> omega)) (by first | decide | (simp <;> omega))
            replace hrows := fun k hk => (hrows k hk).st hs (by first | decide | (simp <;> omega))
            replace hb := hb.st hs (by first | decide | (simp <;> omega)) (by first | decide | (simp <;> omega))
            refine Sch.nil ?_
            rw [svsF_set] at hE
            have hsl2 := svsF_len (updV vf p v152) n
            have hvi : updV vf p v152 p = v152 := by simp [updV]
            replace hrows : ∀ q, q < p → RV _ _ (erow m wt (pU ul sh) (pV vl sh) q) (updV vf p v152 q) := fun q hq => by rw [show updV vf p v152 q = vf q from by simp [updV]; omega]; exact hrows q hq
            obtain ⟨vg, hvg⟩ : ∃ f, f = updV vf p v152 := ⟨_, rfl⟩
            rw [← hvg] at hE hrows hsl2 hvi
            refine run_seq (x := F45.c91) (y := F45.c92) (by kernel_rfl) ?_
            refine run_plain (id := 29) (ops := F45.o29) [(0, true), (1, true)] (by kernel_rfl) (by kernel_rfl) ?_
            refine yS (by kernel_rfl : opAt F45.o29 0 = some (some 154, .move (.tmp 1), none)) rfl rfl (fun w' hS => val_move rfl) ?_
            refine yS (by kernel_rfl : opAt F45.o29 1 = some (some 155, .move (.const (.int .i64 0)), none)) rfl rfl (fun w' hS => val_move rfl) ?_
            refine Sch.nil ?_
            refine run_block (x := F45.c93) (id := 8) (by kernel_rfl) ?_
            
            refine run_loop (ι := Nat × (List Bool) × (Nat → Nat)) (I := fun x w => x.1 ≤ m ∧ x.2.1.length = m ∧ (∀ q (hq : q < x.2.1.length), q < x.1 → x.2.1[q] = edgeB wt (pU ul sh) (pV vl sh) p q) ∧ Lim w x.2.2 ∧ Stp [2, 3, 4, 5, 6, 7, 8, 9, 10, 11, 12, 13, 14, 15, 16] w₀ (col1 C) w x.2.2 ∧ RV w (Mc x.2.2) (wmL n m wt) xw ∧ OwnB w x.2.2 2 bw2 (.cells [.int .i64 n, .int .i64 m, xU, xV, .int .i64 (sumN n (pU ul sh) + sumN m (pV vl sh)), xE].toArray 69) ∧ OwnL w x.2.2 3 3 xU Ul ∧ OwnL w x.2.2 4 3 xV Vl ∧ OwnL w x.2.2 5 48 xE (svsF vg n) ∧ (∀ q, q < p → RV w (Mc x.2.2) (erow m wt (pU ul sh) (pV vl sh) q) (vg q)) ∧ OwnL w x.2.2 6 4 v152 x.2.1) (e := fun x => [(0, .int .i64 n), (1, .int .i64 m), (7, .pointer (some ⟨bw2, 0, none⟩)), (8, xw), (15, .int .i64 p), (142, .int .i64 n), (143, .int .i64 p), (154, .int .i64 m), (155, .int .i64 x.1)]) (m := fun x => m - x.1) (x₀ := (0, List.replicate m false, Cw25)) (body := F45.c94) (by kernel_rfl) (sub_cons 0 rfl rfl (sub_cons 1 rfl rfl (sub_cons 7 rfl rfl (sub_cons 8 rfl rfl (sub_cons 15 rfl rfl (sub_cons 142 rfl rfl (sub_cons 143 rfl rfl (sub_cons 154 rfl rfl (sub_cons 155 rfl rfl (sub_nil _)))))))))) ?_ ?_
            · exact ⟨Nat.zero_le _, (by simp only; exact List.length_replicate), (fun q hq h => by simp only at h; omega), hF, hT, hw, hg, hU, hV, hE, hrows, hb⟩
            intro ⟨j, bs, C1⟩ w27 hI next
            obtain ⟨hj, hbl, hbv, hF, hT, hw, hg, hU, hV, hE, hrows, hb⟩ := hI
            try simp only at hj hbl hbv hF hT hw hg hU hV hE hrows hb
            have next5 := next
            clear next
            show Run _ _ _ _ [(0, .int .i64 n), (1, .int .i64 m), (7, .pointer (some ⟨bw2, 0, none⟩)), (8, xw), (15, .int .i64 p), (142, .int .i64 n), (143, .int .i64 p), (154, .int .i64 m), (155, .int .i64 j)] _ _
            refine run_seq (x := F45.c95) (y := F45.c96) (by kernel_rfl) ?_
            refine run_plain (id := 30) (ops := F45.o30) [(0, true)] (by kernel_rfl) (by kernel_rfl) ?_
            refine yS (by kernel_rfl : opAt F45.o30 0 = some (some 156, .binOp .lss 3 (.tmp 155) (.tmp 154) 3, none)) rfl rfl (fun w' hS => val_lss rfl rfl) ?_
            refine Sch.nil ?_
            refine run_seq (x := F45.c97) (y := F45.c100) (by kernel_rfl) ?_
            refine run_if (x := F45.c98) (y := F45.c99) (o := .tmp 156) (by kernel_rfl) rfl (fun h156 => ?_) (fun h156 => ?_)
            · skip
              have hjl : j < m := by omega
              have hwr : (wmL n m wt)[p]'(by omega) = rowW n m wt p := wmL_get _
              have hwrl := rowW_len (n := n) (m := m) (wt := wt) p
              have hwx : (rowW n m wt p)[j]'(by omega) = pos wt p j := by rw [rowW_get]; unfold padW; rw [if_pos ⟨hpl, hjl⟩]
              have hux : Ul[p]'(by omega) = (pU ul sh) p := by rw [← hUv2 p hpl]; exact (getD_in _).symm
              have hvx : Vl[j]'(by omega) = (pV vl sh) j := by rw [← hVv2 j hjl]; exact (getD_in _).symm
              have hup := hub p (by omega)
              have hvp := hvb j (by omega)
              have hu0 : pU ul sh p = -(gI ul (p + 1)) - sh := rfl
              have hv0 : pV vl sh j = sh - gI vl (j + 1) := rfl
              refine run_skip (by kernel_rfl) ?_
              refine run_seq (x := F45.c101) (y := F45.c105) (by kernel_rfl) ?_
              refine run_block (x := F45.c102) (id := 9) (by kernel_rfl) ?_
              refine run_seq (x := F45.c103) (y := F45.c104) (by kernel_rfl) ?_
              refine run_plain (id := 31) (ops := F45.o31) [(0, true), (1, true)] (by kernel_rfl) (by kernel_rfl) ?_
              refine yS (by kernel_rfl : opAt F45.o31 0 = some (some 157, .move (.tmp 155), none)) rfl rfl (fun w' hS => val_move rfl) ?_
              refine yS (by kernel_rfl : opAt F45.o31 1 = some (some 16, .assign (.tmp 157), none)) rfl rfl (fun w' hS => val_assign rfl) ?_
              refine Sch.nil ?_
              by_cases hA : 0 < pos wt p j
              · skip
                refine run_draw (id := 32) (ops := F45.o32) [6] (C1) [(0, true), (1, true), (2, true), (3, true), (4, true), (5, true), (6, true), (7, true), (8, true), (9, true), (10, true), (11, true), (12, true), (13, true), (14, true), (15, true), (16, true), (17, true), (18, true), (19, true), (20, true), (21, true), (22, true), (23, true), (24, true), (25, true), (26, true), (27, true), (28, true), (29, true), (30, true), (31, true), (32, true), (33, true), (34, true), (35, true), (36, true), (37, true), (38, true), (39, true), (40, true), (41, true), (42, false)] Try_mixed (by kernel_rfl) (by kernel_rfl) (by kernel_rfl) ?_
                intro w28 hs
                replace hF := hF.st hs
                replace hT := hT.trans hs (by simp)
                replace hw := hw.st hs (by first | decide | (simp <;> omega))
                replace hg := hg.st hs (by first | decide | (simp <;> omega))
                replace hU := hU.st hs (by first | decide | (simp <;> omega)) (by first | decide | (simp <;> omega))
                replace hV := hV.st hs (by first | decide | (simp <;> omega)) (by first | decide | (simp <;> omega))
                replace hE := hE.st hs (by first | decide | (simp <;> omega)) (by first | decide | (simp <;> omega))
                replace hrows := fun k hk => (hrows k hk).st hs (by first | decide | (simp <;> omega))
                replace hb := hb.st hs (by first | decide | (simp <;> omega)) (by first | decide | (simp <;> omega))
                have hR := Stp.refl [6] w28 (C1)
                refine yS (by kernel_rfl : opAt F45.o32 0 = some (some 158, .move (.tmp 7), none)) rfl rfl (fun w' hS => val_move rfl) ?_
                refine yS (by kernel_rfl : opAt F45.o32 1 = some (some 159, .nilCheck (.tmp 158), none)) rfl rfl (fun w' hS => val_nilCheck rfl) ?_
                refine yS (by kernel_rfl : opAt F45.o32 2 = some (some 160, .fieldAddr 69 (.tmp 159) 5, none)) rfl rfl (fun w' hS => val_fieldAddr (off := 5) (by kernel_rfl) rfl) ?_
                refine yS (by kernel_rfl : opAt F45.o32 3 = some (some 161, .load 67 (.tmp 160), none)) rfl rfl (fun w' hS => val_loadOwn (hg.stay hS (by decide)) (by kernel_rfl) rfl rfl) ?_
                refine yS (by kernel_rfl : opAt F45.o32 4 = some (some 162, .move (.tmp 15), none)) rfl rfl (fun w' hS => val_move rfl) ?_
                refine oI (e' := 48) (by kernel_rfl : opAt F45.o32 5 = some (some 163, .indexAddr 67 (.tmp 161) (.tmp 162), none)) rfl rfl hE rfl (by kernel_rfl) rfl (by omega) (by omega) ?_
                intro g163 hg163
                try simp only [Int.toNat_natCast]
                refine oS (I := [6]) (by kernel_rfl : opAt F45.o32 6 = some (some 164, .load 48 (.tmp 163), none)) rfl rfl hE hg163 (fun w' hS => hE.stay hg163 hS (by first | decide | (simp <;> omega))) (by omega) (by kernel_rfl) rfl rfl ?_
                intro v164 g164
                try simp only [Int.toNat_natCast] at g164
                obtain ⟨e164, _⟩ := rv_sv.1 g164
                rw [svsF_get, hvi] at e164
                subst e164
                refine yS (by kernel_rfl : opAt F45.o32 7 = some (some 165, .move (.tmp 16), none)) rfl rfl (fun w' hS => val_move rfl) ?_
                refine yS (by kernel_rfl : opAt F45.o32 8 = some (some 166, .move (.tmp 8), none)) rfl rfl (fun w' hS => val_move rfl) ?_
                refine yS (by kernel_rfl : opAt F45.o32 9 = some (some 167, .move (.tmp 15), none)) rfl rfl (fun w' hS => val_move rfl) ?_
                refine iS (e := 22) (by kernel_rfl : opAt F45.o32 10 = some (some 168, .indexAddr 70 (.tmp 166) (.tmp 167), none)) rfl rfl hw rfl (by kernel_rfl) rfl (by omega) (by omega) ?_
                intro b168 o168 h168
                try simp only [Int.toNat_natCast] at h168
                refine lS (by kernel_rfl : opAt F45.o32 11 = some (some 169, .load 22 (.tmp 168), none)) rfl rfl (fun w' hS => h168.stay hS (by first | decide | (simp <;> omega))) h168 (by kernel_rfl) rfl rfl ?_
                intro v169 g169
                rw [hwr] at g169
                refine yS (by kernel_rfl : opAt F45.o32 12 = some (some 170, .move (.tmp 16), none)) rfl rfl (fun w' hS => val_move rfl) ?_
                refine iS (e := 3) (by kernel_rfl : opAt F45.o32 13 = some (some 171, .indexAddr 22 (.tmp 169) (.tmp 170), none)) rfl rfl g169 rfl (by kernel_rfl) rfl (by omega) (by omega) ?_
                intro b171 o171 h171
                try simp only [Int.toNat_natCast] at h171
                refine lS (by kernel_rfl : opAt F45.o32 14 = some (some 172, .load 3 (.tmp 171), none)) rfl rfl (fun w' hS => h171.stay hS (by first | decide | (simp <;> omega))) h171 (by kernel_rfl) rfl rfl ?_
                intro v172 g172
                first | (obtain rfl := rv_nat.1 g172) | (obtain rfl := rv_int.1 g172)
                rw [hwx]
                refine yS (by kernel_rfl : opAt F45.o32 15 = some (some 173, .binOp .gtr 3 (.tmp 172) (.const (.int .i64 0)) 3, none)) rfl rfl (fun w' hS => val_T (val_gtr rfl rfl) hA) ?_
                refine yS (by kernel_rfl : opAt F45.o32 16 = some (some 174, .move (.tmp 173), none)) rfl rfl (fun w' hS => val_move rfl) ?_
                refine yS (by kernel_rfl : opAt F45.o32 17 = some (some 175, .move (.tmp 8), (some (16, true)))) rfl rfl (fun w' hS => val_move rfl) ?_
                refine yS (by kernel_rfl : opAt F45.o32 18 = some (some 176, .move (.tmp 15), (some (16, true)))) rfl rfl (fun w' hS => val_move rfl) ?_
                refine iS (e := 22) (by kernel_rfl : opAt F45.o32 19 = some (some 177, .indexAddr 70 (.tmp 175) (.tmp 176), (some (16, true)))) rfl rfl hw rfl (by kernel_rfl) rfl (by omega) (by omega) ?_
                intro b177 o177 h177
                try simp only [Int.toNat_natCast] at h177
                refine lS (by kernel_rfl : opAt F45.o32 20 = some (some 178, .load 22 (.tmp 177), (some (16, true)))) rfl rfl (fun w' hS => h177.stay hS (by first | decide | (simp <;> omega))) h177 (by kernel_rfl) rfl rfl ?_
                intro v178 g178
                rw [hwr] at g178
                refine yS (by kernel_rfl : opAt F45.o32 21 = some (some 179, .move (.tmp 16), (some (16, true)))) rfl rfl (fun w' hS => val_move rfl) ?_
                refine iS (e := 3) (by kernel_rfl : opAt F45.o32 22 = some (some 180, .indexAddr 22 (.tmp 178) (.tmp 179), (some (16, true)))) rfl rfl g178 rfl (by kernel_rfl) rfl (by omega) (by omega) ?_
                intro b180 o180 h180
                try simp only [Int.toNat_natCast] at h180
                refine lS (by kernel_rfl : opAt F45.o32 23 = some (some 181, .load 3 (.tmp 180), (some (16, true)))) rfl rfl (fun w' hS => h180.stay hS (by first | decide | (simp <;> omega))) h180 (by kernel_rfl) rfl rfl ?_
                intro v181 g181
                first | (obtain rfl := rv_nat.1 g181) | (obtain rfl := rv_int.1 g181)
                rw [hwx]
                refine yS (by kernel_rfl : opAt F45.o32 24 = some (some 182, .move (.tmp 7), (some (16, true)))) rfl rfl (fun w' hS => val_move rfl) ?_
                refine yS (by kernel_rfl : opAt F45.o32 25 = some (some 183, .nilCheck (.tmp 182), (some (16, true)))) rfl rfl (fun w' hS => val_nilCheck rfl) ?_
                refine yS (by kernel_rfl : opAt F45.o32 26 = some (some 184, .fieldAddr 69 (.tmp 183) 2, (some (16, true)))) rfl rfl (fun w' hS => val_fieldAddr (off := 2) (by kernel_rfl) rfl) ?_
                refine yS (by kernel_rfl : opAt F45.o32 27 = some (some 185, .load 22 (.tmp 184), (some (16, true)))) rfl rfl (fun w' hS => val_loadOwn (hg.stay hS (by decide)) (by kernel_rfl) rfl rfl) ?_
                refine yS (by kernel_rfl : opAt F45.o32 28 = some (some 186, .move (.tmp 15), (some (16, true)))) rfl rfl (fun w' hS => val_move rfl) ?_
                refine oI (e' := 3) (by kernel_rfl : opAt F45.o32 29 = some (some 187, .indexAddr 22 (.tmp 185) (.tmp 186), (some (16, true)))) rfl rfl hU rfl (by kernel_rfl) rfl (by omega) (by omega) ?_
                intro g187 hg187
                try simp only [Int.toNat_natCast]
                refine oS (I := [6]) (by kernel_rfl : opAt F45.o32 30 = some (some 188, .load 3 (.tmp 187), (some (16, true)))) rfl rfl hU hg187 (fun w' hS => hU.stay hg187 hS (by first | decide | (simp <;> omega))) (by omega) (by kernel_rfl) rfl rfl ?_
                intro v188 g188
                try simp only [Int.toNat_natCast] at g188
                first | (obtain rfl := rv_nat.1 g188) | (obtain rfl := rv_int.1 g188)
                rw [hux]
                refine yS (by kernel_rfl : opAt F45.o32 31 = some (some 189, .move (.tmp 7), (some (16, true)))) rfl rfl (fun w' hS => val_move rfl) ?_
                refine yS (by kernel_rfl : opAt F45.o32 32 = some (some 190, .nilCheck (.tmp 189), (some (16, true)))) rfl rfl (fun w' hS => val_nilCheck rfl) ?_
                refine yS (by kernel_rfl : opAt F45.o32 33 = some (some 191, .fieldAddr 69 (.tmp 190) 3, (some (16, true)))) rfl rfl (fun w' hS => val_fieldAddr (off := 3) (by kernel_rfl) rfl) ?_
                refine yS (by kernel_rfl : opAt F45.o32 34 = some (some 192, .load 22 (.tmp 191), (some (16, true)))) rfl rfl (fun w' hS => val_loadOwn (hg.stay hS (by decide)) (by kernel_rfl) rfl rfl) ?_
                refine yS (by kernel_rfl : opAt F45.o32 35 = some (some 193, .move (.tmp 16), (some (16, true)))) rfl rfl (fun w' hS => val_move rfl) ?_
                refine oI (e' := 3) (by kernel_rfl : opAt F45.o32 36 = some (some 194, .indexAddr 22 (.tmp 192) (.tmp 193), (some (16, true)))) rfl rfl hV rfl (by kernel_rfl) rfl (by omega) (by omega) ?_
                intro g194 hg194
                try simp only [Int.toNat_natCast]
                refine oS (I := [6]) (by kernel_rfl : opAt F45.o32 37 = some (some 195, .load 3 (.tmp 194), (some (16, true)))) rfl rfl hV hg194 (fun w' hS => hV.stay hg194 hS (by first | decide | (simp <;> omega))) (by omega) (by kernel_rfl) rfl rfl ?_
                intro v195 g195
                try simp only [Int.toNat_natCast] at g195
                first | (obtain rfl := rv_nat.1 g195) | (obtain rfl := rv_int.1 g195)
                rw [hvx]
                refine yS (by kernel_rfl : opAt F45.o32 38 = some (some 196, .binOp .add 3 (.tmp 188) (.tmp 195) 3, (some (16, true)))) rfl rfl (fun w' hS => val_addi rfl rfl (by omega) (by omega)) ?_
                refine yS (by kernel_rfl : opAt F45.o32 39 = some (some 197, .binOp .eql 3 (.tmp 181) (.tmp 196) 3, (some (16, true)))) rfl rfl (fun w' hS => val_eql rfl rfl) ?_
                refine yS (by kernel_rfl : opAt F45.o32 40 = some (some 198, .pick (.tmp 174) (.tmp 197) (.const (.bool false)), none)) rfl rfl (fun w' hS => val_pick_t rfl rfl) ?_
                refine oI (e' := 4) (by kernel_rfl : opAt F45.o32 41 = some (some 199, .indexAddr 48 (.tmp 164) (.tmp 165), none)) rfl rfl hb rfl (by kernel_rfl) rfl (by omega) (by omega) ?_
                intro g199 hg199
                try simp only [Int.toNat_natCast]
                refine Sch.free rfl ?_
                refine aN (by kernel_rfl : opAt F45.o32 42 = some (none, .store 4 (.tmp 199) (.tmp 198), none)) rfl (a_storeO hb hg199 (by omega) rfl rfl (by kernel_rfl) (x0 := edgeB wt (pU ul sh) (pV vl sh) p j) (rv_bool.2 (by unfold edgeB; first | rw [decide_eq_false (fun e => hA e.1)] | (congr 1; apply decide_eq_decide.2; exact ⟨fun e => ⟨hA, e⟩, fun e => e.2⟩)))) ?_
                rintro _ w29 ⟨rfl, hs, hb⟩
                refine ⟨trivial, ?_⟩
                replace hF := hF.st hs
                replace hT := hT.trans hs (by simp)
                replace hw := hw.st hs (by first | decide | (simp <;> omega))
                replace hg := hg.st hs (by first | decide | (simp <;> omega))
                replace hU := hU.st hs (by first | decide | (simp <;> omega)) (by first | decide | (simp <;> omega))
                replace hV := hV.st hs (by first | decide | (simp <;> omega)) (by first | decide | (simp <;> omega))
                replace hE := hE.st hs (by first | decide | (simp <;> omega)) (by first | decide | (simp <;> omega))
                replace hrows := fun k hk => (hrows k hk).st hs (by first | decide | (simp <;> omega))
                replace h168 := h168.st hs (by first | decide | (simp <;> omega))
                replace g169 := g169.st hs (by first | decide | (simp <;> omega))
                replace h171 := h171.st hs (by first | decide | (simp <;> omega))
                replace h177 := h177.st hs (by first | decide | (simp <;> omega))
                replace g178 := g178.st hs (by first | decide | (simp <;> omega))
                replace h180 := h180.st hs (by first | decide | (simp <;> omega))
                refine Sch.nil ?_
                refine run_inBlock ?_
                refine run_plain (id := 33) (ops := F45.o33) [(0, true), (1, true)] (by kernel_rfl) (by kernel_rfl) ?_
                refine yS (by kernel_rfl : opAt F45.o33 0 = some (some 200, .binOp .add 3 (.tmp 155) (.const (.int .i64 1)) 3, none)) rfl rfl (fun w' hS => val_addi rfl rfl (by omega) (by omega)) ?_
                refine yS (by kernel_rfl : opAt F45.o33 1 = some (some 155, .move (.tmp 200), none)) rfl rfl (fun w' hS => val_move rfl) ?_
                refine Sch.nil ?_
                refine kp (sub_cons 0 rfl rfl (sub_cons 1 rfl rfl (sub_cons 7 rfl rfl (sub_cons 8 rfl rfl (sub_cons 15 rfl rfl (sub_cons 142 rfl rfl (sub_cons 143 rfl rfl (sub_cons 154 rfl rfl (sub_cons 155 rfl (eq_int (by simp)) (sub_nil _)))))))))) (next5 (j + 1, bs.set j (edgeB wt (pU ul sh) (pV vl sh) p j), C1) _ ⟨(by first | omega | (simp only; omega)), (by simp only [List.length_set]; exact hbl), (fun q hq h => by
                    simp only at h ⊢
                    rw [List.getElem_set]
                    split
                    · rename_i e; subst e; rfl
                    · exact hbv q (by simpa using hq) (by omega)), hF, hT, hw, hg, hU, hV, hE, hrows, hb⟩ (by first | omega | (simp only; omega)))
              · skip
                refine run_draw (id := 32) (ops := F45.o32) [6] (C1) [(0, true), (1, true), (2, true), (3, true), (4, true), (5, true), (6, true), (7, true), (8, true), (9, true), (10, true), (11, true), (12, true), (13, true), (14, true), (15, true), (16, true), (17, true), (18, true), (19, true), (20, true), (21, true), (22, true), (23, true), (24, true), (25, true), (26, true), (27, true), (28, true), (29, true), (30, true), (31, true), (32, true), (33, true), (34, true), (35, true), (36, true), (37, true), (38, true), (39, true), (40, true), (41, true), (42, false)] Try_mixed (by kernel_rfl) (by kernel_rfl) (by kernel_rfl) ?_
                intro w30 hs
                replace hF := hF.st hs
                replace hT := hT.trans hs (by simp)
                replace hw := hw.st hs (by first | decide | (simp <;> omega))
                replace hg := hg.st hs (by first | decide | (simp <;> omega))
                replace hU := hU.st hs (by first | decide | (simp <;> omega)) (by first | decide | (simp <;> omega))
                replace hV := hV.st hs (by first | decide | (simp <;> omega)) (by first | decide | (simp <;> omega))
                replace hE := hE.st hs (by first | decide | (simp <;> omega)) (by first | decide | (simp <;> omega))
                replace hrows := fun k hk => (hrows k hk).st hs (by first | decide | (simp <;> omega))
                replace hb := hb.st hs (by first | decide | (simp <;> omega)) (by first | decide | (simp <;> omega))
                have hR := Stp.refl [6] w30 (C1)
                refine yS (by kernel_rfl : opAt F45.o32 0 = some (some 158, .move (.tmp 7), none)) rfl rfl (fun w' hS => val_move rfl) ?_
                refine yS (by kernel_rfl : opAt F45.o32 1 = some (some 159, .nilCheck (.tmp 158), none)) rfl rfl (fun w' hS => val_nilCheck rfl) ?_
                refine yS (by kernel_rfl : opAt F45.o32 2 = some (some 160, .fieldAddr 69 (.tmp 159) 5, none)) rfl rfl (fun w' hS => val_fieldAddr (off := 5) (by kernel_rfl) rfl) ?_
                refine yS (by kernel_rfl : opAt F45.o32 3 = some (some 161, .load 67 (.tmp 160), none)) rfl rfl (fun w' hS => val_loadOwn (hg.stay hS (by decide)) (by kernel_rfl) rfl rfl) ?_
                refine yS (by kernel_rfl : opAt F45.o32 4 = some (some 162, .move (.tmp 15), none)) rfl rfl (fun w' hS => val_move rfl) ?_
                refine oI (e' := 48) (by kernel_rfl : opAt F45.o32 5 = some (some 163, .indexAddr 67 (.tmp 161) (.tmp 162), none)) rfl rfl hE rfl (by kernel_rfl) rfl (by omega) (by omega) ?_
                intro g163 hg163
                try simp only [Int.toNat_natCast]
                refine oS (I := [6]) (by kernel_rfl : opAt F45.o32 6 = some (some 164, .load 48 (.tmp 163), none)) rfl rfl hE hg163 (fun w' hS => hE.stay hg163 hS (by first | decide | (simp <;> omega))) (by omega) (by kernel_rfl) rfl rfl ?_
                intro v164 g164
                try simp only [Int.toNat_natCast] at g164
                obtain ⟨e164, _⟩ := rv_sv.1 g164
                rw [svsF_get, hvi] at e164
                subst e164
                refine yS (by kernel_rfl : opAt F45.o32 7 = some (some 165, .move (.tmp 16), none)) rfl rfl (fun w' hS => val_move rfl) ?_
                refine yS (by kernel_rfl : opAt F45.o32 8 = some (some 166, .move (.tmp 8), none)) rfl rfl (fun w' hS => val_move rfl) ?_
                refine yS (by kernel_rfl : opAt F45.o32 9 = some (some 167, .move (.tmp 15), none)) rfl rfl (fun w' hS => val_move rfl) ?_
                refine iS (e := 22) (by kernel_rfl : opAt F45.o32 10 = some (some 168, .indexAddr 70 (.tmp 166) (.tmp 167), none)) rfl rfl hw rfl (by kernel_rfl) rfl (by omega) (by omega) ?_
                intro b168 o168 h168
                try simp only [Int.toNat_natCast] at h168
                refine lS (by kernel_rfl : opAt F45.o32 11 = some (some 169, .load 22 (.tmp 168), none)) rfl rfl (fun w' hS => h168.stay hS (by first | decide | (simp <;> omega))) h168 (by kernel_rfl) rfl rfl ?_
                intro v169 g169
                rw [hwr] at g169
                refine yS (by kernel_rfl : opAt F45.o32 12 = some (some 170, .move (.tmp 16), none)) rfl rfl (fun w' hS => val_move rfl) ?_
                refine iS (e := 3) (by kernel_rfl : opAt F45.o32 13 = some (some 171, .indexAddr 22 (.tmp 169) (.tmp 170), none)) rfl rfl g169 rfl (by kernel_rfl) rfl (by omega) (by omega) ?_
                intro b171 o171 h171
                try simp only [Int.toNat_natCast] at h171
                refine lS (by kernel_rfl : opAt F45.o32 14 = some (some 172, .load 3 (.tmp 171), none)) rfl rfl (fun w' hS => h171.stay hS (by first | decide | (simp <;> omega))) h171 (by kernel_rfl) rfl rfl ?_
                intro v172 g172
                first | (obtain rfl := rv_nat.1 g172) | (obtain rfl := rv_int.1 g172)
                rw [hwx]
                refine yS (by kernel_rfl : opAt F45.o32 15 = some (some 173, .binOp .gtr 3 (.tmp 172) (.const (.int .i64 0)) 3, none)) rfl rfl (fun w' hS => val_F (val_gtr rfl rfl) hA) ?_
                refine yS (by kernel_rfl : opAt F45.o32 16 = some (some 174, .move (.tmp 173), none)) rfl rfl (fun w' hS => val_move rfl) ?_
                refine pS (by kernel_rfl : opAt F45.o32 17 = some (some 175, .move (.tmp 8), (some (16, true)))) rfl rfl ?_
                refine pS (by kernel_rfl : opAt F45.o32 18 = some (some 176, .move (.tmp 15), (some (16, true)))) rfl rfl ?_
                refine pS (by kernel_rfl : opAt F45.o32 19 = some (some 177, .indexAddr 70 (.tmp 175) (.tmp 176), (some (16, true)))) rfl rfl ?_
                refine pS (by kernel_rfl : opAt F45.o32 20 = some (some 178, .load 22 (.tmp 177), (some (16, true)))) rfl rfl ?_
                refine pS (by kernel_rfl : opAt F45.o32 21 = some (some 179, .move (.tmp 16), (some (16, true)))) rfl rfl ?_
                refine pS (by kernel_rfl : opAt F45.o32 22 = some (some 180, .indexAddr 22 (.tmp 178) (.tmp 179), (some (16, true)))) rfl rfl ?_
                refine pS (by kernel_rfl : opAt F45.o32 23 = some (some 181, .load 3 (.tmp 180), (some (16, true)))) rfl rfl ?_
                refine pS (by kernel_rfl : opAt F45.o32 24 = some (some 182, .move (.tmp 7), (some (16, true)))) rfl rfl ?_
                refine pS (by kernel_rfl : opAt F45.o32 25 = some (some 183, .nilCheck (.tmp 182), (some (16, true)))) rfl rfl ?_
                refine pS (by kernel_rfl : opAt F45.o32 26 = some (some 184, .fieldAddr 69 (.tmp 183) 2, (some (16, true)))) rfl rfl ?_
                refine pS (by kernel_rfl : opAt F45.o32 27 = some (some 185, .load 22 (.tmp 184), (some (16, true)))) rfl rfl ?_
                refine pS (by kernel_rfl : opAt F45.o32 28 = some (some 186, .move (.tmp 15), (some (16, true)))) rfl rfl ?_
                refine pS (by kernel_rfl : opAt F45.o32 29 = some (some 187, .indexAddr 22 (.tmp 185) (.tmp 186), (some (16, true)))) rfl rfl ?_
                refine pS (by kernel_rfl : opAt F45.o32 30 = some (some 188, .load 3 (.tmp 187), (some (16, true)))) rfl rfl ?_
                refine pS (by kernel_rfl : opAt F45.o32 31 = some (some 189, .move (.tmp 7), (some (16, true)))) rfl rfl ?_
                refine pS (by kernel_rfl : opAt F45.o32 32 = some (some 190, .nilCheck (.tmp 189), (some (16, true)))) rfl rfl ?_
                refine pS (by kernel_rfl : opAt F45.o32 33 = some (some 191, .fieldAddr 69 (.tmp 190) 3, (some (16, true)))) rfl rfl ?_
                refine pS (by kernel_rfl : opAt F45.o32 34 = some (some 192, .load 22 (.tmp 191), (some (16, true)))) rfl rfl ?_
                refine pS (by kernel_rfl : opAt F45.o32 35 = some (some 193, .move (.tmp 16), (some (16, true)))) rfl rfl ?_
                refine pS (by kernel_rfl : opAt F45.o32 36 = some (some 194, .indexAddr 22 (.tmp 192) (.tmp 193), (some (16, true)))) rfl rfl ?_
                refine pS (by kernel_rfl : opAt F45.o32 37 = some (some 195, .load 3 (.tmp 194), (some (16, true)))) rfl rfl ?_
                refine pS (by kernel_rfl : opAt F45.o32 38 = some (some 196, .binOp .add 3 (.tmp 188) (.tmp 195) 3, (some (16, true)))) rfl rfl ?_
                refine pS (by kernel_rfl : opAt F45.o32 39 = some (some 197, .binOp .eql 3 (.tmp 181) (.tmp 196) 3, (some (16, true)))) rfl rfl ?_
                refine yS (by kernel_rfl : opAt F45.o32 40 = some (some 198, .pick (.tmp 174) (.tmp 197) (.const (.bool false)), none)) rfl rfl (fun w' hS => val_pick_f rfl rfl) ?_
                refine oI (e' := 4) (by kernel_rfl : opAt F45.o32 41 = some (some 199, .indexAddr 48 (.tmp 164) (.tmp 165), none)) rfl rfl hb rfl (by kernel_rfl) rfl (by omega) (by omega) ?_
                intro g199 hg199
                try simp only [Int.toNat_natCast]
                refine Sch.free rfl ?_
                refine aN (by kernel_rfl : opAt F45.o32 42 = some (none, .store 4 (.tmp 199) (.tmp 198), none)) rfl (a_storeO hb hg199 (by omega) rfl rfl (by kernel_rfl) (x0 := edgeB wt (pU ul sh) (pV vl sh) p j) (rv_bool.2 (by unfold edgeB; first | rw [decide_eq_false (fun e => hA e.1)] | (congr 1; apply decide_eq_decide.2; exact ⟨fun e => ⟨hA, e⟩, fun e => e.2⟩)))) ?_
                rintro _ w31 ⟨rfl, hs, hb⟩
                refine ⟨trivial, ?_⟩
                replace hF := hF.st hs
                replace hT := hT.trans hs (by simp)
                replace hw := hw.st hs (by first | decide | (simp <;> omega))
                replace hg := hg.st hs (by first | decide | (simp <;> omega))
                replace hU := hU.st hs (by first | decide | (simp <;> omega)) (by first | decide | (simp <;> omega))
                replace hV := hV.st hs (by first | decide | (simp <;> omega)) (by first | decide | (simp <;> omega))
                replace hE := hE.st hs (by first | decide | (simp <;> omega)) (by first | decide | (simp <;> omega))
                replace hrows := fun k hk => (hrows k hk).st hs (by first | decide | (simp <;> omega))
                replace h168 := h168.st hs (by first | decide | (simp <;> omega))
                replace g169 := g169.st hs (by first | decide | (simp <;> omega))
                replace h171 := h171.st hs (by first | decide | (simp <;> omega))
                refine Sch.nil ?_
                refine run_inBlock ?_
                refine run_plain (id := 33) (ops := F45.o33) [(0, true), (1, true)] (by kernel_rfl) (by kernel_rfl) ?_
                refine yS (by kernel_rfl : opAt F45.o33 0 = some (some 200, .binOp .add 3 (.tmp 155) (.const (.int .i64 1)) 3, none)) rfl rfl (fun w' hS => val_addi rfl rfl (by omega) (by omega)) ?_
                refine yS (by kernel_rfl : opAt F45.o33 1 = some (some 155, .move (.tmp 200), none)) rfl rfl (fun w' hS => val_move rfl) ?_
                refine Sch.nil ?_
                refine kp (sub_cons 0 rfl rfl (sub_cons 1 rfl rfl (sub_cons 7 rfl rfl (sub_cons 8 rfl rfl (sub_cons 15 rfl rfl (sub_cons 142 rfl rfl (sub_cons 143 rfl rfl (sub_cons 154 rfl rfl (sub_cons 155 rfl (eq_int (by simp)) (sub_nil _)))))))))) (next5 (j + 1, bs.set j (edgeB wt (pU ul sh) (pV vl sh) p j), C1) _ ⟨(by first | omega | (simp only; omega)), (by simp only [List.length_set]; exact hbl), (fun q hq h => by
                    simp only at h ⊢
                    rw [List.getElem_set]
                    split
                    · rename_i e; subst e; rfl
                    · exact hbv q (by simpa using hq) (by omega)), hF, hT, hw, hg, hU, hV, hE, hrows, hb⟩ (by first | omega | (simp only; omega)))
            · skip
              obtain rfl : m = j := by omega
              obtain rfl : bs = erow m wt (pU ul sh) (pV vl sh) p := List.ext_getElem (by rw [hbl, erow_len]) (fun q h1 h2 => by rw [hbv q h1 (by omega), erow_get])
              have herl := erow_len (m := m) (wt := wt) (U := (pU ul sh)) (V := (pV vl sh)) p
              replace hF := hF.frz 6
              replace hT := hT.frz (n := 6) (fun b => Nat.lt_of_lt_of_le (col1_lt2 C b) (by decide))
              replace hw := hw.frz 6
              replace hg := hg.frz (n := 6) (by decide)
              replace hU := hU.frzK (n := 6) (by decide)
              replace hV := hV.frzK (n := 6) (by decide)
              replace hE := hE.frzK (n := 6) (by decide)
              replace hrows := fun k hk => (hrows k hk).frz 6
              have hrow_ := hb.frz (n := 6) (by decide) (by omega)
              clear hb
              have hrow := hrow_
              clear hrow_
              refine run_exit (id := 8) (by kernel_rfl) rfl ?_
              refine run_inBlock ?_
              refine run_plain (id := 34) (ops := F45.o34) [(0, true), (1, true)] (by kernel_rfl) (by kernel_rfl) ?_
              refine yS (by kernel_rfl : opAt F45.o34 0 = some (some 201, .binOp .add 3 (.tmp 143) (.const (.int .i64 1)) 3, none)) rfl rfl (fun w' hS => val_addi rfl rfl (by omega) (by omega)) ?_
              refine yS (by kernel_rfl : opAt F45.o34 1 = some (some 143, .move (.tmp 201), none)) rfl rfl (fun w' hS => val_move rfl) ?_
              refine Sch.nil ?_
              refine kp (sub_cons 0 rfl rfl (sub_cons 1 rfl rfl (sub_cons 7 rfl rfl (sub_cons 8 rfl rfl (sub_cons 142 rfl rfl (sub_cons 143 rfl (eq_int (by simp)) (sub_nil _))))))) (next4 (p + 1, vg, K.frz 6 C1) _ ⟨(by first | omega | (simp only; omega)), hF, hT, hw, hg, hU, hV, hE, (fun q hq => by
                  simp only at hq ⊢
                  by_cases e : q = p
                  · subst e; rw [hvi]; exact hrow
                  · exact hrows q (by omega))⟩ (by first | omega | (simp only; omega)))
          · skip
            obtain rfl : n = p := by omega
            refine run_exit (id := 6) (by kernel_rfl) rfl ?_
            refine run_seq (x := F45.c108) (y := F45.c109) (by kernel_rfl) ?_
            refine run_plain (id := 35) (ops := F45.o35) [(0, true), (1, true)] (by kernel_rfl) (by kernel_rfl) ?_
            refine yS (by kernel_rfl : opAt F45.o35 0 = some (some 202, .move (.tmp 7), none)) rfl rfl (fun w' hS => val_move rfl) ?_
            refine yS (by kernel_rfl : opAt F45.o35 1 = some (some 6, .assign (.tmp 202), none)) rfl rfl (fun w' hS => val_assign rfl) ?_
            refine Sch.nil ?_
            refine run_ret1 (by kernel_rfl) Try.func45 Try.results45 rfl ?_
            obtain ⟨hpr, hex⟩ := hPN
            refine ⟨bw2, _, pU ul sh, pV vl sh, rfl, hT.out1 (by decide), hg.outA hT hF0 (fun b _ => col1_lt C (by decide) b) (rep_gr (x := ⟨_, _, Ul, Vl, _, edL _ _ wt (pU ul sh) (pV vl sh)⟩) (rv_int.2 rfl) (rv_int.2 rfl) (hU.out hT hF0 (Mc_col1 C) (fun b _ => col1_lt C (by decide) b) (by omega)) (hV.out hT hF0 (Mc_col1 C) (fun b _ => col1_lt C (by decide) b) (by omega)) (rv_int.2 rfl) ?_), gr_is hUl hVl hUv2 hVv2 hpr hex, give_graph hU hV hg hT (hT.out1 (by decide)) hF0 (Mc_col1 C) (fun j hj b => col1_lt C hj b) (by omega) rfl rfl⟩
            exact rv_lists (vf := vf) (by rw [edL_len]; exact hE.out hT hF0 (Mc_col1 C) (fun b _ => col1_lt C (by decide) b) (by rw [svsF_len]; omega)) (fun q hq => by rw [edL_len] at hq; rw [edL_getD hq]; exact (hrows q hq).out hT hF0 (Mc_col1 C))
    intro join64
    refine run_if (x := F45.c33) (y := F45.c34) (o := .tmp 64) (by kernel_rfl) rfl (fun h64 => ?_) (fun h64 => ?_)
    · skip
      have hk1 : 0 < k := by omega
      refine run_plain (id := 12) (ops := F45.o12) [(0, true), (1, true), (2, true), (3, false), (4, true), (5, false), (6, true)] (by kernel_rfl) (by kernel_rfl) ?_
      refine yS (by kernel_rfl : opAt F45.o12 0 = some (some 65, .move (.tmp 10), none)) rfl rfl (fun w' hS => val_move rfl) ?_
      refine yS (by kernel_rfl : opAt F45.o12 1 = some (some 66, .nilCheck (.tmp 65), none)) rfl rfl (fun w' hS => val_nilCheck rfl) ?_
      refine yS (by kernel_rfl : opAt F45.o12 2 = some (some 67, .fieldAddr 93 (.tmp 66) 2, none)) rfl rfl (fun w' hS => val_fieldAddr (off := 2) (by kernel_rfl) rfl) ?_
      refine nS (by kernel_rfl : opAt F45.o12 3 = some (some 68, .load 22 (.tmp 67), none)) rfl rfl trivial (val_loadOwn hsb.at_ (by kernel_rfl) rfl rfl) ?_
      refine sFR (e' := 3) (by kernel_rfl : opAt F45.o12 4 = some (some 69, .slice 22 (.tmp 68) (some (.const (.int .i64 1))) none none, none)) rfl rfl hv rfl (by kernel_rfl) rfl (by omega) (by omega) ?_
      intro v69 h69
      try simp only [Int.toNat_natCast] at h69
      try simp only [show (1 : Int).toNat = 1 from rfl] at h69
      refine cS (by kernel_rfl : opAt F45.o12 5 = some (some 70, .call { callee := .value (.func 58), args := #[(.tmp 69)], argTypes := #[22] }, none)) rfl rfl (ent Try.call58 rfl) (max_ok h69 (by rw [List.length_drop]; omega)) ?_
      rintro vw32 w32 ⟨sh, rfl, rfl, hz1, hz2⟩
      refine ⟨trivial, ?_⟩
      refine yS (by kernel_rfl : opAt F45.o12 6 = some (some 12, .assign (.tmp 70), none)) rfl rfl (fun w' hS => val_assign rfl) ?_
      refine Sch.nil ?_
      have hs1 : ∀ j, j < k → gI vl (j + 1) ≤ sh := fun j hj => by
        have := hz1 j (by rw [List.length_drop]; omega)
        rw [List.getElem_drop] at this
        rw [show gI vl (j + 1) = vl[j + 1]'(by omega) from getD_in _]; simpa [Nat.add_comm] using this
      have hs2 : 0 < k → ∃ j, j < k ∧ gI vl (j + 1) = sh := fun _ => by
        obtain ⟨q, hq, e⟩ := hz2
        rw [List.length_drop] at hq
        rw [List.getElem_drop] at e
        exact ⟨q, by omega, by rw [show gI vl (q + 1) = vl[q + 1]'(by omega) from getD_in _]; simpa [Nat.add_comm] using e⟩
      clear hz1 hz2 h69
      obtain ⟨_, _, b3, b4, b5⟩ := hPX sh hs1 hs2
      have hPN := hPNX sh hs1 hs2
      have hshb : -288230376151711744 ≤ sh ∧ sh ≤ 0 := by
        rcases Nat.eq_zero_or_pos k with e | e
        · omega
        · obtain ⟨j, hj, e2⟩ := hs2 e
          have := hvb j hj
          omega
      clear hs1 hs2
      refine kp (sub_cons 0 rfl rfl (sub_cons 1 rfl rfl (sub_cons 7 rfl rfl (sub_cons 8 rfl rfl (sub_cons 10 rfl rfl (sub_cons 12 rfl rfl (sub_nil _))))))) (join64 (sh, K.frz 11 C1) _ ⟨hshb, b3, b4, b5, hPN, hF, hT, hw, hsb, hu, hv, hg, hU, hV, hE⟩)
    · skip
      have hk0 : k = 0 := by omega
      obtain ⟨sh, hsh⟩ : ∃ s : Int, s = 0 := ⟨0, rfl⟩
      have hs1 : ∀ j, j < k → gI vl (j + 1) ≤ sh := fun j hj => by omega
      have hs2 : 0 < k → ∃ j, j < k ∧ gI vl (j + 1) = sh := fun h0 => by omega
      obtain ⟨_, _, b3, b4, b5⟩ := hPX sh hs1 hs2
      have hPN := hPNX sh hs1 hs2
      have hshb : -288230376151711744 ≤ sh ∧ sh ≤ 0 := by
        rcases Nat.eq_zero_or_pos k with e | e
        · omega
        · obtain ⟨j, hj, e2⟩ := hs2 e
          have := hvb j hj
          omega
      clear hs1 hs2
      refine run_skip (by kernel_rfl) ?_
      refine kp (sub_cons 0 rfl rfl (sub_cons 1 rfl rfl (sub_cons 7 rfl rfl (sub_cons 8 rfl rfl (sub_cons 10 rfl rfl (sub_cons 12 rfl (eq_int hsh.symm) (sub_nil _))))))) (join64 (sh, K.frz 11 C1) _ ⟨hshb, b3, b4, b5, hPN, hF, hT, hw, hsb, hu, hv, hg, hU, hV, hE⟩)
theorem tnew_ok {w₀ : World} {C : Nat → Nat} {n m fw : Nat} {cap : Array Value} {wt : Nat → Nat → Int} {W : Int} (hF : Lim w₀ C) (hn : n ≤ 100000) (hm : m ≤ 100000) (hcall : ∀ args w, (callFunc fw args).run Try.prog w = .ok (.enter fw args) w) (hwt : ∀ w1, Stp [] w₀ C w1 C → ∀ i j : Nat, i < n → j < m → Calls Try.prog fw ([Value.int .i64 i, Value.int .i64 j] ++ cap.toList).toArray w1 (Ret fun v w2 => v = .int .i64 (wt i j) ∧ Stp [] w1 C w2 C))
    (hW : ∀ i j, i < n → j < m → wt i j ≤ W) (hW0 : 0 ≤ W) (hW1 : W ≤ 288230376151711744) (hWk : ((max n m : Nat) + 1 : Int) * W ≤ 288230376151711744) :
    Calls Try.prog 45 #[.int .i64 n, .int .i64 m, .func (.func fw) #[] cap] w₀ (Ret fun v w' => ∃ (b : Nat) (gr : Gr) (U V : Nat → Int), v = .pointer (some ⟨b, 0, none⟩) ∧ Stp [] w₀ C w' C ∧ RA w' (Mc C) gr b 0 ∧ GrIs n m wt U V gr) := by
  refine (tnew_all hF hn hm hcall hwt hW hW0 hW1 hWk).mono ?_
  rintro e w' ⟨v, rfl, b, gr, U, V, h1, h2, h3, h4, _⟩
  exact ⟨v, rfl, b, gr, U, V, h1, h2, h3, h4⟩
end Go.Proofs.Ytgooehopkmbkfaa
