/- Steps through functions of the program. -/
import Derived.Test.YtgooehopkmbkfaaJU2
import Derived.Test.YtgooehopkmbkfaaL2
set_option linter.unusedVariables false
set_option linter.unusedSimpArgs false
set_option maxRecDepth 100000
set_option maxHeartbeats 4000000
namespace Go.Proofs.Ytgooehopkmbkfaa
open Go.K Go.K.Rep

namespace F19
noncomputable def c0 : Code := bodyOf Try.f19
noncomputable def c1 : Code := cl c0
noncomputable def o0 : Array Oper := rops c1
noncomputable def c2 : Code := cr c0
noncomputable def c3 : Code := cl c2
noncomputable def c4 : Code := cl c3
noncomputable def o1 : Array Oper := rops c4
noncomputable def c5 : Code := cr c3
noncomputable def c6 : Code := cl c5
noncomputable def o2 : Array Oper := rops c6
noncomputable def c7 : Code := cr c5
noncomputable def c8 : Code := cl c7
noncomputable def c9 : Code := cl c8
noncomputable def o3 : Array Oper := rops c9
noncomputable def c10 : Code := cr c8
noncomputable def c11 : Code := cr c7
noncomputable def c12 : Code := cr c2
noncomputable def c13 : Code := cl c12
noncomputable def o4 : Array Oper := rops c13
noncomputable def c14 : Code := cr c12
noncomputable def c15 : Code := cl c14
noncomputable def o5 : Array Oper := rops c15
noncomputable def c16 : Code := cr c14
noncomputable def c17 : Code := cl c16
noncomputable def o6 : Array Oper := rops c17
noncomputable def c18 : Code := cr c16
noncomputable def c19 : Code := cl c18
noncomputable def c20 : Code := cl c19
noncomputable def o7 : Array Oper := rops c20
noncomputable def c21 : Code := cr c19
noncomputable def c22 : Code := cl c21
noncomputable def c23 : Code := cl c22
noncomputable def c24 : Code := cl c23
noncomputable def o8 : Array Oper := rops c24
noncomputable def c25 : Code := cr c23
noncomputable def c26 : Code := cl c25
noncomputable def c27 : Code := cl c26
noncomputable def c28 : Code := cr c26
noncomputable def c29 : Code := cr c25
noncomputable def c30 : Code := cl c29
noncomputable def c31 : Code := cl c30
noncomputable def c32 : Code := cl c31
noncomputable def o9 : Array Oper := rops c32
noncomputable def c33 : Code := cr c31
noncomputable def c34 : Code := cl c33
noncomputable def c35 : Code := cl c34
noncomputable def o10 : Array Oper := rops c35
noncomputable def c36 : Code := cr c34
noncomputable def c37 : Code := cl c36
noncomputable def c38 : Code := cl c37
noncomputable def c39 : Code := cl c38
noncomputable def c40 : Code := cl c39
noncomputable def o11 : Array Oper := rops c40
noncomputable def c41 : Code := cr c39
noncomputable def c42 : Code := cl c41
noncomputable def c43 : Code := cr c41
noncomputable def c44 : Code := cr c38
noncomputable def c45 : Code := cl c44
noncomputable def c46 : Code := cl c45
noncomputable def c47 : Code := cl c46
noncomputable def c48 : Code := cl c47
noncomputable def o13 : Array Oper := rops c48
noncomputable def c49 : Code := cr c47
noncomputable def c50 : Code := cl c49
noncomputable def c51 : Code := cr c49
noncomputable def c52 : Code := cr c46
noncomputable def c53 : Code := cl c52
noncomputable def o14 : Array Oper := rops c53
noncomputable def c54 : Code := cr c52
noncomputable def c55 : Code := cl c54
noncomputable def o15 : Array Oper := rops c55
noncomputable def c56 : Code := cr c54
noncomputable def c57 : Code := cl c56
noncomputable def o16 : Array Oper := rops c57
noncomputable def c58 : Code := cr c56
noncomputable def c59 : Code := cr c44
noncomputable def o12 : Array Oper := rops c59
noncomputable def c60 : Code := cr c33
noncomputable def c61 : Code := cl c60
noncomputable def o17 : Array Oper := rops c61
noncomputable def c62 : Code := cr c60
noncomputable def c63 : Code := cl c62
noncomputable def o18 : Array Oper := rops c63
noncomputable def c64 : Code := cr c62
noncomputable def o19 : Array Oper := rops c64
noncomputable def c65 : Code := cr c29
noncomputable def o20 : Array Oper := rops c65
noncomputable def c66 : Code := cr c18
noncomputable def c67 : Code := cl c66
noncomputable def o21 : Array Oper := rops c67
noncomputable def c68 : Code := cr c66
end F19
/-- 'Solve'. -/
theorem solve_ok {w₀ : World} {C : Nat → Nat} {n m : Int} {l : List K.Edge} {vl : Value} (hF : Lim w₀ C) (hl : RV w₀ (Mc C) l vl) :
    Calls Try.prog 19 #[.int .i64 n, .int .i64 m, vl] w₀ (Ret fun v w' => ∃ u, v = .tuple #[u, .int .i64 (solT n m l), .int .i64 (chkE n m l)] ∧ Stp [] w₀ C w' C ∧ RV w' (Mc C) (solL n m l) u) := by
  have hF0 := hF
  have hT := Stp.refl [2, 3, 4, 5, 6, 7, 8, 9] w₀ (col1 C)
  replace hF := hF.col1
  replace hl : RV w₀ (Mc (col1 C)) l vl := by rw [Mc_col1]; exact hl
  refine calls_start (c := F19.c0) (N := 83) [.int .i64 n, .int .i64 m, vl] Try.func19 (by kernel_rfl) (by kernel_rfl) (by kernel_rfl) ?_
  show Run _ _ _ _ [(0, .int .i64 n), (1, .int .i64 m), (2, vl)] _ _
  refine run_seq (x := F19.c1) (y := F19.c2) (by kernel_rfl) ?_
  refine run_plain (id := 0) (ops := F19.o0) [(0, true), (1, true), (2, true)] (by kernel_rfl) (by kernel_rfl) ?_
  refine yS (by kernel_rfl : opAt F19.o0 0 = some (some 6, .assign (.const (.slice none 0 0)), none)) rfl rfl (fun w' hS => val_assign rfl) ?_
  refine yS (by kernel_rfl : opAt F19.o0 1 = some (some 7, .assign (.const (.int .i64 0)), none)) rfl rfl (fun w' hS => val_assign rfl) ?_
  refine yS (by kernel_rfl : opAt F19.o0 2 = some (some 8, .assign (.const (.int .i64 0)), none)) rfl rfl (fun w' hS => val_assign rfl) ?_
  refine Sch.nil ?_
  refine run_seq (x := F19.c3) (y := F19.c12) (by kernel_rfl) ?_
  refine run_seq (x := F19.c4) (y := F19.c5) (by kernel_rfl) ?_
  refine run_plain (id := 1) (ops := F19.o1) [(0, true), (1, true), (2, true), (3, false), (4, true)] (by kernel_rfl) (by kernel_rfl) ?_
  refine yS (by kernel_rfl : opAt F19.o1 0 = some (some 15, .move (.tmp 0), none)) rfl rfl (fun w' hS => val_move rfl) ?_
  refine yS (by kernel_rfl : opAt F19.o1 1 = some (some 16, .move (.tmp 1), none)) rfl rfl (fun w' hS => val_move rfl) ?_
  refine yS (by kernel_rfl : opAt F19.o1 2 = some (some 17, .move (.tmp 2), none)) rfl rfl (fun w' hS => val_move rfl) ?_
  refine cS (by kernel_rfl : opAt F19.o1 3 = some (some 18, .call { callee := .value (.func 17), args := #[(.tmp 15), (.tmp 16), (.tmp 17)], argTypes := #[3, 3, 23] }, none)) rfl rfl (ent Try.call17 rfl) (echeck_ok (n := n) (m := m) hF hl) ?_
  rintro vw1 w1 ⟨rfl, hs⟩
  refine ⟨trivial, ?_⟩
  replace hF := hF.st hs
  replace hT := hT.trans hs (by simp)
  replace hl := hl.st hs (by first | decide | (simp <;> omega))
  refine yS (by kernel_rfl : opAt F19.o1 4 = some (some 9, .assign (.tmp 18), none)) rfl rfl (fun w' hS => val_assign rfl) ?_
  refine Sch.nil ?_
  refine run_seq (x := F19.c6) (y := F19.c7) (by kernel_rfl) ?_
  refine run_plain (id := 2) (ops := F19.o2) [(0, true), (1, true)] (by kernel_rfl) (by kernel_rfl) ?_
  refine yS (by kernel_rfl : opAt F19.o2 0 = some (some 19, .move (.tmp 9), none)) rfl rfl (fun w' hS => val_move rfl) ?_
  refine yS (by kernel_rfl : opAt F19.o2 1 = some (some 20, .binOp .neq 35 (.tmp 19) (.const (.int .i64 0)) 35, none)) rfl rfl (fun w' hS => val_neq rfl rfl) ?_
  refine Sch.nil ?_
  refine run_if (x := F19.c8) (y := F19.c11) (o := .tmp 20) (by kernel_rfl) rfl (fun h20 => ?_) (fun h20 => ?_)
  · skip
    refine run_seq (x := F19.c9) (y := F19.c10) (by kernel_rfl) ?_
    refine run_plain (id := 3) (ops := F19.o3) [(0, true), (1, true), (2, true), (3, true)] (by kernel_rfl) (by kernel_rfl) ?_
    refine yS (by kernel_rfl : opAt F19.o3 0 = some (some 21, .move (.tmp 9), none)) rfl rfl (fun w' hS => val_move rfl) ?_
    refine yS (by kernel_rfl : opAt F19.o3 1 = some (some 6, .assign (.const (.slice none 0 0)), none)) rfl rfl (fun w' hS => val_assign rfl) ?_
    refine yS (by kernel_rfl : opAt F19.o3 2 = some (some 7, .assign (.const (.int .i64 0)), none)) rfl rfl (fun w' hS => val_assign rfl) ?_
    refine yS (by kernel_rfl : opAt F19.o3 3 = some (some 8, .assign (.tmp 21), none)) rfl rfl (fun w' hS => val_assign rfl) ?_
    refine Sch.nil ?_
    refine run_ret3 (by kernel_rfl) Try.func19 Try.results19 rfl rfl rfl ?_
    exact ⟨_, by unfold solT; rw [if_neg h20], hT.out1 (by decide), by unfold solL; rw [if_neg h20]; exact rv_nil⟩
  · skip
    have hck : chkE n m l = 0 := Classical.not_not.1 h20
    have hV := chkE_zero hck
    obtain ⟨n, rfl⟩ : ∃ k : Nat, n = (k : Int) := ⟨n.toNat, by have := hV.n0; omega⟩
    obtain ⟨m, rfl⟩ : ∃ k : Nat, m = (k : Int) := ⟨m.toNat, by have := hV.m0; omega⟩
    have hn1 := hV.n1
    have hm1 := hV.m1
    refine run_skip (by kernel_rfl) ?_
    refine run_seq (x := F19.c13) (y := F19.c14) (by kernel_rfl) ?_
    refine run_plain (id := 4) (ops := F19.o4) [(0, true), (1, true), (2, true), (3, false), (4, true)] (by kernel_rfl) (by kernel_rfl) ?_
    refine yS (by kernel_rfl : opAt F19.o4 0 = some (some 22, .move (.tmp 0), none)) rfl rfl (fun w' hS => val_move rfl) ?_
    refine yS (by kernel_rfl : opAt F19.o4 1 = some (some 23, .move (.tmp 1), none)) rfl rfl (fun w' hS => val_move rfl) ?_
    refine yS (by kernel_rfl : opAt F19.o4 2 = some (some 24, .move (.tmp 2), none)) rfl rfl (fun w' hS => val_move rfl) ?_
    refine cS (by kernel_rfl : opAt F19.o4 3 = some (some 25, .call { callee := .value (.func 32), args := #[(.tmp 22), (.tmp 23), (.tmp 24)], argTypes := #[3, 3, 23] }, none)) rfl rfl (ent Try.call32 rfl) (graph_ok hF hV hl) ?_
    rintro vw2 w2 ⟨gb, gr, U, V, rfl, hs, hg, hG⟩
    refine ⟨trivial, ?_⟩
    replace hF := hF.st hs
    replace hT := hT.trans hs (by simp)
    replace hl := hl.st hs (by first | decide | (simp <;> omega))
    refine yS (by kernel_rfl : opAt F19.o4 4 = some (some 10, .assign (.tmp 25), none)) rfl rfl (fun w' hS => val_assign rfl) ?_
    refine Sch.nil ?_
    refine run_seq (x := F19.c15) (y := F19.c16) (by kernel_rfl) ?_
    refine run_plain (id := 5) (ops := F19.o5) [(0, true), (1, false), (2, true)] (by kernel_rfl) (by kernel_rfl) ?_
    refine yS (by kernel_rfl : opAt F19.o5 0 = some (some 26, .move (.tmp 10), none)) rfl rfl (fun w' hS => val_move rfl) ?_
    refine cS (by kernel_rfl : opAt F19.o5 1 = some (some 27, .call { callee := .value (.func 33), args := #[(.tmp 26)], argTypes := #[62] }, none)) rfl rfl (ent Try.call33 rfl) (begin_own hF hg hG (by omega) 3 (by decide)) ?_
    rintro vs w3 ⟨Cb, hs, hF, hst⟩
    refine ⟨trivial, ?_⟩
    replace hT := hT.trans hs (by simp)
    replace hl := hl.st hs (by first | decide | (simp <;> omega))
    replace hg := hg.st hs (by first | decide | (simp <;> omega))
    refine yS (by kernel_rfl : opAt F19.o5 2 = some (some 11, .assign (.tmp 27), none)) rfl rfl (fun w' hS => val_assign rfl) ?_
    refine Sch.nil ?_
    refine run_seq (x := F19.c17) (y := F19.c18) (by kernel_rfl) ?_
    refine run_plain (id := 6) (ops := F19.o6) [(0, true)] (by kernel_rfl) (by kernel_rfl) ?_
    refine yS (by kernel_rfl : opAt F19.o6 0 = some (some 12, .assign (.const (.slice none 0 0)), none)) rfl rfl (fun w' hS => val_assign rfl) ?_
    refine Sch.nil ?_
    refine run_seq (x := F19.c19) (y := F19.c66) (by kernel_rfl) ?_
    refine run_seq (x := F19.c20) (y := F19.c21) (by kernel_rfl) ?_
    refine run_plain (id := 7) (ops := F19.o7) [(0, true), (1, true)] (by kernel_rfl) (by kernel_rfl) ?_
    refine yS (by kernel_rfl : opAt F19.o7 0 = some (some 28, .move (.tmp 0), none)) rfl rfl (fun w' hS => val_move rfl) ?_
    refine yS (by kernel_rfl : opAt F19.o7 1 = some (some 29, .move (.const (.int .i64 0)), none)) rfl rfl (fun w' hS => val_move rfl) ?_
    refine Sch.nil ?_
    refine run_block (x := F19.c22) (id := 0) (by kernel_rfl) ?_
    
    refine run_loop (ι := Nat × (List Int) × Value × (Nat → Nat)) (I := fun x w => x.1 ≤ n ∧ x.2.1.length = n ∧ GI n m (Tg n m (pos (edW l)) U V) (gI x.2.1) x.1 ∧ Lim w x.2.2.2 ∧ Stp [2, 3, 4, 5, 6, 7, 8, 9] w₀ (col1 C) w x.2.2.2 ∧ RA w (Mc x.2.2.2) gr gb 0 ∧ OwnL w x.2.2.2 3 3 vs x.2.1 ∧ OwnL w x.2.2.2 4 53 x.2.2.1 (outI (gI x.2.1) x.1)) (e := fun x => [(1, .int .i64 m), (10, .pointer (some ⟨gb, 0, none⟩)), (11, vs), (12, x.2.2.1), (28, .int .i64 n), (29, .int .i64 x.1)]) (m := fun x => n - x.1) (x₀ := (0, List.replicate n (-2), .slice none 0 0, Cb)) (body := F19.c23) (by kernel_rfl) (sub_cons 1 rfl rfl (sub_cons 10 rfl rfl (sub_cons 11 rfl rfl (sub_cons 12 rfl rfl (sub_cons 28 rfl rfl (sub_cons 29 rfl rfl (sub_nil _))))))) ?_ ?_
    · exact ⟨Nat.zero_le _, List.length_replicate, GI.start (fun q hq => by
  show (List.replicate n (-2 : Int)).getD q 0 = -2
  rw [getD_in (by rw [List.length_replicate]; exact hq)]; exact List.getElem_replicate _) hG.ex, hF, hT, hg, hst, OwnL.nil⟩
    intro ⟨i, stl, vo, C1⟩ w4 hI next
    obtain ⟨hi, hsl, hGI, hF, hT, hg, hst, ho⟩ := hI
    try simp only at hi hsl hGI hF hT hg hst ho
    have next1 := next
    clear next
    show Run _ _ _ _ [(1, .int .i64 m), (10, .pointer (some ⟨gb, 0, none⟩)), (11, vs), (12, vo), (28, .int .i64 n), (29, .int .i64 i)] _ _
    have hol := outI_len (gI stl) i
    refine run_seq (x := F19.c24) (y := F19.c25) (by kernel_rfl) ?_
    refine run_plain (id := 8) (ops := F19.o8) [(0, true)] (by kernel_rfl) (by kernel_rfl) ?_
    refine yS (by kernel_rfl : opAt F19.o8 0 = some (some 30, .binOp .lss 3 (.tmp 29) (.tmp 28) 3, none)) rfl rfl (fun w' hS => val_lss rfl rfl) ?_
    refine Sch.nil ?_
    refine run_seq (x := F19.c26) (y := F19.c29) (by kernel_rfl) ?_
    refine run_if (x := F19.c27) (y := F19.c28) (o := .tmp 30) (by kernel_rfl) rfl (fun h30 => ?_) (fun h30 => ?_)
    · skip
      have hin : i < n := by omega
      refine run_skip (by kernel_rfl) ?_
      refine run_seq (x := F19.c30) (y := F19.c65) (by kernel_rfl) ?_
      refine run_block (x := F19.c31) (id := 1) (by kernel_rfl) ?_
      refine run_seq (x := F19.c32) (y := F19.c33) (by kernel_rfl) ?_
      refine run_plain (id := 9) (ops := F19.o9) [(0, true), (1, true)] (by kernel_rfl) (by kernel_rfl) ?_
      refine yS (by kernel_rfl : opAt F19.o9 0 = some (some 31, .move (.tmp 29), none)) rfl rfl (fun w' hS => val_move rfl) ?_
      refine yS (by kernel_rfl : opAt F19.o9 1 = some (some 13, .assign (.tmp 31), none)) rfl rfl (fun w' hS => val_assign rfl) ?_
      refine Sch.nil ?_
      refine run_seq (x := F19.c34) (y := F19.c60) (by kernel_rfl) ?_
      refine run_seq (x := F19.c35) (y := F19.c36) (by kernel_rfl) ?_
      refine run_plain (id := 10) (ops := F19.o10) [(0, true)] (by kernel_rfl) (by kernel_rfl) ?_
      refine yS (by kernel_rfl : opAt F19.o10 0 = some (some 14, .assign (.const (.int .i64 0)), none)) rfl rfl (fun w' hS => val_assign rfl) ?_
      refine Sch.nil ?_
      refine run_block (x := F19.c37) (id := 2) (by kernel_rfl) ?_
      
      refine run_loop (ι := Nat × (List Int) × (Nat → Nat)) (I := fun x w => x.1 ≤ m ∧ x.2.1.length = n ∧ GR n m (Tg n m (pos (edW l)) U V) (gI stl) (gI x.2.1) i x.1 ∧ Lim w x.2.2 ∧ Stp [2, 3, 4, 5, 6, 7, 8, 9] w₀ (col1 C) w x.2.2 ∧ RA w (Mc x.2.2) gr gb 0 ∧ OwnL w x.2.2 3 3 vs x.2.1 ∧ OwnL w x.2.2 4 53 vo (outI (gI stl) i)) (e := fun x => [(1, .int .i64 m), (10, .pointer (some ⟨gb, 0, none⟩)), (11, vs), (12, vo), (13, .int .i64 i), (14, .int .i64 x.1), (28, .int .i64 n), (29, .int .i64 i)]) (m := fun x => m - x.1) (x₀ := (0, stl, C1)) (body := F19.c38) (by kernel_rfl) (sub_cons 1 rfl rfl (sub_cons 10 rfl rfl (sub_cons 11 rfl rfl (sub_cons 12 rfl rfl (sub_cons 13 rfl rfl (sub_cons 14 rfl rfl (sub_cons 28 rfl rfl (sub_cons 29 rfl rfl (sub_nil _))))))))) ?_ ?_
      · exact ⟨Nat.zero_le _, hsl, GR.start, hF, hT, hg, hst, ho⟩
      intro ⟨j, stl1, C2⟩ w5 hI next
      obtain ⟨hj, hsl1, hGR, hF, hT, hg, hst, ho⟩ := hI
      try simp only at hj hsl1 hGR hF hT hg hst ho
      have next2 := next
      clear next
      show Run _ _ _ _ [(1, .int .i64 m), (10, .pointer (some ⟨gb, 0, none⟩)), (11, vs), (12, vo), (13, .int .i64 i), (14, .int .i64 j), (28, .int .i64 n), (29, .int .i64 i)] _ _
      have hsg : gI stl1 i = stl1[i]'(by omega) := getD_in _
      refine run_seq (x := F19.c39) (y := F19.c44) (by kernel_rfl) ?_
      refine run_seq (x := F19.c40) (y := F19.c41) (by kernel_rfl) ?_
      refine run_cut 41 (decide (j < m ∧ gI stl1 i < 0)) (C2) ?_ ?_
      · intro hcut
        by_cases hA : (j : Int) < m
        · skip
          refine run_plain (id := 11) (ops := F19.o11) [(0, true), (1, true), (2, true), (3, true), (4, true), (5, true), (6, true), (7, false), (8, true), (9, true)] (by kernel_rfl) (by kernel_rfl) ?_
          refine yS (by kernel_rfl : opAt F19.o11 0 = some (some 32, .move (.tmp 14), none)) rfl rfl (fun w' hS => val_move rfl) ?_
          refine yS (by kernel_rfl : opAt F19.o11 1 = some (some 33, .move (.tmp 1), none)) rfl rfl (fun w' hS => val_move rfl) ?_
          refine yS (by kernel_rfl : opAt F19.o11 2 = some (some 34, .binOp .lss 3 (.tmp 32) (.tmp 33) 3, none)) rfl rfl (fun w' hS => val_T (val_lss rfl rfl) hA) ?_
          refine yS (by kernel_rfl : opAt F19.o11 3 = some (some 35, .move (.tmp 34), none)) rfl rfl (fun w' hS => val_move rfl) ?_
          refine yS (by kernel_rfl : opAt F19.o11 4 = some (some 36, .move (.tmp 11), (some (3, true)))) rfl rfl (fun w' hS => val_move rfl) ?_
          refine yS (by kernel_rfl : opAt F19.o11 5 = some (some 37, .move (.tmp 13), (some (3, true)))) rfl rfl (fun w' hS => val_move rfl) ?_
          refine oI (e' := 3) (by kernel_rfl : opAt F19.o11 6 = some (some 38, .indexAddr 22 (.tmp 36) (.tmp 37), (some (3, true)))) rfl rfl hst rfl (by kernel_rfl) rfl (by omega) (by omega) ?_
          intro g38 hg38
          try simp only [Int.toNat_natCast]
          refine oN (by kernel_rfl : opAt F19.o11 7 = some (some 39, .load 3 (.tmp 38), (some (3, true)))) rfl rfl trivial hst hg38 (by omega) (by kernel_rfl) rfl rfl ?_
          intro v39 g39
          try simp only [Int.toNat_natCast] at g39
          first | (obtain rfl := rv_nat.1 g39) | (obtain rfl := rv_int.1 g39)
          refine yS (by kernel_rfl : opAt F19.o11 8 = some (some 40, .binOp .lss 3 (.tmp 39) (.const (.int .i64 0)) 3, (some (3, true)))) rfl rfl (fun w' hS => val_lss rfl rfl) ?_
          refine yS (by kernel_rfl : opAt F19.o11 9 = some (some 41, .pick (.tmp 35) (.tmp 40) (.const (.bool false)), none)) rfl rfl (fun w' hS => val_pick_t rfl rfl) ?_
          exact Sch.nil (hcut _ _ _ (Stp.refl _ _ _) rfl (by congr 1; apply decide_eq_decide.2; rw [hsg]; exact ⟨fun h => ⟨by omega, h⟩, fun h => h.2⟩) (sub_skip rfl (sub_skip rfl (sub_skip rfl (sub_skip rfl (sub_skip rfl (sub_skip rfl (sub_skip rfl (sub_skip rfl (sub_skip rfl (sub_skip rfl (Sub.refl _))))))))))))
        · skip
          refine run_plain (id := 11) (ops := F19.o11) [(0, true), (1, true), (2, true), (3, true), (4, true), (5, true), (6, true), (7, false), (8, true), (9, true)] (by kernel_rfl) (by kernel_rfl) ?_
          refine yS (by kernel_rfl : opAt F19.o11 0 = some (some 32, .move (.tmp 14), none)) rfl rfl (fun w' hS => val_move rfl) ?_
          refine yS (by kernel_rfl : opAt F19.o11 1 = some (some 33, .move (.tmp 1), none)) rfl rfl (fun w' hS => val_move rfl) ?_
          refine yS (by kernel_rfl : opAt F19.o11 2 = some (some 34, .binOp .lss 3 (.tmp 32) (.tmp 33) 3, none)) rfl rfl (fun w' hS => val_F (val_lss rfl rfl) hA) ?_
          refine yS (by kernel_rfl : opAt F19.o11 3 = some (some 35, .move (.tmp 34), none)) rfl rfl (fun w' hS => val_move rfl) ?_
          refine pS (by kernel_rfl : opAt F19.o11 4 = some (some 36, .move (.tmp 11), (some (3, true)))) rfl rfl ?_
          refine pS (by kernel_rfl : opAt F19.o11 5 = some (some 37, .move (.tmp 13), (some (3, true)))) rfl rfl ?_
          refine pS (by kernel_rfl : opAt F19.o11 6 = some (some 38, .indexAddr 22 (.tmp 36) (.tmp 37), (some (3, true)))) rfl rfl ?_
          refine pW (by kernel_rfl : opAt F19.o11 7 = some (some 39, .load 3 (.tmp 38), (some (3, true)))) rfl rfl trivial ?_
          refine pS (by kernel_rfl : opAt F19.o11 8 = some (some 40, .binOp .lss 3 (.tmp 39) (.const (.int .i64 0)) 3, (some (3, true)))) rfl rfl ?_
          refine yS (by kernel_rfl : opAt F19.o11 9 = some (some 41, .pick (.tmp 35) (.tmp 40) (.const (.bool false)), none)) rfl rfl (fun w' hS => val_pick_f rfl rfl) ?_
          exact Sch.nil (hcut _ _ _ (Stp.refl _ _ _) rfl (by rw [decide_eq_false (fun e => hA (by omega))]) (sub_skip rfl (sub_skip rfl (sub_skip rfl (sub_skip rfl (sub_skip rfl (sub_skip rfl (sub_skip rfl (sub_skip rfl (sub_skip rfl (sub_skip rfl (Sub.refl _))))))))))))
      intro w6 hs
      replace hF := hF.st hs
      replace hT := hT.trans hs (by simp)
      replace hg := hg.st hs (by first | decide | (simp <;> omega))
      replace hst := hst.st hs (by first | decide | (simp <;> omega)) (by first | decide | (simp <;> omega))
      replace ho := ho.st hs (by first | decide | (simp <;> omega)) (by first | decide | (simp <;> omega))
      refine run_if (x := F19.c42) (y := F19.c43) (o := .tmp 41) (by kernel_rfl) rfl (fun h41 => ?_) (fun h41 => ?_)
      · skip
        have hgo := hGR.open_ h41.2
        have hG2 := hGR
        refine run_skip (by kernel_rfl) ?_
        refine run_seq (x := F19.c45) (y := F19.c59) (by kernel_rfl) ?_
        refine run_block (x := F19.c46) (id := 3) (by kernel_rfl) ?_
        refine run_seq (x := F19.c47) (y := F19.c52) (by kernel_rfl) ?_
        refine run_seq (x := F19.c48) (y := F19.c49) (by kernel_rfl) ?_
        refine run_plain (id := 13) (ops := F19.o13) [(0, true), (1, true), (2, true), (3, false), (4, true)] (by kernel_rfl) (by kernel_rfl) ?_
        refine yS (by kernel_rfl : opAt F19.o13 0 = some (some 44, .move (.tmp 10), none)) rfl rfl (fun w' hS => val_move rfl) ?_
        refine yS (by kernel_rfl : opAt F19.o13 1 = some (some 45, .move (.tmp 13), none)) rfl rfl (fun w' hS => val_move rfl) ?_
        refine yS (by kernel_rfl : opAt F19.o13 2 = some (some 46, .move (.tmp 14), none)) rfl rfl (fun w' hS => val_move rfl) ?_
        refine cS (by kernel_rfl : opAt F19.o13 3 = some (some 47, .call { callee := .value (.func 34), args := #[(.tmp 44), (.tmp 45), (.tmp 46)], argTypes := #[62, 3, 3] }, none)) rfl rfl (ent Try.call34 rfl) (edge_ok hg hG hin h41.1) ?_
        rintro vw7 w7 ⟨rfl, rfl⟩
        refine ⟨trivial, ?_⟩
        refine yS (by kernel_rfl : opAt F19.o13 4 = some (some 48, .unOp .not 4 (.tmp 47), none)) rfl rfl (fun w' hS => val_not rfl) ?_
        refine Sch.nil ?_
        refine run_cond (x := F19.c50) (y := F19.c51) (o := .tmp 48) (by kernel_rfl) rfl (fun h48 => ?_) (fun h48 => ?_)
        · skip
          have hGR2 := hGR.skip h41.2 (fun f hf _ e => by
            have := hf.edge i hin (by omega)
            rw [e] at this
            have hb := edgeB_iff.2 this
            rw [hb] at h48; cases h48)
          refine run_exit (id := 3) (by kernel_rfl) rfl ?_
          refine run_plain (id := 12) (ops := F19.o12) [(0, true), (1, true), (2, true)] (by kernel_rfl) (by kernel_rfl) ?_
          refine yS (by kernel_rfl : opAt F19.o12 0 = some (some 42, .move (.tmp 14), none)) rfl rfl (fun w' hS => val_move rfl) ?_
          refine yS (by kernel_rfl : opAt F19.o12 1 = some (some 43, .binOp .add 3 (.tmp 42) (.const (.int .i64 1)) 3, none)) rfl rfl (fun w' hS => val_addi rfl rfl (by omega) (by omega)) ?_
          refine yS (by kernel_rfl : opAt F19.o12 2 = some (some 14, .assign (.tmp 43), none)) rfl rfl (fun w' hS => val_assign rfl) ?_
          refine Sch.nil ?_
          refine kp (sub_cons 1 rfl rfl (sub_cons 10 rfl rfl (sub_cons 11 rfl rfl (sub_cons 12 rfl rfl (sub_cons 13 rfl rfl (sub_cons 14 rfl (eq_int (by simp)) (sub_cons 28 rfl rfl (sub_cons 29 rfl rfl (sub_nil _))))))))) (next2 (j + 1, stl1, C2) _ ⟨(by first | omega | (simp only; omega)), (by first | omega | (simp only; omega)), hGR2, hF, hT, hg, hst, ho⟩ (by first | omega | (simp only; omega)))
        · skip
          refine run_skip (by kernel_rfl) ?_
          refine run_seq (x := F19.c53) (y := F19.c54) (by kernel_rfl) ?_
          refine run_plain (id := 14) (ops := F19.o14) [(0, true), (1, true), (2, true), (3, true), (4, false)] (by kernel_rfl) (by kernel_rfl) ?_
          refine yS (by kernel_rfl : opAt F19.o14 0 = some (some 49, .move (.tmp 11), none)) rfl rfl (fun w' hS => val_move rfl) ?_
          refine yS (by kernel_rfl : opAt F19.o14 1 = some (some 50, .move (.tmp 13), none)) rfl rfl (fun w' hS => val_move rfl) ?_
          refine yS (by kernel_rfl : opAt F19.o14 2 = some (some 51, .move (.tmp 14), none)) rfl rfl (fun w' hS => val_move rfl) ?_
          refine oI (e' := 3) (by kernel_rfl : opAt F19.o14 3 = some (some 52, .indexAddr 22 (.tmp 49) (.tmp 50), none)) rfl rfl hst rfl (by kernel_rfl) rfl (by omega) (by omega) ?_
          intro g52 hg52
          try simp only [Int.toNat_natCast]
          refine aN (by kernel_rfl : opAt F19.o14 4 = some (none, .store 3 (.tmp 52) (.tmp 51), none)) rfl (a_storeO hst hg52 (by omega) rfl rfl (by kernel_rfl) (rv_int.2 rfl)) ?_
          rintro _ w8 ⟨rfl, hs, hst⟩
          refine ⟨trivial, ?_⟩
          replace hF := hF.st hs
          replace hT := hT.trans hs (by simp)
          replace hg := hg.st hs (by first | decide | (simp <;> omega))
          replace ho := ho.st hs (by first | decide | (simp <;> omega)) (by first | decide | (simp <;> omega))
          obtain ⟨stl2, hs2⟩ : ∃ x, x = stl1.set i (j : Int) := ⟨_, rfl⟩
          rw [← hs2] at hst
          have hsl2 : stl2.length = n := by rw [hs2, List.length_set]; exact hsl1
          have he2 : ∀ q, gI stl2 q = if i = q then (j : Int) else gI stl1 q := fun q => by rw [hs2]; exact getD_set (by omega)
          have hb1 : ∀ q, q < n → -2 ≤ gI stl2 q := fun q hq => by
            have := hGI.bnd q hq
            rw [he2]; split
            · omega
            · rw [hgo.1]; exact this.1
          have hb2 : ∀ q, q < n → gI stl2 q < m := fun q hq => by
            have := hGI.bnd q hq
            rw [he2]; split
            · omega
            · rw [hgo.1]; exact this.2
          clear hs2
          refine Sch.nil ?_
          refine run_seq (x := F19.c55) (y := F19.c56) (by kernel_rfl) ?_
          refine run_plain (id := 15) (ops := F19.o15) [(0, true), (1, true), (2, false), (3, true)] (by kernel_rfl) (by kernel_rfl) ?_
          refine yS (by kernel_rfl : opAt F19.o15 0 = some (some 53, .move (.tmp 10), none)) rfl rfl (fun w' hS => val_move rfl) ?_
          refine yS (by kernel_rfl : opAt F19.o15 1 = some (some 54, .move (.tmp 11), none)) rfl rfl (fun w' hS => val_move rfl) ?_
          refine cS (by kernel_rfl : opAt F19.o15 2 = some (some 55, .call { callee := .value (.func 35), args := #[(.tmp 53), (.tmp 54), (.const .nilFunc)], argTypes := #[62, 22, 65] }, none)) rfl rfl (ent Try.call35 rfl) (feasible_ok (hF.frz 3) hG (hg.frz 3) (hst.frz (n := 3) (by decide) (by omega)) hsl2 hb1 hb2 (by omega) (by omega)) ?_
          rintro vw9 w9 ⟨bb, rfl, hs0, hbb⟩
          have hs := hs0.unfrz (C2)
          refine ⟨trivial, ?_⟩
          replace hF := hF.st hs
          replace hT := hT.trans hs (by simp)
          replace hg := hg.st hs (by first | decide | (simp <;> omega))
          replace hst := hst.st hs (by first | decide | (simp <;> omega)) (by first | decide | (simp <;> omega))
          replace ho := ho.st hs (by first | decide | (simp <;> omega)) (by first | decide | (simp <;> omega))
          refine yS (by kernel_rfl : opAt F19.o15 3 = some (some 56, .unOp .not 4 (.tmp 55), none)) rfl rfl (fun w' hS => val_not rfl) ?_
          refine Sch.nil ?_
          refine run_cond (x := F19.c57) (y := F19.c58) (o := .tmp 56) (by kernel_rfl) rfl (fun h56 => ?_) (fun h56 => ?_)
          · skip
            have hbf : bb = false := by simpa using h56
            refine run_plain (id := 16) (ops := F19.o16) [(0, true), (1, true), (2, true), (3, false)] (by kernel_rfl) (by kernel_rfl) ?_
            refine yS (by kernel_rfl : opAt F19.o16 0 = some (some 57, .move (.tmp 11), none)) rfl rfl (fun w' hS => val_move rfl) ?_
            refine yS (by kernel_rfl : opAt F19.o16 1 = some (some 58, .move (.tmp 13), none)) rfl rfl (fun w' hS => val_move rfl) ?_
            refine oI (e' := 3) (by kernel_rfl : opAt F19.o16 2 = some (some 59, .indexAddr 22 (.tmp 57) (.tmp 58), none)) rfl rfl hst rfl (by kernel_rfl) rfl (by omega) (by omega) ?_
            intro g59 hg59
            try simp only [Int.toNat_natCast]
            refine aN (by kernel_rfl : opAt F19.o16 3 = some (none, .store 3 (.tmp 59) (.const (.int .i64 (-2))), none)) rfl (a_storeO hst hg59 (by omega) rfl rfl (by kernel_rfl) (rv_int.2 rfl)) ?_
            rintro _ w10 ⟨rfl, hs, hst⟩
            refine ⟨trivial, ?_⟩
            replace hF := hF.st hs
            replace hT := hT.trans hs (by simp)
            replace hg := hg.st hs (by first | decide | (simp <;> omega))
            replace ho := ho.st hs (by first | decide | (simp <;> omega)) (by first | decide | (simp <;> omega))
            obtain ⟨stl3, hs3⟩ : ∃ x, x = stl2.set i (-2 : Int) := ⟨_, rfl⟩
            rw [← hs3] at hst
            have hsl3 : stl3.length = n := by rw [hs3, List.length_set]; exact hsl2
            have he3 : ∀ q, gI stl3 q = if i = q then (-2 : Int) else gI stl2 q := fun q => by rw [hs3]; exact getD_set (by omega)
            clear hs3
            refine Sch.nil ?_
            refine run_inBlock ?_
            refine run_plain (id := 12) (ops := F19.o12) [(0, true), (1, true), (2, true)] (by kernel_rfl) (by kernel_rfl) ?_
            refine yS (by kernel_rfl : opAt F19.o12 0 = some (some 42, .move (.tmp 14), none)) rfl rfl (fun w' hS => val_move rfl) ?_
            refine yS (by kernel_rfl : opAt F19.o12 1 = some (some 43, .binOp .add 3 (.tmp 42) (.const (.int .i64 1)) 3, none)) rfl rfl (fun w' hS => val_addi rfl rfl (by omega) (by omega)) ?_
            refine yS (by kernel_rfl : opAt F19.o12 2 = some (some 14, .assign (.tmp 43), none)) rfl rfl (fun w' hS => val_assign rfl) ?_
            refine Sch.nil ?_
            refine kp (sub_cons 1 rfl rfl (sub_cons 10 rfl rfl (sub_cons 11 rfl rfl (sub_cons 12 rfl rfl (sub_cons 13 rfl rfl (sub_cons 14 rfl (eq_int (by simp)) (sub_cons 28 rfl rfl (sub_cons 29 rfl rfl (sub_nil _))))))))) (next2 (j + 1, stl3, C2) _ ⟨(by first | omega | (simp only; omega)), hsl3, (hGR.no hGI hin h41.2 he2 (fun e => by have := hbb.2 e; rw [hbf] at this; cases this) he3), hF, hT, hg, hst, ho⟩ (by first | omega | (simp only; omega)))
          · skip
            have hbt : bb = true := by simpa using h56
            refine run_skip (by kernel_rfl) ?_
            refine run_inBlock ?_
            refine run_plain (id := 12) (ops := F19.o12) [(0, true), (1, true), (2, true)] (by kernel_rfl) (by kernel_rfl) ?_
            refine yS (by kernel_rfl : opAt F19.o12 0 = some (some 42, .move (.tmp 14), none)) rfl rfl (fun w' hS => val_move rfl) ?_
            refine yS (by kernel_rfl : opAt F19.o12 1 = some (some 43, .binOp .add 3 (.tmp 42) (.const (.int .i64 1)) 3, none)) rfl rfl (fun w' hS => val_addi rfl rfl (by omega) (by omega)) ?_
            refine yS (by kernel_rfl : opAt F19.o12 2 = some (some 14, .assign (.tmp 43), none)) rfl rfl (fun w' hS => val_assign rfl) ?_
            refine Sch.nil ?_
            refine kp (sub_cons 1 rfl rfl (sub_cons 10 rfl rfl (sub_cons 11 rfl rfl (sub_cons 12 rfl rfl (sub_cons 13 rfl rfl (sub_cons 14 rfl (eq_int (by simp)) (sub_cons 28 rfl rfl (sub_cons 29 rfl rfl (sub_nil _))))))))) (next2 (j + 1, stl2, C2) _ ⟨(by first | omega | (simp only; omega)), hsl2, (hGR.yes hGI hin h41.1 h41.2 he2 (hbb.1 hbt)), hF, hT, hg, hst, ho⟩ (by first | omega | (simp only; omega)))
      · skip
        refine run_exit (id := 2) (by kernel_rfl) rfl ?_
        refine run_seq (x := F19.c61) (y := F19.c62) (by kernel_rfl) ?_
        refine run_plain (id := 17) (ops := F19.o17) [(0, true), (1, true), (2, true), (3, false), (4, true)] (by kernel_rfl) (by kernel_rfl) ?_
        refine yS (by kernel_rfl : opAt F19.o17 0 = some (some 60, .move (.tmp 11), none)) rfl rfl (fun w' hS => val_move rfl) ?_
        refine yS (by kernel_rfl : opAt F19.o17 1 = some (some 61, .move (.tmp 13), none)) rfl rfl (fun w' hS => val_move rfl) ?_
        refine oI (e' := 3) (by kernel_rfl : opAt F19.o17 2 = some (some 62, .indexAddr 22 (.tmp 60) (.tmp 61), none)) rfl rfl hst rfl (by kernel_rfl) rfl (by omega) (by omega) ?_
        intro g62 hg62
        try simp only [Int.toNat_natCast]
        refine oN (by kernel_rfl : opAt F19.o17 3 = some (some 63, .load 3 (.tmp 62), none)) rfl rfl trivial hst hg62 (by omega) (by kernel_rfl) rfl rfl ?_
        intro v63 g63
        try simp only [Int.toNat_natCast] at g63
        first | (obtain rfl := rv_nat.1 g63) | (obtain rfl := rv_int.1 g63)
        refine yS (by kernel_rfl : opAt F19.o17 4 = some (some 64, .binOp .geq 3 (.tmp 63) (.const (.int .i64 0)) 3, none)) rfl rfl (fun w' hS => val_geq rfl rfl) ?_
        refine Sch.nil ?_
        refine run_if (x := F19.c63) (y := F19.c64) (o := .tmp 64) (by kernel_rfl) rfl (fun h64 => ?_) (fun h64 => ?_)
        · skip
          rw [← hsg] at h64
          obtain ⟨hgi1, hgi2⟩ := hGR.done h64 hGI hin
          refine run_plain (id := 18) (ops := F19.o18) [(0, true), (1, true), (2, true), (3, true), (4, true), (5, false), (6, true), (7, false), (8, false), (9, true)] (by kernel_rfl) (by kernel_rfl) ?_
          refine yS (by kernel_rfl : opAt F19.o18 0 = some (some 65, .move (.tmp 12), none)) rfl rfl (fun w' hS => val_move rfl) ?_
          refine yS (by kernel_rfl : opAt F19.o18 1 = some (some 66, .move (.tmp 13), none)) rfl rfl (fun w' hS => val_move rfl) ?_
          refine yS (by kernel_rfl : opAt F19.o18 2 = some (some 67, .move (.tmp 11), none)) rfl rfl (fun w' hS => val_move rfl) ?_
          refine yS (by kernel_rfl : opAt F19.o18 3 = some (some 68, .move (.tmp 13), none)) rfl rfl (fun w' hS => val_move rfl) ?_
          refine oI (e' := 3) (by kernel_rfl : opAt F19.o18 4 = some (some 69, .indexAddr 22 (.tmp 67) (.tmp 68), none)) rfl rfl hst rfl (by kernel_rfl) rfl (by omega) (by omega) ?_
          intro g69 hg69
          try simp only [Int.toNat_natCast]
          refine oN (by kernel_rfl : opAt F19.o18 5 = some (some 70, .load 3 (.tmp 69), none)) rfl rfl trivial hst hg69 (by omega) (by kernel_rfl) rfl rfl ?_
          intro v70 g70
          try simp only [Int.toNat_natCast] at g70
          first | (obtain rfl := rv_nat.1 g70) | (obtain rfl := rv_int.1 g70)
          rw [← hsg]
          refine yS (by kernel_rfl : opAt F19.o18 6 = some (some 71, .build 53 #[(0, (.tmp 66)), (1, (.tmp 70))], none)) rfl rfl (fun w' hS => val_build (zs := [.int .i64 0, .int .i64 0]) (ps := [(0, 1), (1, 1)]) (qs := [(0, [.int .i64 (i : Int)]), (1, [.int .i64 (gI stl1 i)])]) (cs := [.int .i64 (i : Int), .int .i64 (gI stl1 i)]) (by kernel_rfl) (by kernel_rfl) (by exact ⟨rfl, ⟨_, rfl, rfl⟩, rfl, ⟨_, rfl, rfl⟩, trivial⟩) rfl) ?_
          refine aS (by kernel_rfl : opAt F19.o18 7 = some (some 72, .buildSlice 24 1 #[(0, (.tmp 71))], none)) rfl rfl (a_buildSlice (ys := ([⟨(i : Int), gI stl1 i⟩] : List Couple)) (e := 53) (bytes := 16) hF (by kernel_rfl) rfl (by decide) (by decide) ⟨rfl, ⟨_, rfl, rv_couple.2 rfl⟩, trivial⟩) ?_
          rintro v72 w11 ⟨hs, g72, hF⟩
          refine ⟨trivial, ?_⟩
          replace hT := hT.trans hs (by simp)
          replace hg := hg.st hs (by first | decide | (simp <;> omega))
          replace hst := hst.st hs (by first | decide | (simp <;> omega)) (by first | decide | (simp <;> omega))
          replace ho := ho.st hs (by first | decide | (simp <;> omega)) (by first | decide | (simp <;> omega))
          refine aS (by kernel_rfl : opAt F19.o18 8 = some (some 73, .call { callee := .builtin .append, args := #[(.tmp 65), (.tmp 72)], argTypes := #[24, 24] }, none)) rfl rfl (a_append (e := 53) (bytes := 16) hF (by decide) rfl rfl (by kernel_rfl) (by decide) ho g72 (by simp only [List.length_cons, List.length_nil]; omega) (by simp only [List.length_cons, List.length_nil]; omega)) ?_
          rintro v73 w12 ⟨Cw12, hs, ho, hF⟩
          refine ⟨trivial, ?_⟩
          replace hT := hT.trans hs (by simp)
          replace hg := hg.st hs (by first | decide | (simp <;> omega))
          replace hst := hst.st hs (by first | decide | (simp <;> omega)) (by first | decide | (simp <;> omega))
          replace g72 := g72.st hs (by first | decide | (simp <;> omega))
          refine yS (by kernel_rfl : opAt F19.o18 9 = some (some 12, .assign (.tmp 73), none)) rfl rfl (fun w' hS => val_assign rfl) ?_
          refine Sch.nil ?_
          rw [← outI_take hgi2 (by omega)] at ho
          refine run_inBlock ?_
          refine run_plain (id := 20) (ops := F19.o20) [(0, true), (1, true)] (by kernel_rfl) (by kernel_rfl) ?_
          refine yS (by kernel_rfl : opAt F19.o20 0 = some (some 77, .binOp .add 3 (.tmp 29) (.const (.int .i64 1)) 3, none)) rfl rfl (fun w' hS => val_addi rfl rfl (by omega) (by omega)) ?_
          refine yS (by kernel_rfl : opAt F19.o20 1 = some (some 29, .move (.tmp 77), none)) rfl rfl (fun w' hS => val_move rfl) ?_
          refine Sch.nil ?_
          refine kp (sub_cons 1 rfl rfl (sub_cons 10 rfl rfl (sub_cons 11 rfl rfl (sub_cons 12 rfl rfl (sub_cons 28 rfl rfl (sub_cons 29 rfl (eq_int (by simp)) (sub_nil _))))))) (next1 (i + 1, stl1, v73, Cw12) _ ⟨(by first | omega | (simp only; omega)), hsl1, hgi1, hF, hT, hg, hst, ho⟩ (by first | omega | (simp only; omega)))
        · skip
          rw [← hsg] at h64
          refine run_plain (id := 19) (ops := F19.o19) [(0, true), (1, true), (2, true), (3, false)] (by kernel_rfl) (by kernel_rfl) ?_
          refine yS (by kernel_rfl : opAt F19.o19 0 = some (some 74, .move (.tmp 11), none)) rfl rfl (fun w' hS => val_move rfl) ?_
          refine yS (by kernel_rfl : opAt F19.o19 1 = some (some 75, .move (.tmp 13), none)) rfl rfl (fun w' hS => val_move rfl) ?_
          refine oI (e' := 3) (by kernel_rfl : opAt F19.o19 2 = some (some 76, .indexAddr 22 (.tmp 74) (.tmp 75), none)) rfl rfl hst rfl (by kernel_rfl) rfl (by omega) (by omega) ?_
          intro g76 hg76
          try simp only [Int.toNat_natCast]
          refine aN (by kernel_rfl : opAt F19.o19 3 = some (none, .store 3 (.tmp 76) (.const (.int .i64 (-1))), none)) rfl (a_storeO hst hg76 (by omega) rfl rfl (by kernel_rfl) (rv_int.2 rfl)) ?_
          rintro _ w13 ⟨rfl, hs, hst⟩
          refine ⟨trivial, ?_⟩
          replace hF := hF.st hs
          replace hT := hT.trans hs (by simp)
          replace hg := hg.st hs (by first | decide | (simp <;> omega))
          replace ho := ho.st hs (by first | decide | (simp <;> omega)) (by first | decide | (simp <;> omega))
          obtain ⟨stl2, hs2⟩ : ∃ x, x = stl1.set i (-1 : Int) := ⟨_, rfl⟩
          rw [← hs2] at hst
          have hsl2 : stl2.length = n := by rw [hs2, List.length_set]; exact hsl1
          have he2 : ∀ q, gI stl2 q = if i = q then (-1 : Int) else gI stl1 q := fun q => by rw [hs2]; exact getD_set (by omega)
          clear hs2
          obtain ⟨hgi1, hgi2⟩ := hGR.none hGI hin (by omega) (fun f hf => hf.le i hin) (by omega) he2
          rw [← outI_pass hgi2 (by rw [he2, if_pos rfl]; decide)] at ho
          refine Sch.nil ?_
          refine run_inBlock ?_
          refine run_plain (id := 20) (ops := F19.o20) [(0, true), (1, true)] (by kernel_rfl) (by kernel_rfl) ?_
          refine yS (by kernel_rfl : opAt F19.o20 0 = some (some 77, .binOp .add 3 (.tmp 29) (.const (.int .i64 1)) 3, none)) rfl rfl (fun w' hS => val_addi rfl rfl (by omega) (by omega)) ?_
          refine yS (by kernel_rfl : opAt F19.o20 1 = some (some 29, .move (.tmp 77), none)) rfl rfl (fun w' hS => val_move rfl) ?_
          refine Sch.nil ?_
          refine kp (sub_cons 1 rfl rfl (sub_cons 10 rfl rfl (sub_cons 11 rfl rfl (sub_cons 12 rfl rfl (sub_cons 28 rfl rfl (sub_cons 29 rfl (eq_int (by simp)) (sub_nil _))))))) (next1 (i + 1, stl2, vo, C2) _ ⟨(by first | omega | (simp only; omega)), hsl2, hgi1, hF, hT, hg, hst, ho⟩ (by first | omega | (simp only; omega)))
    · skip
      have hin : i = n := by omega
      rw [hin] at hGI ho
      obtain ⟨hout1, hout2⟩ := sol_fin hck hG.pr hGI
      refine run_exit (id := 0) (by kernel_rfl) rfl ?_
      refine run_seq (x := F19.c67) (y := F19.c68) (by kernel_rfl) ?_
      refine run_draw (id := 21) (ops := F19.o21) [] (C1) [(0, true), (1, true), (2, true), (3, true), (4, true), (5, true), (6, true), (7, true)] Try_mixed (by kernel_rfl) (by kernel_rfl) (by kernel_rfl) ?_
      intro w14 hs
      replace hF := hF.st hs
      replace hT := hT.trans hs (by simp)
      replace hg := hg.st hs (by first | decide | (simp <;> omega))
      replace hst := hst.st hs (by first | decide | (simp <;> omega)) (by first | decide | (simp <;> omega))
      replace ho := ho.st hs (by first | decide | (simp <;> omega)) (by first | decide | (simp <;> omega))
      refine yS (by kernel_rfl : opAt F19.o21 0 = some (some 78, .move (.tmp 12), none)) rfl rfl (fun w' hS => val_move rfl) ?_
      refine yS (by kernel_rfl : opAt F19.o21 1 = some (some 79, .move (.tmp 10), none)) rfl rfl (fun w' hS => val_move rfl) ?_
      refine yS (by kernel_rfl : opAt F19.o21 2 = some (some 80, .nilCheck (.tmp 79), none)) rfl rfl (fun w' hS => val_nilCheck rfl) ?_
      have h81 := RA.gT hg
      refine yS (by kernel_rfl : opAt F19.o21 3 = some (some 81, .fieldAddr 69 (.tmp 80) 4, none)) rfl rfl (fun w' hS => val_fieldAddr (off := 4) (by kernel_rfl) rfl) ?_
      refine lS (by kernel_rfl : opAt F19.o21 4 = some (some 82, .load 3 (.tmp 81), none)) rfl rfl (fun w' hS => h81.stay hS (by first | decide | (simp <;> omega))) h81 (by kernel_rfl) rfl rfl ?_
      intro v82 g82
      first | (obtain rfl := rv_nat.1 g82) | (obtain rfl := rv_int.1 g82)
      refine yS (by kernel_rfl : opAt F19.o21 5 = some (some 6, .assign (.tmp 78), none)) rfl rfl (fun w' hS => val_assign rfl) ?_
      refine yS (by kernel_rfl : opAt F19.o21 6 = some (some 7, .assign (.tmp 82), none)) rfl rfl (fun w' hS => val_assign rfl) ?_
      refine yS (by kernel_rfl : opAt F19.o21 7 = some (some 8, .assign (.const (.int .i64 0)), none)) rfl rfl (fun w' hS => val_assign rfl) ?_
      refine Sch.nil ?_
      refine run_ret3 (by kernel_rfl) Try.func19 Try.results19 rfl rfl rfl ?_
      rw [hG.tot, hout2, hck]
      rw [hout1] at ho
      exact ⟨_, rfl, hT.out1 (by decide), ho.out hT hF0 (Mc_col1 C) (fun b _ => col1_lt C (by decide) b) (by rw [← hout1]; have := outI_len (gI stl) n; omega)⟩
end Go.Proofs.Ytgooehopkmbkfaa
