/- Steps through functions of the program. -/
import Derived.Test.YtgooehopkmbkfaaJT4
import Derived.Test.YtgooehopkmbkfaaJT6
set_option linter.unusedVariables false
set_option linter.unusedSimpArgs false
set_option maxRecDepth 100000
set_option maxHeartbeats 4000000
namespace Go.Proofs.Ytgooehopkmbkfaa
open Go.K Go.K.Rep

namespace F47
noncomputable def c0 : Code := bodyOf Try.f47
noncomputable def c1 : Code := cl c0
noncomputable def o0 : Array Oper := rops c1
noncomputable def c2 : Code := cr c0
noncomputable def c3 : Code := cl c2
noncomputable def o1 : Array Oper := rops c3
noncomputable def c4 : Code := cr c2
end F47
theorem joins_ok {w₀ : World} {C : Nat → Nat} {n m gb : Nat} {gr : Gr} {wt : Nat → Nat → Int} {U V : Nat → Int} {b2 b3 b4 b5 : Nat} {vst vus : Value} {stl : List Int} {usl : List Bool} (hF : Lim w₀ C) (hG : GrIs n m wt U V gr) (hg : RA w₀ (Mc C) gr gb 0) (h2 : RA w₀ (Mc C) (⟨vst⟩ : Sv) b2 0) (h3 : RA w₀ (Mc C) (⟨vus⟩ : Sv) b3 0) (h4 : RA w₀ (Mc C) (⟨.pointer (some ⟨gb, 0, none⟩)⟩ : Sv) b4 0) (h5 : RA w₀ (Mc C) (⟨.nilFunc⟩ : Sv) b5 0) (hst : RV w₀ (Mc C) stl vst) (hus : RV w₀ (Mc C) usl vus) (hsl : stl.length = n) (hul : usl.length = m) {i j : Nat} (hi : i < n) (hj : j < m) :
    Calls Try.prog 47 #[.int .i64 i, .int .i64 j, .pointer (some ⟨b2, 0, none⟩), .pointer (some ⟨b3, 0, none⟩), .pointer (some ⟨b4, 0, none⟩), .pointer (some ⟨b5, 0, none⟩)] w₀ (Ret fun v w' => v = .bool (jB stl usl wt U V i j) ∧ Stp [] w₀ C w' C) := by
  have hF0 := hF
  have hT := Stp.refl [2, 3, 4, 5, 6, 7, 8, 9] w₀ (col1 C)
  replace hF := hF.col1
  replace h2 := (show RA w₀ (Mc (col1 C)) _ _ 0 from by rw [Mc_col1]; exact h2)
  replace h3 := (show RA w₀ (Mc (col1 C)) _ _ 0 from by rw [Mc_col1]; exact h3)
  replace h4 := (show RA w₀ (Mc (col1 C)) _ _ 0 from by rw [Mc_col1]; exact h4)
  replace h5 := (show RA w₀ (Mc (col1 C)) _ _ 0 from by rw [Mc_col1]; exact h5)
  replace hg := (show RA w₀ (Mc (col1 C)) _ _ 0 from by rw [Mc_col1]; exact hg)
  replace hst := (show RV w₀ (Mc (col1 C)) _ _ from by rw [Mc_col1]; exact hst)
  replace hus := (show RV w₀ (Mc (col1 C)) _ _ from by rw [Mc_col1]; exact hus)
  have hel := hG.edl
  have hsg : gI stl i = stl[i]'(by omega) := getD_in _
  have hug : gB usl j = usl[j]'(by omega) := getD_in _
  have hrl0 : (gr.edge[i]'(by omega)).length = m := hG.edm _ (List.getElem_mem _)
  have hev : ((gr.edge[i]'(by omega))[j]'(by omega)) = edgeB wt U V i j := by
    have e1 : gr.edge.getD i [] = gr.edge[i]'(by omega) := getD_in _
    rw [← hG.ed _ _ (by omega) (by omega), e1]; exact (getD_in _).symm
  refine calls_start (c := F47.c0) (N := 43) [.int .i64 i, .int .i64 j, .pointer (some ⟨b2, 0, none⟩), .pointer (some ⟨b3, 0, none⟩), .pointer (some ⟨b4, 0, none⟩), .pointer (some ⟨b5, 0, none⟩)] Try.func47 (by kernel_rfl) (by kernel_rfl) (by kernel_rfl) ?_
  show Run _ _ _ _ [(0, .int .i64 i), (1, .int .i64 j), (2, .pointer (some ⟨b2, 0, none⟩)), (3, .pointer (some ⟨b3, 0, none⟩)), (4, .pointer (some ⟨b4, 0, none⟩)), (5, .pointer (some ⟨b5, 0, none⟩))] _ _
  refine run_seq (x := F47.c1) (y := F47.c2) (by kernel_rfl) ?_
  refine run_plain (id := 0) (ops := F47.o0) [(0, true)] (by kernel_rfl) (by kernel_rfl) ?_
  refine yS (by kernel_rfl : opAt F47.o0 0 = some (some 8, .assign (.const (.bool false)), none)) rfl rfl (fun w' hS => val_assign rfl) ?_
  refine Sch.nil ?_
  refine kp (sub_cons 0 rfl rfl (sub_cons 1 rfl rfl (sub_cons 2 rfl rfl (sub_cons 3 rfl rfl (sub_cons 4 rfl rfl (sub_cons 5 rfl rfl (sub_nil _))))))) ?_
  refine run_seq (x := F47.c3) (y := F47.c4) (by kernel_rfl) ?_
  refine run_cut 8 (jB stl usl wt U V i j) (col1 C) ?_ ?_
  · intro hcut
    by_cases hA : stl[i]'(by omega) = -2
    · skip
      by_cases hB : usl[j]'(by omega) = true
      · skip
        refine run_plain (id := 1) (ops := F47.o1) [(0, false), (1, true), (2, true), (3, false), (4, true), (5, true), (6, false), (7, true), (8, true), (9, false), (10, true), (11, true), (12, true), (13, false), (14, true), (15, true), (16, false), (17, true), (18, true), (19, false), (20, true), (21, true), (22, false), (23, true), (24, true), (25, false), (26, true), (27, true), (28, false), (29, true), (30, true), (31, false), (32, true), (33, true), (34, true)] (by kernel_rfl) (by kernel_rfl) ?_
        have hcs := Stp.reflF hF
        refine lN (by kernel_rfl : opAt F47.o1 0 = some (some 9, .load 22 (.tmp 2), none)) rfl rfl trivial h2 (by kernel_rfl) rfl rfl ?_
        intro v9 g9
        obtain ⟨e9, _⟩ := rv_sv.1 g9
        subst e9
        refine yS (by kernel_rfl : opAt F47.o1 1 = some (some 10, .move (.tmp 0), none)) rfl rfl (fun w' hS => val_move rfl) ?_
        refine iS (e := 3) (by kernel_rfl : opAt F47.o1 2 = some (some 11, .indexAddr 22 (.tmp 9) (.tmp 10), none)) rfl rfl hst rfl (by kernel_rfl) rfl (by omega) (by omega) ?_
        intro b11 o11 h11
        try simp only [Int.toNat_natCast] at h11
        refine lN (by kernel_rfl : opAt F47.o1 3 = some (some 12, .load 3 (.tmp 11), none)) rfl rfl trivial h11 (by kernel_rfl) rfl rfl ?_
        intro v12 g12
        first | (obtain rfl := rv_nat.1 g12) | (obtain rfl := rv_int.1 g12)
        skip
        refine yS (by kernel_rfl : opAt F47.o1 4 = some (some 13, .binOp .eql 3 (.tmp 12) (.const (.int .i64 (-2))) 3, none)) rfl rfl (fun w' hS => val_T (val_eql rfl rfl) hA) ?_
        refine yS (by kernel_rfl : opAt F47.o1 5 = some (some 14, .move (.tmp 13), none)) rfl rfl (fun w' hS => val_move rfl) ?_
        refine lN (by kernel_rfl : opAt F47.o1 6 = some (some 15, .load 48 (.tmp 3), (some (5, true)))) rfl rfl trivial h3 (by kernel_rfl) rfl rfl ?_
        intro v15 g15
        obtain ⟨e15, _⟩ := rv_sv.1 g15
        subst e15
        refine yS (by kernel_rfl : opAt F47.o1 7 = some (some 16, .move (.tmp 1), (some (5, true)))) rfl rfl (fun w' hS => val_move rfl) ?_
        refine iS (e := 4) (by kernel_rfl : opAt F47.o1 8 = some (some 17, .indexAddr 48 (.tmp 15) (.tmp 16), (some (5, true)))) rfl rfl hus rfl (by kernel_rfl) rfl (by omega) (by omega) ?_
        intro b17 o17 h17
        try simp only [Int.toNat_natCast] at h17
        refine lN (by kernel_rfl : opAt F47.o1 9 = some (some 18, .load 4 (.tmp 17), (some (5, true)))) rfl rfl trivial h17 (by kernel_rfl) rfl rfl ?_
        intro v18 g18
        obtain rfl := rv_bool.1 g18
        rw [hB]
        refine yS (by kernel_rfl : opAt F47.o1 10 = some (some 19, .unOp .not 4 (.tmp 18), (some (5, true)))) rfl rfl (fun w' hS => val_not rfl) ?_
        refine yS (by kernel_rfl : opAt F47.o1 11 = some (some 20, .pick (.tmp 14) (.tmp 19) (.const (.bool false)), none)) rfl rfl (fun w' hS => val_pick_t rfl rfl) ?_
        refine yS (by kernel_rfl : opAt F47.o1 12 = some (some 21, .move (.tmp 20), none)) rfl rfl (fun w' hS => val_move rfl) ?_
        refine pW (by kernel_rfl : opAt F47.o1 13 = some (some 22, .load 62 (.tmp 4), (some (12, true)))) rfl rfl trivial ?_
        refine pS (by kernel_rfl : opAt F47.o1 14 = some (some 23, .nilCheck (.tmp 22), (some (12, true)))) rfl rfl ?_
        refine pS (by kernel_rfl : opAt F47.o1 15 = some (some 24, .fieldAddr 69 (.tmp 23) 5, (some (12, true)))) rfl rfl ?_
        refine pW (by kernel_rfl : opAt F47.o1 16 = some (some 25, .load 67 (.tmp 24), (some (12, true)))) rfl rfl trivial ?_
        refine pS (by kernel_rfl : opAt F47.o1 17 = some (some 26, .move (.tmp 0), (some (12, true)))) rfl rfl ?_
        refine pS (by kernel_rfl : opAt F47.o1 18 = some (some 27, .indexAddr 67 (.tmp 25) (.tmp 26), (some (12, true)))) rfl rfl ?_
        refine pW (by kernel_rfl : opAt F47.o1 19 = some (some 28, .load 48 (.tmp 27), (some (12, true)))) rfl rfl trivial ?_
        refine pS (by kernel_rfl : opAt F47.o1 20 = some (some 29, .move (.tmp 1), (some (12, true)))) rfl rfl ?_
        refine pS (by kernel_rfl : opAt F47.o1 21 = some (some 30, .indexAddr 48 (.tmp 28) (.tmp 29), (some (12, true)))) rfl rfl ?_
        refine pW (by kernel_rfl : opAt F47.o1 22 = some (some 31, .load 4 (.tmp 30), (some (12, true)))) rfl rfl trivial ?_
        refine yS (by kernel_rfl : opAt F47.o1 23 = some (some 32, .pick (.tmp 21) (.tmp 31) (.const (.bool false)), none)) rfl rfl (fun w' hS => val_pick_f rfl rfl) ?_
        refine yS (by kernel_rfl : opAt F47.o1 24 = some (some 33, .move (.tmp 32), none)) rfl rfl (fun w' hS => val_move rfl) ?_
        refine pW (by kernel_rfl : opAt F47.o1 25 = some (some 34, .load 65 (.tmp 5), (some (24, true)))) rfl rfl trivial ?_
        refine pS (by kernel_rfl : opAt F47.o1 26 = some (some 35, .binOp .eql 65 (.tmp 34) (.const .nilFunc) 65, (some (24, true)))) rfl rfl ?_
        refine pS (by kernel_rfl : opAt F47.o1 27 = some (some 36, .move (.tmp 35), (some (24, true)))) rfl rfl ?_
        refine pW (by kernel_rfl : opAt F47.o1 28 = some (some 37, .load 65 (.tmp 5), (some (27, false)))) rfl rfl trivial ?_
        refine pS (by kernel_rfl : opAt F47.o1 29 = some (some 38, .move (.tmp 0), (some (27, false)))) rfl rfl ?_
        refine pS (by kernel_rfl : opAt F47.o1 30 = some (some 39, .move (.tmp 1), (some (27, false)))) rfl rfl ?_
        refine pW (by kernel_rfl : opAt F47.o1 31 = some (some 40, .call { callee := .value (.tmp 37), args := #[(.tmp 38), (.tmp 39)], argTypes := #[3, 3] }, (some (27, false)))) rfl rfl trivial ?_
        refine pS (by kernel_rfl : opAt F47.o1 32 = some (some 41, .pick (.tmp 36) (.const (.bool true)) (.tmp 40), (some (24, true)))) rfl rfl ?_
        refine yS (by kernel_rfl : opAt F47.o1 33 = some (some 42, .pick (.tmp 33) (.tmp 41) (.const (.bool false)), none)) rfl rfl (fun w' hS => val_pick_f rfl rfl) ?_
        refine yS (by kernel_rfl : opAt F47.o1 34 = some (some 8, .assign (.tmp 42), none)) rfl rfl (fun w' hS => val_assign rfl) ?_
        exact Sch.nil (hcut _ _ _ hcs rfl (by unfold jB; rw [hsg, hug, hB]; simp) (sub_skip rfl (sub_skip rfl (sub_skip rfl (sub_skip rfl (sub_skip rfl (sub_skip rfl (sub_skip rfl (sub_skip rfl (sub_skip rfl (sub_skip rfl (sub_skip rfl (sub_skip rfl (sub_skip rfl (sub_skip rfl (sub_skip rfl (sub_skip rfl (sub_skip rfl (sub_skip rfl (sub_skip rfl (sub_skip rfl (sub_skip rfl (sub_skip rfl (sub_skip rfl (sub_skip rfl (sub_skip rfl (sub_skip rfl (sub_skip rfl (sub_skip rfl (sub_skip rfl (sub_skip rfl (sub_skip rfl (sub_skip rfl (sub_skip rfl (sub_skip rfl (sub_skip rfl (Sub.refl _)))))))))))))))))))))))))))))))))))))
      · skip
        by_cases hC : edgeB wt U V i j = true
        · skip
          refine run_plain (id := 1) (ops := F47.o1) [(0, false), (1, true), (2, true), (3, false), (4, true), (5, true), (6, false), (7, true), (8, true), (9, false), (10, true), (11, true), (12, true), (13, false), (14, true), (15, true), (16, false), (17, true), (18, true), (19, false), (20, true), (21, true), (22, false), (23, true), (24, true), (25, false), (26, true), (27, true), (28, false), (29, true), (30, true), (31, false), (32, true), (33, true), (34, true)] (by kernel_rfl) (by kernel_rfl) ?_
          have hcs := Stp.reflF hF
          refine lN (by kernel_rfl : opAt F47.o1 0 = some (some 9, .load 22 (.tmp 2), none)) rfl rfl trivial h2 (by kernel_rfl) rfl rfl ?_
          intro v9 g9
          obtain ⟨e9, _⟩ := rv_sv.1 g9
          subst e9
          refine yS (by kernel_rfl : opAt F47.o1 1 = some (some 10, .move (.tmp 0), none)) rfl rfl (fun w' hS => val_move rfl) ?_
          refine iS (e := 3) (by kernel_rfl : opAt F47.o1 2 = some (some 11, .indexAddr 22 (.tmp 9) (.tmp 10), none)) rfl rfl hst rfl (by kernel_rfl) rfl (by omega) (by omega) ?_
          intro b11 o11 h11
          try simp only [Int.toNat_natCast] at h11
          refine lN (by kernel_rfl : opAt F47.o1 3 = some (some 12, .load 3 (.tmp 11), none)) rfl rfl trivial h11 (by kernel_rfl) rfl rfl ?_
          intro v12 g12
          first | (obtain rfl := rv_nat.1 g12) | (obtain rfl := rv_int.1 g12)
          skip
          refine yS (by kernel_rfl : opAt F47.o1 4 = some (some 13, .binOp .eql 3 (.tmp 12) (.const (.int .i64 (-2))) 3, none)) rfl rfl (fun w' hS => val_T (val_eql rfl rfl) hA) ?_
          refine yS (by kernel_rfl : opAt F47.o1 5 = some (some 14, .move (.tmp 13), none)) rfl rfl (fun w' hS => val_move rfl) ?_
          refine lN (by kernel_rfl : opAt F47.o1 6 = some (some 15, .load 48 (.tmp 3), (some (5, true)))) rfl rfl trivial h3 (by kernel_rfl) rfl rfl ?_
          intro v15 g15
          obtain ⟨e15, _⟩ := rv_sv.1 g15
          subst e15
          refine yS (by kernel_rfl : opAt F47.o1 7 = some (some 16, .move (.tmp 1), (some (5, true)))) rfl rfl (fun w' hS => val_move rfl) ?_
          refine iS (e := 4) (by kernel_rfl : opAt F47.o1 8 = some (some 17, .indexAddr 48 (.tmp 15) (.tmp 16), (some (5, true)))) rfl rfl hus rfl (by kernel_rfl) rfl (by omega) (by omega) ?_
          intro b17 o17 h17
          try simp only [Int.toNat_natCast] at h17
          refine lN (by kernel_rfl : opAt F47.o1 9 = some (some 18, .load 4 (.tmp 17), (some (5, true)))) rfl rfl trivial h17 (by kernel_rfl) rfl rfl ?_
          intro v18 g18
          obtain rfl := rv_bool.1 g18
          rw [Bool.eq_false_iff.2 hB]
          refine yS (by kernel_rfl : opAt F47.o1 10 = some (some 19, .unOp .not 4 (.tmp 18), (some (5, true)))) rfl rfl (fun w' hS => val_not rfl) ?_
          refine yS (by kernel_rfl : opAt F47.o1 11 = some (some 20, .pick (.tmp 14) (.tmp 19) (.const (.bool false)), none)) rfl rfl (fun w' hS => val_pick_t rfl rfl) ?_
          refine yS (by kernel_rfl : opAt F47.o1 12 = some (some 21, .move (.tmp 20), none)) rfl rfl (fun w' hS => val_move rfl) ?_
          refine lN (by kernel_rfl : opAt F47.o1 13 = some (some 22, .load 62 (.tmp 4), (some (12, true)))) rfl rfl trivial h4 (by kernel_rfl) rfl rfl ?_
          intro v22 g22
          obtain ⟨e22, _⟩ := rv_sv.1 g22
          subst e22
          refine yS (by kernel_rfl : opAt F47.o1 14 = some (some 23, .nilCheck (.tmp 22), (some (12, true)))) rfl rfl (fun w' hS => val_nilCheck rfl) ?_
          have h24 := RA.gE hg
          refine yS (by kernel_rfl : opAt F47.o1 15 = some (some 24, .fieldAddr 69 (.tmp 23) 5, (some (12, true)))) rfl rfl (fun w' hS => val_fieldAddr (off := 5) (by kernel_rfl) rfl) ?_
          refine lN (by kernel_rfl : opAt F47.o1 16 = some (some 25, .load 67 (.tmp 24), (some (12, true)))) rfl rfl trivial h24 (by kernel_rfl) rfl rfl ?_
          intro v25 g25
          refine yS (by kernel_rfl : opAt F47.o1 17 = some (some 26, .move (.tmp 0), (some (12, true)))) rfl rfl (fun w' hS => val_move rfl) ?_
          refine iS (e := 48) (by kernel_rfl : opAt F47.o1 18 = some (some 27, .indexAddr 67 (.tmp 25) (.tmp 26), (some (12, true)))) rfl rfl g25 rfl (by kernel_rfl) rfl (by omega) (by omega) ?_
          intro b27 o27 h27
          try simp only [Int.toNat_natCast] at h27
          refine lN (by kernel_rfl : opAt F47.o1 19 = some (some 28, .load 48 (.tmp 27), (some (12, true)))) rfl rfl trivial h27 (by kernel_rfl) rfl rfl ?_
          intro v28 g28
          have hrl : (gr.edge[i]'(by omega)).length = m := hG.edm _ (List.getElem_mem _)
          refine yS (by kernel_rfl : opAt F47.o1 20 = some (some 29, .move (.tmp 1), (some (12, true)))) rfl rfl (fun w' hS => val_move rfl) ?_
          refine iS (e := 4) (by kernel_rfl : opAt F47.o1 21 = some (some 30, .indexAddr 48 (.tmp 28) (.tmp 29), (some (12, true)))) rfl rfl g28 rfl (by kernel_rfl) rfl (by omega) (by omega) ?_
          intro b30 o30 h30
          try simp only [Int.toNat_natCast] at h30
          refine lN (by kernel_rfl : opAt F47.o1 22 = some (some 31, .load 4 (.tmp 30), (some (12, true)))) rfl rfl trivial h30 (by kernel_rfl) rfl rfl ?_
          intro v31 g31
          obtain rfl := rv_bool.1 g31
          rw [hev]
          rw [hC]
          refine yS (by kernel_rfl : opAt F47.o1 23 = some (some 32, .pick (.tmp 21) (.tmp 31) (.const (.bool false)), none)) rfl rfl (fun w' hS => val_pick_t rfl rfl) ?_
          refine yS (by kernel_rfl : opAt F47.o1 24 = some (some 33, .move (.tmp 32), none)) rfl rfl (fun w' hS => val_move rfl) ?_
          refine lN (by kernel_rfl : opAt F47.o1 25 = some (some 34, .load 65 (.tmp 5), (some (24, true)))) rfl rfl trivial h5 (by kernel_rfl) rfl rfl ?_
          intro v34 g34
          obtain ⟨e34, _⟩ := rv_sv.1 g34
          subst e34
          refine yS (by kernel_rfl : opAt F47.o1 26 = some (some 35, .binOp .eql 65 (.tmp 34) (.const .nilFunc) 65, (some (24, true)))) rfl rfl (fun w' hS => val_nilFunc rfl ⟨_, _, _, Try.underlying65⟩) ?_
          refine yS (by kernel_rfl : opAt F47.o1 27 = some (some 36, .move (.tmp 35), (some (24, true)))) rfl rfl (fun w' hS => val_move rfl) ?_
          refine pW (by kernel_rfl : opAt F47.o1 28 = some (some 37, .load 65 (.tmp 5), (some (27, false)))) rfl rfl trivial ?_
          refine pS (by kernel_rfl : opAt F47.o1 29 = some (some 38, .move (.tmp 0), (some (27, false)))) rfl rfl ?_
          refine pS (by kernel_rfl : opAt F47.o1 30 = some (some 39, .move (.tmp 1), (some (27, false)))) rfl rfl ?_
          refine pW (by kernel_rfl : opAt F47.o1 31 = some (some 40, .call { callee := .value (.tmp 37), args := #[(.tmp 38), (.tmp 39)], argTypes := #[3, 3] }, (some (27, false)))) rfl rfl trivial ?_
          refine yS (by kernel_rfl : opAt F47.o1 32 = some (some 41, .pick (.tmp 36) (.const (.bool true)) (.tmp 40), (some (24, true)))) rfl rfl (fun w' hS => val_pick_t rfl rfl) ?_
          refine yS (by kernel_rfl : opAt F47.o1 33 = some (some 42, .pick (.tmp 33) (.tmp 41) (.const (.bool false)), none)) rfl rfl (fun w' hS => val_pick_t rfl rfl) ?_
          refine yS (by kernel_rfl : opAt F47.o1 34 = some (some 8, .assign (.tmp 42), none)) rfl rfl (fun w' hS => val_assign rfl) ?_
          exact Sch.nil (hcut _ _ _ hcs rfl (by unfold jB; rw [hsg, hug, hC, Bool.eq_false_iff.2 hB]; simp [hA]) (sub_skip rfl (sub_skip rfl (sub_skip rfl (sub_skip rfl (sub_skip rfl (sub_skip rfl (sub_skip rfl (sub_skip rfl (sub_skip rfl (sub_skip rfl (sub_skip rfl (sub_skip rfl (sub_skip rfl (sub_skip rfl (sub_skip rfl (sub_skip rfl (sub_skip rfl (sub_skip rfl (sub_skip rfl (sub_skip rfl (sub_skip rfl (sub_skip rfl (sub_skip rfl (sub_skip rfl (sub_skip rfl (sub_skip rfl (sub_skip rfl (sub_skip rfl (sub_skip rfl (sub_skip rfl (sub_skip rfl (sub_skip rfl (sub_skip rfl (sub_skip rfl (sub_skip rfl (Sub.refl _)))))))))))))))))))))))))))))))))))))
        · skip
          refine run_plain (id := 1) (ops := F47.o1) [(0, false), (1, true), (2, true), (3, false), (4, true), (5, true), (6, false), (7, true), (8, true), (9, false), (10, true), (11, true), (12, true), (13, false), (14, true), (15, true), (16, false), (17, true), (18, true), (19, false), (20, true), (21, true), (22, false), (23, true), (24, true), (25, false), (26, true), (27, true), (28, false), (29, true), (30, true), (31, false), (32, true), (33, true), (34, true)] (by kernel_rfl) (by kernel_rfl) ?_
          have hcs := Stp.reflF hF
          refine lN (by kernel_rfl : opAt F47.o1 0 = some (some 9, .load 22 (.tmp 2), none)) rfl rfl trivial h2 (by kernel_rfl) rfl rfl ?_
          intro v9 g9
          obtain ⟨e9, _⟩ := rv_sv.1 g9
          subst e9
          refine yS (by kernel_rfl : opAt F47.o1 1 = some (some 10, .move (.tmp 0), none)) rfl rfl (fun w' hS => val_move rfl) ?_
          refine iS (e := 3) (by kernel_rfl : opAt F47.o1 2 = some (some 11, .indexAddr 22 (.tmp 9) (.tmp 10), none)) rfl rfl hst rfl (by kernel_rfl) rfl (by omega) (by omega) ?_
          intro b11 o11 h11
          try simp only [Int.toNat_natCast] at h11
          refine lN (by kernel_rfl : opAt F47.o1 3 = some (some 12, .load 3 (.tmp 11), none)) rfl rfl trivial h11 (by kernel_rfl) rfl rfl ?_
          intro v12 g12
          first | (obtain rfl := rv_nat.1 g12) | (obtain rfl := rv_int.1 g12)
          skip
          refine yS (by kernel_rfl : opAt F47.o1 4 = some (some 13, .binOp .eql 3 (.tmp 12) (.const (.int .i64 (-2))) 3, none)) rfl rfl (fun w' hS => val_T (val_eql rfl rfl) hA) ?_
          refine yS (by kernel_rfl : opAt F47.o1 5 = some (some 14, .move (.tmp 13), none)) rfl rfl (fun w' hS => val_move rfl) ?_
          refine lN (by kernel_rfl : opAt F47.o1 6 = some (some 15, .load 48 (.tmp 3), (some (5, true)))) rfl rfl trivial h3 (by kernel_rfl) rfl rfl ?_
          intro v15 g15
          obtain ⟨e15, _⟩ := rv_sv.1 g15
          subst e15
          refine yS (by kernel_rfl : opAt F47.o1 7 = some (some 16, .move (.tmp 1), (some (5, true)))) rfl rfl (fun w' hS => val_move rfl) ?_
          refine iS (e := 4) (by kernel_rfl : opAt F47.o1 8 = some (some 17, .indexAddr 48 (.tmp 15) (.tmp 16), (some (5, true)))) rfl rfl hus rfl (by kernel_rfl) rfl (by omega) (by omega) ?_
          intro b17 o17 h17
          try simp only [Int.toNat_natCast] at h17
          refine lN (by kernel_rfl : opAt F47.o1 9 = some (some 18, .load 4 (.tmp 17), (some (5, true)))) rfl rfl trivial h17 (by kernel_rfl) rfl rfl ?_
          intro v18 g18
          obtain rfl := rv_bool.1 g18
          rw [Bool.eq_false_iff.2 hB]
          refine yS (by kernel_rfl : opAt F47.o1 10 = some (some 19, .unOp .not 4 (.tmp 18), (some (5, true)))) rfl rfl (fun w' hS => val_not rfl) ?_
          refine yS (by kernel_rfl : opAt F47.o1 11 = some (some 20, .pick (.tmp 14) (.tmp 19) (.const (.bool false)), none)) rfl rfl (fun w' hS => val_pick_t rfl rfl) ?_
          refine yS (by kernel_rfl : opAt F47.o1 12 = some (some 21, .move (.tmp 20), none)) rfl rfl (fun w' hS => val_move rfl) ?_
          refine lN (by kernel_rfl : opAt F47.o1 13 = some (some 22, .load 62 (.tmp 4), (some (12, true)))) rfl rfl trivial h4 (by kernel_rfl) rfl rfl ?_
          intro v22 g22
          obtain ⟨e22, _⟩ := rv_sv.1 g22
          subst e22
          refine yS (by kernel_rfl : opAt F47.o1 14 = some (some 23, .nilCheck (.tmp 22), (some (12, true)))) rfl rfl (fun w' hS => val_nilCheck rfl) ?_
          have h24 := RA.gE hg
          refine yS (by kernel_rfl : opAt F47.o1 15 = some (some 24, .fieldAddr 69 (.tmp 23) 5, (some (12, true)))) rfl rfl (fun w' hS => val_fieldAddr (off := 5) (by kernel_rfl) rfl) ?_
          refine lN (by kernel_rfl : opAt F47.o1 16 = some (some 25, .load 67 (.tmp 24), (some (12, true)))) rfl rfl trivial h24 (by kernel_rfl) rfl rfl ?_
          intro v25 g25
          refine yS (by kernel_rfl : opAt F47.o1 17 = some (some 26, .move (.tmp 0), (some (12, true)))) rfl rfl (fun w' hS => val_move rfl) ?_
          refine iS (e := 48) (by kernel_rfl : opAt F47.o1 18 = some (some 27, .indexAddr 67 (.tmp 25) (.tmp 26), (some (12, true)))) rfl rfl g25 rfl (by kernel_rfl) rfl (by omega) (by omega) ?_
          intro b27 o27 h27
          try simp only [Int.toNat_natCast] at h27
          refine lN (by kernel_rfl : opAt F47.o1 19 = some (some 28, .load 48 (.tmp 27), (some (12, true)))) rfl rfl trivial h27 (by kernel_rfl) rfl rfl ?_
          intro v28 g28
          have hrl : (gr.edge[i]'(by omega)).length = m := hG.edm _ (List.getElem_mem _)
          refine yS (by kernel_rfl : opAt F47.o1 20 = some (some 29, .move (.tmp 1), (some (12, true)))) rfl rfl (fun w' hS => val_move rfl) ?_
          refine iS (e := 4) (by kernel_rfl : opAt F47.o1 21 = some (some 30, .indexAddr 48 (.tmp 28) (.tmp 29), (some (12, true)))) rfl rfl g28 rfl (by kernel_rfl) rfl (by omega) (by omega) ?_
          intro b30 o30 h30
          try simp only [Int.toNat_natCast] at h30
          refine lN (by kernel_rfl : opAt F47.o1 22 = some (some 31, .load 4 (.tmp 30), (some (12, true)))) rfl rfl trivial h30 (by kernel_rfl) rfl rfl ?_
          intro v31 g31
          obtain rfl := rv_bool.1 g31
          rw [hev]
          rw [Bool.eq_false_iff.2 hC]
          refine yS (by kernel_rfl : opAt F47.o1 23 = some (some 32, .pick (.tmp 21) (.tmp 31) (.const (.bool false)), none)) rfl rfl (fun w' hS => val_pick_t rfl rfl) ?_
          refine yS (by kernel_rfl : opAt F47.o1 24 = some (some 33, .move (.tmp 32), none)) rfl rfl (fun w' hS => val_move rfl) ?_
          refine pW (by kernel_rfl : opAt F47.o1 25 = some (some 34, .load 65 (.tmp 5), (some (24, true)))) rfl rfl trivial ?_
          refine pS (by kernel_rfl : opAt F47.o1 26 = some (some 35, .binOp .eql 65 (.tmp 34) (.const .nilFunc) 65, (some (24, true)))) rfl rfl ?_
          refine pS (by kernel_rfl : opAt F47.o1 27 = some (some 36, .move (.tmp 35), (some (24, true)))) rfl rfl ?_
          refine pW (by kernel_rfl : opAt F47.o1 28 = some (some 37, .load 65 (.tmp 5), (some (27, false)))) rfl rfl trivial ?_
          refine pS (by kernel_rfl : opAt F47.o1 29 = some (some 38, .move (.tmp 0), (some (27, false)))) rfl rfl ?_
          refine pS (by kernel_rfl : opAt F47.o1 30 = some (some 39, .move (.tmp 1), (some (27, false)))) rfl rfl ?_
          refine pW (by kernel_rfl : opAt F47.o1 31 = some (some 40, .call { callee := .value (.tmp 37), args := #[(.tmp 38), (.tmp 39)], argTypes := #[3, 3] }, (some (27, false)))) rfl rfl trivial ?_
          refine pS (by kernel_rfl : opAt F47.o1 32 = some (some 41, .pick (.tmp 36) (.const (.bool true)) (.tmp 40), (some (24, true)))) rfl rfl ?_
          refine yS (by kernel_rfl : opAt F47.o1 33 = some (some 42, .pick (.tmp 33) (.tmp 41) (.const (.bool false)), none)) rfl rfl (fun w' hS => val_pick_f rfl rfl) ?_
          refine yS (by kernel_rfl : opAt F47.o1 34 = some (some 8, .assign (.tmp 42), none)) rfl rfl (fun w' hS => val_assign rfl) ?_
          exact Sch.nil (hcut _ _ _ hcs rfl (by unfold jB; rw [Bool.eq_false_iff.2 hC]; simp) (sub_skip rfl (sub_skip rfl (sub_skip rfl (sub_skip rfl (sub_skip rfl (sub_skip rfl (sub_skip rfl (sub_skip rfl (sub_skip rfl (sub_skip rfl (sub_skip rfl (sub_skip rfl (sub_skip rfl (sub_skip rfl (sub_skip rfl (sub_skip rfl (sub_skip rfl (sub_skip rfl (sub_skip rfl (sub_skip rfl (sub_skip rfl (sub_skip rfl (sub_skip rfl (sub_skip rfl (sub_skip rfl (sub_skip rfl (sub_skip rfl (sub_skip rfl (sub_skip rfl (sub_skip rfl (sub_skip rfl (sub_skip rfl (sub_skip rfl (sub_skip rfl (sub_skip rfl (Sub.refl _)))))))))))))))))))))))))))))))))))))
    · skip
      refine run_plain (id := 1) (ops := F47.o1) [(0, false), (1, true), (2, true), (3, false), (4, true), (5, true), (6, false), (7, true), (8, true), (9, false), (10, true), (11, true), (12, true), (13, false), (14, true), (15, true), (16, false), (17, true), (18, true), (19, false), (20, true), (21, true), (22, false), (23, true), (24, true), (25, false), (26, true), (27, true), (28, false), (29, true), (30, true), (31, false), (32, true), (33, true), (34, true)] (by kernel_rfl) (by kernel_rfl) ?_
      have hcs := Stp.reflF hF
      refine lN (by kernel_rfl : opAt F47.o1 0 = some (some 9, .load 22 (.tmp 2), none)) rfl rfl trivial h2 (by kernel_rfl) rfl rfl ?_
      intro v9 g9
      obtain ⟨e9, _⟩ := rv_sv.1 g9
      subst e9
      refine yS (by kernel_rfl : opAt F47.o1 1 = some (some 10, .move (.tmp 0), none)) rfl rfl (fun w' hS => val_move rfl) ?_
      refine iS (e := 3) (by kernel_rfl : opAt F47.o1 2 = some (some 11, .indexAddr 22 (.tmp 9) (.tmp 10), none)) rfl rfl hst rfl (by kernel_rfl) rfl (by omega) (by omega) ?_
      intro b11 o11 h11
      try simp only [Int.toNat_natCast] at h11
      refine lN (by kernel_rfl : opAt F47.o1 3 = some (some 12, .load 3 (.tmp 11), none)) rfl rfl trivial h11 (by kernel_rfl) rfl rfl ?_
      intro v12 g12
      first | (obtain rfl := rv_nat.1 g12) | (obtain rfl := rv_int.1 g12)
      skip
      refine yS (by kernel_rfl : opAt F47.o1 4 = some (some 13, .binOp .eql 3 (.tmp 12) (.const (.int .i64 (-2))) 3, none)) rfl rfl (fun w' hS => val_F (val_eql rfl rfl) hA) ?_
      refine yS (by kernel_rfl : opAt F47.o1 5 = some (some 14, .move (.tmp 13), none)) rfl rfl (fun w' hS => val_move rfl) ?_
      refine pW (by kernel_rfl : opAt F47.o1 6 = some (some 15, .load 48 (.tmp 3), (some (5, true)))) rfl rfl trivial ?_
      refine pS (by kernel_rfl : opAt F47.o1 7 = some (some 16, .move (.tmp 1), (some (5, true)))) rfl rfl ?_
      refine pS (by kernel_rfl : opAt F47.o1 8 = some (some 17, .indexAddr 48 (.tmp 15) (.tmp 16), (some (5, true)))) rfl rfl ?_
      refine pW (by kernel_rfl : opAt F47.o1 9 = some (some 18, .load 4 (.tmp 17), (some (5, true)))) rfl rfl trivial ?_
      refine pS (by kernel_rfl : opAt F47.o1 10 = some (some 19, .unOp .not 4 (.tmp 18), (some (5, true)))) rfl rfl ?_
      refine yS (by kernel_rfl : opAt F47.o1 11 = some (some 20, .pick (.tmp 14) (.tmp 19) (.const (.bool false)), none)) rfl rfl (fun w' hS => val_pick_f rfl rfl) ?_
      refine yS (by kernel_rfl : opAt F47.o1 12 = some (some 21, .move (.tmp 20), none)) rfl rfl (fun w' hS => val_move rfl) ?_
      refine pW (by kernel_rfl : opAt F47.o1 13 = some (some 22, .load 62 (.tmp 4), (some (12, true)))) rfl rfl trivial ?_
      refine pS (by kernel_rfl : opAt F47.o1 14 = some (some 23, .nilCheck (.tmp 22), (some (12, true)))) rfl rfl ?_
      refine pS (by kernel_rfl : opAt F47.o1 15 = some (some 24, .fieldAddr 69 (.tmp 23) 5, (some (12, true)))) rfl rfl ?_
      refine pW (by kernel_rfl : opAt F47.o1 16 = some (some 25, .load 67 (.tmp 24), (some (12, true)))) rfl rfl trivial ?_
      refine pS (by kernel_rfl : opAt F47.o1 17 = some (some 26, .move (.tmp 0), (some (12, true)))) rfl rfl ?_
      refine pS (by kernel_rfl : opAt F47.o1 18 = some (some 27, .indexAddr 67 (.tmp 25) (.tmp 26), (some (12, true)))) rfl rfl ?_
      refine pW (by kernel_rfl : opAt F47.o1 19 = some (some 28, .load 48 (.tmp 27), (some (12, true)))) rfl rfl trivial ?_
      refine pS (by kernel_rfl : opAt F47.o1 20 = some (some 29, .move (.tmp 1), (some (12, true)))) rfl rfl ?_
      refine pS (by kernel_rfl : opAt F47.o1 21 = some (some 30, .indexAddr 48 (.tmp 28) (.tmp 29), (some (12, true)))) rfl rfl ?_
      refine pW (by kernel_rfl : opAt F47.o1 22 = some (some 31, .load 4 (.tmp 30), (some (12, true)))) rfl rfl trivial ?_
      refine yS (by kernel_rfl : opAt F47.o1 23 = some (some 32, .pick (.tmp 21) (.tmp 31) (.const (.bool false)), none)) rfl rfl (fun w' hS => val_pick_f rfl rfl) ?_
      refine yS (by kernel_rfl : opAt F47.o1 24 = some (some 33, .move (.tmp 32), none)) rfl rfl (fun w' hS => val_move rfl) ?_
      refine pW (by kernel_rfl : opAt F47.o1 25 = some (some 34, .load 65 (.tmp 5), (some (24, true)))) rfl rfl trivial ?_
      refine pS (by kernel_rfl : opAt F47.o1 26 = some (some 35, .binOp .eql 65 (.tmp 34) (.const .nilFunc) 65, (some (24, true)))) rfl rfl ?_
      refine pS (by kernel_rfl : opAt F47.o1 27 = some (some 36, .move (.tmp 35), (some (24, true)))) rfl rfl ?_
      refine pW (by kernel_rfl : opAt F47.o1 28 = some (some 37, .load 65 (.tmp 5), (some (27, false)))) rfl rfl trivial ?_
      refine pS (by kernel_rfl : opAt F47.o1 29 = some (some 38, .move (.tmp 0), (some (27, false)))) rfl rfl ?_
      refine pS (by kernel_rfl : opAt F47.o1 30 = some (some 39, .move (.tmp 1), (some (27, false)))) rfl rfl ?_
      refine pW (by kernel_rfl : opAt F47.o1 31 = some (some 40, .call { callee := .value (.tmp 37), args := #[(.tmp 38), (.tmp 39)], argTypes := #[3, 3] }, (some (27, false)))) rfl rfl trivial ?_
      refine pS (by kernel_rfl : opAt F47.o1 32 = some (some 41, .pick (.tmp 36) (.const (.bool true)) (.tmp 40), (some (24, true)))) rfl rfl ?_
      refine yS (by kernel_rfl : opAt F47.o1 33 = some (some 42, .pick (.tmp 33) (.tmp 41) (.const (.bool false)), none)) rfl rfl (fun w' hS => val_pick_f rfl rfl) ?_
      refine yS (by kernel_rfl : opAt F47.o1 34 = some (some 8, .assign (.tmp 42), none)) rfl rfl (fun w' hS => val_assign rfl) ?_
      exact Sch.nil (hcut _ _ _ hcs rfl (by unfold jB; rw [hsg]; simp [hA]) (sub_skip rfl (sub_skip rfl (sub_skip rfl (sub_skip rfl (sub_skip rfl (sub_skip rfl (sub_skip rfl (sub_skip rfl (sub_skip rfl (sub_skip rfl (sub_skip rfl (sub_skip rfl (sub_skip rfl (sub_skip rfl (sub_skip rfl (sub_skip rfl (sub_skip rfl (sub_skip rfl (sub_skip rfl (sub_skip rfl (sub_skip rfl (sub_skip rfl (sub_skip rfl (sub_skip rfl (sub_skip rfl (sub_skip rfl (sub_skip rfl (sub_skip rfl (sub_skip rfl (sub_skip rfl (sub_skip rfl (sub_skip rfl (sub_skip rfl (sub_skip rfl (sub_skip rfl (Sub.refl _)))))))))))))))))))))))))))))))))))))
  intro w1 hs
  replace hF := hF.st hs
  replace hT := hT.trans hs (by simp)
  replace h2 := h2.st hs (by first | decide | (simp <;> omega))
  replace h3 := h3.st hs (by first | decide | (simp <;> omega))
  replace h4 := h4.st hs (by first | decide | (simp <;> omega))
  replace h5 := h5.st hs (by first | decide | (simp <;> omega))
  replace hst := hst.st hs (by first | decide | (simp <;> omega))
  replace hus := hus.st hs (by first | decide | (simp <;> omega))
  replace hg := hg.st hs (by first | decide | (simp <;> omega))
  refine run_ret1 (by kernel_rfl) Try.func47 Try.results47 rfl ?_
  exact ⟨rfl, hT.out1 (by decide)⟩
namespace F49
noncomputable def c0 : Code := bodyOf Try.f49
noncomputable def c1 : Code := cl c0
noncomputable def o0 : Array Oper := rops c1
noncomputable def c2 : Code := cr c0
noncomputable def c3 : Code := cl c2
noncomputable def o1 : Array Oper := rops c3
noncomputable def c4 : Code := cr c2
end F49
theorem mustU_ok {w₀ : World} {C : Nat → Nat} {n m gb : Nat} {gr : Gr} {wt : Nat → Nat → Int} {U V : Nat → Int} {b2 b4 : Nat} {vst : Value} {stl : List Int} (hF : Lim w₀ C) (hG : GrIs n m wt U V gr) (hg : RA w₀ (Mc C) gr gb 0) (h2 : RA w₀ (Mc C) (⟨vst⟩ : Sv) b2 0) (h4 : RA w₀ (Mc C) (⟨.pointer (some ⟨gb, 0, none⟩)⟩ : Sv) b4 0) (hst : RV w₀ (Mc C) stl vst) (hsl : stl.length = n) {i : Nat} (hi : i < n) :
    Calls Try.prog 49 #[.int .i64 i, .pointer (some ⟨b2, 0, none⟩), .pointer (some ⟨b4, 0, none⟩)] w₀ (Ret fun v w' => v = .bool (decide (gI stl i = -2 ∧ 0 < U i)) ∧ Stp [] w₀ C w' C) := by
  have hF0 := hF
  have hT := Stp.refl [2, 3, 4, 5, 6, 7, 8, 9] w₀ (col1 C)
  replace hF := hF.col1
  replace h2 := (show RA w₀ (Mc (col1 C)) _ _ 0 from by rw [Mc_col1]; exact h2)
  replace h4 := (show RA w₀ (Mc (col1 C)) _ _ 0 from by rw [Mc_col1]; exact h4)
  replace hg := (show RA w₀ (Mc (col1 C)) _ _ 0 from by rw [Mc_col1]; exact hg)
  replace hst := (show RV w₀ (Mc (col1 C)) _ _ from by rw [Mc_col1]; exact hst)
  have hUl := hG.Ul
  have hsg : gI stl i = stl[i]'(by omega) := getD_in _
  have hux : gr.U[i]'(by omega) = U i := by rw [← hG.Ug i hi]; exact (getD_in _).symm
  refine calls_start (c := F49.c0) (N := 20) [.int .i64 i, .pointer (some ⟨b2, 0, none⟩), .pointer (some ⟨b4, 0, none⟩)] Try.func49 (by kernel_rfl) (by kernel_rfl) (by kernel_rfl) ?_
  show Run _ _ _ _ [(0, .int .i64 i), (1, .pointer (some ⟨b2, 0, none⟩)), (2, .pointer (some ⟨b4, 0, none⟩))] _ _
  refine run_seq (x := F49.c1) (y := F49.c2) (by kernel_rfl) ?_
  refine run_plain (id := 0) (ops := F49.o0) [(0, true)] (by kernel_rfl) (by kernel_rfl) ?_
  refine yS (by kernel_rfl : opAt F49.o0 0 = some (some 4, .assign (.const (.bool false)), none)) rfl rfl (fun w' hS => val_assign rfl) ?_
  refine Sch.nil ?_
  refine kp (sub_cons 0 rfl rfl (sub_cons 1 rfl rfl (sub_cons 2 rfl rfl (sub_nil _)))) ?_
  refine run_seq (x := F49.c3) (y := F49.c4) (by kernel_rfl) ?_
  refine run_cut 4 (decide (gI stl i = -2 ∧ 0 < U i)) (col1 C) ?_ ?_
  · intro hcut
    by_cases hA : stl[i]'(by omega) = -2
    · skip
      refine run_plain (id := 1) (ops := F49.o1) [(0, false), (1, true), (2, true), (3, false), (4, true), (5, true), (6, false), (7, true), (8, true), (9, false), (10, true), (11, true), (12, false), (13, true), (14, true), (15, true)] (by kernel_rfl) (by kernel_rfl) ?_
      refine lN (by kernel_rfl : opAt F49.o1 0 = some (some 5, .load 22 (.tmp 1), none)) rfl rfl trivial h2 (by kernel_rfl) rfl rfl ?_
      intro v5 g5
      obtain ⟨e5, _⟩ := rv_sv.1 g5
      subst e5
      refine yS (by kernel_rfl : opAt F49.o1 1 = some (some 6, .move (.tmp 0), none)) rfl rfl (fun w' hS => val_move rfl) ?_
      refine iS (e := 3) (by kernel_rfl : opAt F49.o1 2 = some (some 7, .indexAddr 22 (.tmp 5) (.tmp 6), none)) rfl rfl hst rfl (by kernel_rfl) rfl (by omega) (by omega) ?_
      intro b7 o7 h7
      try simp only [Int.toNat_natCast] at h7
      refine lN (by kernel_rfl : opAt F49.o1 3 = some (some 8, .load 3 (.tmp 7), none)) rfl rfl trivial h7 (by kernel_rfl) rfl rfl ?_
      intro v8 g8
      first | (obtain rfl := rv_nat.1 g8) | (obtain rfl := rv_int.1 g8)
      refine yS (by kernel_rfl : opAt F49.o1 4 = some (some 9, .binOp .eql 3 (.tmp 8) (.const (.int .i64 (-2))) 3, none)) rfl rfl (fun w' hS => val_T (val_eql rfl rfl) hA) ?_
      refine yS (by kernel_rfl : opAt F49.o1 5 = some (some 10, .move (.tmp 9), none)) rfl rfl (fun w' hS => val_move rfl) ?_
      refine lN (by kernel_rfl : opAt F49.o1 6 = some (some 11, .load 62 (.tmp 2), (some (5, true)))) rfl rfl trivial h4 (by kernel_rfl) rfl rfl ?_
      intro v11 g11
      obtain ⟨e11, _⟩ := rv_sv.1 g11
      subst e11
      refine yS (by kernel_rfl : opAt F49.o1 7 = some (some 12, .nilCheck (.tmp 11), (some (5, true)))) rfl rfl (fun w' hS => val_nilCheck rfl) ?_
      have h13 := RA.gU hg
      refine yS (by kernel_rfl : opAt F49.o1 8 = some (some 13, .fieldAddr 69 (.tmp 12) 2, (some (5, true)))) rfl rfl (fun w' hS => val_fieldAddr (off := 2) (by kernel_rfl) rfl) ?_
      refine lN (by kernel_rfl : opAt F49.o1 9 = some (some 14, .load 22 (.tmp 13), (some (5, true)))) rfl rfl trivial h13 (by kernel_rfl) rfl rfl ?_
      intro v14 g14
      refine yS (by kernel_rfl : opAt F49.o1 10 = some (some 15, .move (.tmp 0), (some (5, true)))) rfl rfl (fun w' hS => val_move rfl) ?_
      refine iS (e := 3) (by kernel_rfl : opAt F49.o1 11 = some (some 16, .indexAddr 22 (.tmp 14) (.tmp 15), (some (5, true)))) rfl rfl g14 rfl (by kernel_rfl) rfl (by omega) (by omega) ?_
      intro b16 o16 h16
      try simp only [Int.toNat_natCast] at h16
      refine lN (by kernel_rfl : opAt F49.o1 12 = some (some 17, .load 3 (.tmp 16), (some (5, true)))) rfl rfl trivial h16 (by kernel_rfl) rfl rfl ?_
      intro v17 g17
      first | (obtain rfl := rv_nat.1 g17) | (obtain rfl := rv_int.1 g17)
      rw [hux]
      refine yS (by kernel_rfl : opAt F49.o1 13 = some (some 18, .binOp .gtr 3 (.tmp 17) (.const (.int .i64 0)) 3, (some (5, true)))) rfl rfl (fun w' hS => val_gtr rfl rfl) ?_
      refine yS (by kernel_rfl : opAt F49.o1 14 = some (some 19, .pick (.tmp 10) (.tmp 18) (.const (.bool false)), none)) rfl rfl (fun w' hS => val_pick_t rfl rfl) ?_
      refine yS (by kernel_rfl : opAt F49.o1 15 = some (some 4, .assign (.tmp 19), none)) rfl rfl (fun w' hS => val_assign rfl) ?_
      exact Sch.nil (hcut _ _ _ (Stp.refl _ _ _) rfl (by rw [hsg]; congr 1; apply decide_eq_decide.2; exact ⟨fun e => ⟨hA, e⟩, fun e => e.2⟩) (sub_skip rfl (sub_skip rfl (sub_skip rfl (sub_skip rfl (sub_skip rfl (sub_skip rfl (sub_skip rfl (sub_skip rfl (sub_skip rfl (sub_skip rfl (sub_skip rfl (sub_skip rfl (sub_skip rfl (sub_skip rfl (sub_skip rfl (sub_skip rfl (Sub.refl _))))))))))))))))))
    · skip
      refine run_plain (id := 1) (ops := F49.o1) [(0, false), (1, true), (2, true), (3, false), (4, true), (5, true), (6, false), (7, true), (8, true), (9, false), (10, true), (11, true), (12, false), (13, true), (14, true), (15, true)] (by kernel_rfl) (by kernel_rfl) ?_
      refine lN (by kernel_rfl : opAt F49.o1 0 = some (some 5, .load 22 (.tmp 1), none)) rfl rfl trivial h2 (by kernel_rfl) rfl rfl ?_
      intro v5 g5
      obtain ⟨e5, _⟩ := rv_sv.1 g5
      subst e5
      refine yS (by kernel_rfl : opAt F49.o1 1 = some (some 6, .move (.tmp 0), none)) rfl rfl (fun w' hS => val_move rfl) ?_
      refine iS (e := 3) (by kernel_rfl : opAt F49.o1 2 = some (some 7, .indexAddr 22 (.tmp 5) (.tmp 6), none)) rfl rfl hst rfl (by kernel_rfl) rfl (by omega) (by omega) ?_
      intro b7 o7 h7
      try simp only [Int.toNat_natCast] at h7
      refine lN (by kernel_rfl : opAt F49.o1 3 = some (some 8, .load 3 (.tmp 7), none)) rfl rfl trivial h7 (by kernel_rfl) rfl rfl ?_
      intro v8 g8
      first | (obtain rfl := rv_nat.1 g8) | (obtain rfl := rv_int.1 g8)
      refine yS (by kernel_rfl : opAt F49.o1 4 = some (some 9, .binOp .eql 3 (.tmp 8) (.const (.int .i64 (-2))) 3, none)) rfl rfl (fun w' hS => val_F (val_eql rfl rfl) hA) ?_
      refine yS (by kernel_rfl : opAt F49.o1 5 = some (some 10, .move (.tmp 9), none)) rfl rfl (fun w' hS => val_move rfl) ?_
      refine pW (by kernel_rfl : opAt F49.o1 6 = some (some 11, .load 62 (.tmp 2), (some (5, true)))) rfl rfl trivial ?_
      refine pS (by kernel_rfl : opAt F49.o1 7 = some (some 12, .nilCheck (.tmp 11), (some (5, true)))) rfl rfl ?_
      refine pS (by kernel_rfl : opAt F49.o1 8 = some (some 13, .fieldAddr 69 (.tmp 12) 2, (some (5, true)))) rfl rfl ?_
      refine pW (by kernel_rfl : opAt F49.o1 9 = some (some 14, .load 22 (.tmp 13), (some (5, true)))) rfl rfl trivial ?_
      refine pS (by kernel_rfl : opAt F49.o1 10 = some (some 15, .move (.tmp 0), (some (5, true)))) rfl rfl ?_
      refine pS (by kernel_rfl : opAt F49.o1 11 = some (some 16, .indexAddr 22 (.tmp 14) (.tmp 15), (some (5, true)))) rfl rfl ?_
      refine pW (by kernel_rfl : opAt F49.o1 12 = some (some 17, .load 3 (.tmp 16), (some (5, true)))) rfl rfl trivial ?_
      refine pS (by kernel_rfl : opAt F49.o1 13 = some (some 18, .binOp .gtr 3 (.tmp 17) (.const (.int .i64 0)) 3, (some (5, true)))) rfl rfl ?_
      refine yS (by kernel_rfl : opAt F49.o1 14 = some (some 19, .pick (.tmp 10) (.tmp 18) (.const (.bool false)), none)) rfl rfl (fun w' hS => val_pick_f rfl rfl) ?_
      refine yS (by kernel_rfl : opAt F49.o1 15 = some (some 4, .assign (.tmp 19), none)) rfl rfl (fun w' hS => val_assign rfl) ?_
      exact Sch.nil (hcut _ _ _ (Stp.refl _ _ _) rfl (by rw [hsg, decide_eq_false (fun e => hA e.1)]) (sub_skip rfl (sub_skip rfl (sub_skip rfl (sub_skip rfl (sub_skip rfl (sub_skip rfl (sub_skip rfl (sub_skip rfl (sub_skip rfl (sub_skip rfl (sub_skip rfl (sub_skip rfl (sub_skip rfl (sub_skip rfl (sub_skip rfl (sub_skip rfl (Sub.refl _))))))))))))))))))
  intro w1 hs
  replace hF := hF.st hs
  replace hT := hT.trans hs (by simp)
  replace h2 := h2.st hs (by first | decide | (simp <;> omega))
  replace h4 := h4.st hs (by first | decide | (simp <;> omega))
  replace hst := hst.st hs (by first | decide | (simp <;> omega))
  replace hg := hg.st hs (by first | decide | (simp <;> omega))
  refine run_ret1 (by kernel_rfl) Try.func49 Try.results49 rfl ?_
  exact ⟨rfl, hT.out1 (by decide)⟩
namespace F51
noncomputable def c0 : Code := bodyOf Try.f51
noncomputable def c1 : Code := cl c0
noncomputable def o0 : Array Oper := rops c1
noncomputable def c2 : Code := cr c0
noncomputable def c3 : Code := cl c2
noncomputable def o1 : Array Oper := rops c3
noncomputable def c4 : Code := cr c2
end F51
theorem mustV_ok {w₀ : World} {C : Nat → Nat} {n m gb : Nat} {gr : Gr} {wt : Nat → Nat → Int} {U V : Nat → Int} {b3 b4 : Nat} {vus : Value} {usl : List Bool} (hF : Lim w₀ C) (hG : GrIs n m wt U V gr) (hg : RA w₀ (Mc C) gr gb 0) (h3 : RA w₀ (Mc C) (⟨vus⟩ : Sv) b3 0) (h4 : RA w₀ (Mc C) (⟨.pointer (some ⟨gb, 0, none⟩)⟩ : Sv) b4 0) (hus : RV w₀ (Mc C) usl vus) (hul : usl.length = m) {j : Nat} (hj : j < m) :
    Calls Try.prog 51 #[.int .i64 j, .pointer (some ⟨b3, 0, none⟩), .pointer (some ⟨b4, 0, none⟩)] w₀ (Ret fun v w' => v = .bool (decide (gB usl j = false ∧ 0 < V j)) ∧ Stp [] w₀ C w' C) := by
  have hF0 := hF
  have hT := Stp.refl [2, 3, 4, 5, 6, 7, 8, 9] w₀ (col1 C)
  replace hF := hF.col1
  replace h3 := (show RA w₀ (Mc (col1 C)) _ _ 0 from by rw [Mc_col1]; exact h3)
  replace h4 := (show RA w₀ (Mc (col1 C)) _ _ 0 from by rw [Mc_col1]; exact h4)
  replace hg := (show RA w₀ (Mc (col1 C)) _ _ 0 from by rw [Mc_col1]; exact hg)
  replace hus := (show RV w₀ (Mc (col1 C)) _ _ from by rw [Mc_col1]; exact hus)
  have hVl := hG.Vl
  have hug : gB usl j = usl[j]'(by omega) := getD_in _
  have hvx : gr.V[j]'(by omega) = V j := by rw [← hG.Vg j hj]; exact (getD_in _).symm
  refine calls_start (c := F51.c0) (N := 20) [.int .i64 j, .pointer (some ⟨b3, 0, none⟩), .pointer (some ⟨b4, 0, none⟩)] Try.func51 (by kernel_rfl) (by kernel_rfl) (by kernel_rfl) ?_
  show Run _ _ _ _ [(0, .int .i64 j), (1, .pointer (some ⟨b3, 0, none⟩)), (2, .pointer (some ⟨b4, 0, none⟩))] _ _
  refine run_seq (x := F51.c1) (y := F51.c2) (by kernel_rfl) ?_
  refine run_plain (id := 0) (ops := F51.o0) [(0, true)] (by kernel_rfl) (by kernel_rfl) ?_
  refine yS (by kernel_rfl : opAt F51.o0 0 = some (some 4, .assign (.const (.bool false)), none)) rfl rfl (fun w' hS => val_assign rfl) ?_
  refine Sch.nil ?_
  refine kp (sub_cons 0 rfl rfl (sub_cons 1 rfl rfl (sub_cons 2 rfl rfl (sub_nil _)))) ?_
  refine run_seq (x := F51.c3) (y := F51.c4) (by kernel_rfl) ?_
  refine run_cut 4 (decide (gB usl j = false ∧ 0 < V j)) (col1 C) ?_ ?_
  · intro hcut
    by_cases hA : usl[j]'(by omega) = true
    · skip
      refine run_plain (id := 1) (ops := F51.o1) [(0, false), (1, true), (2, true), (3, false), (4, true), (5, true), (6, false), (7, true), (8, true), (9, false), (10, true), (11, true), (12, false), (13, true), (14, true), (15, true)] (by kernel_rfl) (by kernel_rfl) ?_
      refine lN (by kernel_rfl : opAt F51.o1 0 = some (some 5, .load 48 (.tmp 1), none)) rfl rfl trivial h3 (by kernel_rfl) rfl rfl ?_
      intro v5 g5
      obtain ⟨e5, _⟩ := rv_sv.1 g5
      subst e5
      refine yS (by kernel_rfl : opAt F51.o1 1 = some (some 6, .move (.tmp 0), none)) rfl rfl (fun w' hS => val_move rfl) ?_
      refine iS (e := 4) (by kernel_rfl : opAt F51.o1 2 = some (some 7, .indexAddr 48 (.tmp 5) (.tmp 6), none)) rfl rfl hus rfl (by kernel_rfl) rfl (by omega) (by omega) ?_
      intro b7 o7 h7
      try simp only [Int.toNat_natCast] at h7
      refine lN (by kernel_rfl : opAt F51.o1 3 = some (some 8, .load 4 (.tmp 7), none)) rfl rfl trivial h7 (by kernel_rfl) rfl rfl ?_
      intro v8 g8
      obtain rfl := rv_bool.1 g8
      rw [hA]
      refine yS (by kernel_rfl : opAt F51.o1 4 = some (some 9, .unOp .not 4 (.tmp 8), none)) rfl rfl (fun w' hS => val_not rfl) ?_
      refine yS (by kernel_rfl : opAt F51.o1 5 = some (some 10, .move (.tmp 9), none)) rfl rfl (fun w' hS => val_move rfl) ?_
      refine pW (by kernel_rfl : opAt F51.o1 6 = some (some 11, .load 62 (.tmp 2), (some (5, true)))) rfl rfl trivial ?_
      refine pS (by kernel_rfl : opAt F51.o1 7 = some (some 12, .nilCheck (.tmp 11), (some (5, true)))) rfl rfl ?_
      refine pS (by kernel_rfl : opAt F51.o1 8 = some (some 13, .fieldAddr 69 (.tmp 12) 3, (some (5, true)))) rfl rfl ?_
      refine pW (by kernel_rfl : opAt F51.o1 9 = some (some 14, .load 22 (.tmp 13), (some (5, true)))) rfl rfl trivial ?_
      refine pS (by kernel_rfl : opAt F51.o1 10 = some (some 15, .move (.tmp 0), (some (5, true)))) rfl rfl ?_
      refine pS (by kernel_rfl : opAt F51.o1 11 = some (some 16, .indexAddr 22 (.tmp 14) (.tmp 15), (some (5, true)))) rfl rfl ?_
      refine pW (by kernel_rfl : opAt F51.o1 12 = some (some 17, .load 3 (.tmp 16), (some (5, true)))) rfl rfl trivial ?_
      refine pS (by kernel_rfl : opAt F51.o1 13 = some (some 18, .binOp .gtr 3 (.tmp 17) (.const (.int .i64 0)) 3, (some (5, true)))) rfl rfl ?_
      refine yS (by kernel_rfl : opAt F51.o1 14 = some (some 19, .pick (.tmp 10) (.tmp 18) (.const (.bool false)), none)) rfl rfl (fun w' hS => val_pick_f rfl rfl) ?_
      refine yS (by kernel_rfl : opAt F51.o1 15 = some (some 4, .assign (.tmp 19), none)) rfl rfl (fun w' hS => val_assign rfl) ?_
      exact Sch.nil (hcut _ _ _ (Stp.refl _ _ _) rfl (by rw [hug, hA, decide_eq_false (fun e => by cases e.1)]) (sub_skip rfl (sub_skip rfl (sub_skip rfl (sub_skip rfl (sub_skip rfl (sub_skip rfl (sub_skip rfl (sub_skip rfl (sub_skip rfl (sub_skip rfl (sub_skip rfl (sub_skip rfl (sub_skip rfl (sub_skip rfl (sub_skip rfl (sub_skip rfl (Sub.refl _))))))))))))))))))
    · skip
      refine run_plain (id := 1) (ops := F51.o1) [(0, false), (1, true), (2, true), (3, false), (4, true), (5, true), (6, false), (7, true), (8, true), (9, false), (10, true), (11, true), (12, false), (13, true), (14, true), (15, true)] (by kernel_rfl) (by kernel_rfl) ?_
      refine lN (by kernel_rfl : opAt F51.o1 0 = some (some 5, .load 48 (.tmp 1), none)) rfl rfl trivial h3 (by kernel_rfl) rfl rfl ?_
      intro v5 g5
      obtain ⟨e5, _⟩ := rv_sv.1 g5
      subst e5
      refine yS (by kernel_rfl : opAt F51.o1 1 = some (some 6, .move (.tmp 0), none)) rfl rfl (fun w' hS => val_move rfl) ?_
      refine iS (e := 4) (by kernel_rfl : opAt F51.o1 2 = some (some 7, .indexAddr 48 (.tmp 5) (.tmp 6), none)) rfl rfl hus rfl (by kernel_rfl) rfl (by omega) (by omega) ?_
      intro b7 o7 h7
      try simp only [Int.toNat_natCast] at h7
      refine lN (by kernel_rfl : opAt F51.o1 3 = some (some 8, .load 4 (.tmp 7), none)) rfl rfl trivial h7 (by kernel_rfl) rfl rfl ?_
      intro v8 g8
      obtain rfl := rv_bool.1 g8
      rw [Bool.eq_false_iff.2 hA]
      refine yS (by kernel_rfl : opAt F51.o1 4 = some (some 9, .unOp .not 4 (.tmp 8), none)) rfl rfl (fun w' hS => val_not rfl) ?_
      refine yS (by kernel_rfl : opAt F51.o1 5 = some (some 10, .move (.tmp 9), none)) rfl rfl (fun w' hS => val_move rfl) ?_
      refine lN (by kernel_rfl : opAt F51.o1 6 = some (some 11, .load 62 (.tmp 2), (some (5, true)))) rfl rfl trivial h4 (by kernel_rfl) rfl rfl ?_
      intro v11 g11
      obtain ⟨e11, _⟩ := rv_sv.1 g11
      subst e11
      refine yS (by kernel_rfl : opAt F51.o1 7 = some (some 12, .nilCheck (.tmp 11), (some (5, true)))) rfl rfl (fun w' hS => val_nilCheck rfl) ?_
      have h13 := RA.gV hg
      refine yS (by kernel_rfl : opAt F51.o1 8 = some (some 13, .fieldAddr 69 (.tmp 12) 3, (some (5, true)))) rfl rfl (fun w' hS => val_fieldAddr (off := 3) (by kernel_rfl) rfl) ?_
      refine lN (by kernel_rfl : opAt F51.o1 9 = some (some 14, .load 22 (.tmp 13), (some (5, true)))) rfl rfl trivial h13 (by kernel_rfl) rfl rfl ?_
      intro v14 g14
      refine yS (by kernel_rfl : opAt F51.o1 10 = some (some 15, .move (.tmp 0), (some (5, true)))) rfl rfl (fun w' hS => val_move rfl) ?_
      refine iS (e := 3) (by kernel_rfl : opAt F51.o1 11 = some (some 16, .indexAddr 22 (.tmp 14) (.tmp 15), (some (5, true)))) rfl rfl g14 rfl (by kernel_rfl) rfl (by omega) (by omega) ?_
      intro b16 o16 h16
      try simp only [Int.toNat_natCast] at h16
      refine lN (by kernel_rfl : opAt F51.o1 12 = some (some 17, .load 3 (.tmp 16), (some (5, true)))) rfl rfl trivial h16 (by kernel_rfl) rfl rfl ?_
      intro v17 g17
      first | (obtain rfl := rv_nat.1 g17) | (obtain rfl := rv_int.1 g17)
      rw [hvx]
      refine yS (by kernel_rfl : opAt F51.o1 13 = some (some 18, .binOp .gtr 3 (.tmp 17) (.const (.int .i64 0)) 3, (some (5, true)))) rfl rfl (fun w' hS => val_gtr rfl rfl) ?_
      refine yS (by kernel_rfl : opAt F51.o1 14 = some (some 19, .pick (.tmp 10) (.tmp 18) (.const (.bool false)), none)) rfl rfl (fun w' hS => val_pick_t rfl rfl) ?_
      refine yS (by kernel_rfl : opAt F51.o1 15 = some (some 4, .assign (.tmp 19), none)) rfl rfl (fun w' hS => val_assign rfl) ?_
      exact Sch.nil (hcut _ _ _ (Stp.refl _ _ _) rfl (by rw [hug]; congr 1; apply decide_eq_decide.2; exact ⟨fun e => ⟨Bool.eq_false_iff.2 hA, e⟩, fun e => e.2⟩) (sub_skip rfl (sub_skip rfl (sub_skip rfl (sub_skip rfl (sub_skip rfl (sub_skip rfl (sub_skip rfl (sub_skip rfl (sub_skip rfl (sub_skip rfl (sub_skip rfl (sub_skip rfl (sub_skip rfl (sub_skip rfl (sub_skip rfl (sub_skip rfl (Sub.refl _))))))))))))))))))
  intro w1 hs
  replace hF := hF.st hs
  replace hT := hT.trans hs (by simp)
  replace h3 := h3.st hs (by first | decide | (simp <;> omega))
  replace h4 := h4.st hs (by first | decide | (simp <;> omega))
  replace hus := hus.st hs (by first | decide | (simp <;> omega))
  replace hg := hg.st hs (by first | decide | (simp <;> omega))
  refine run_ret1 (by kernel_rfl) Try.func51 Try.results51 rfl ?_
  exact ⟨rfl, hT.out1 (by decide)⟩
namespace F50
noncomputable def c0 : Code := bodyOf Try.f50
noncomputable def c1 : Code := cl c0
noncomputable def o0 : Array Oper := rops c1
noncomputable def c2 : Code := cr c0
noncomputable def c3 : Code := cl c2
noncomputable def o1 : Array Oper := rops c3
noncomputable def c4 : Code := cr c2
end F50
theorem turned_ok {w₀ : World} {C : Nat → Nat} {n m gb : Nat} {gr : Gr} {wt : Nat → Nat → Int} {U V : Nat → Int} {b2 b3 b4 b5 b10 : Nat} {vst vus : Value} {stl : List Int} {usl : List Bool} (hF : Lim w₀ C) (hG : GrIs n m wt U V gr) (hg : RA w₀ (Mc C) gr gb 0) (h2 : RA w₀ (Mc C) (⟨vst⟩ : Sv) b2 0) (h3 : RA w₀ (Mc C) (⟨vus⟩ : Sv) b3 0) (h4 : RA w₀ (Mc C) (⟨.pointer (some ⟨gb, 0, none⟩)⟩ : Sv) b4 0) (h5 : RA w₀ (Mc C) (⟨.nilFunc⟩ : Sv) b5 0) (h10 : RA w₀ (Mc C) (⟨(.func (.func 47) #[] #[.pointer (some ⟨b2, 0, none⟩), .pointer (some ⟨b3, 0, none⟩), .pointer (some ⟨b4, 0, none⟩), .pointer (some ⟨b5, 0, none⟩)])⟩ : Sv) b10 0) (hst : RV w₀ (Mc C) stl vst) (hus : RV w₀ (Mc C) usl vus) (hsl : stl.length = n) (hul : usl.length = m) {i j : Nat} (hi : i < n) (hj : j < m) :
    Calls Try.prog 50 #[.int .i64 j, .int .i64 i, .pointer (some ⟨b10, 0, none⟩)] w₀ (Ret fun v w' => v = .bool (jB stl usl wt U V i j) ∧ Stp [] w₀ C w' C) := by
  have hF0 := hF
  have hT := Stp.refl [2, 3, 4, 5, 6, 7, 8, 9] w₀ (col1 C)
  replace hF := hF.col1
  replace h2 := (show RA w₀ (Mc (col1 C)) _ _ 0 from by rw [Mc_col1]; exact h2)
  replace h3 := (show RA w₀ (Mc (col1 C)) _ _ 0 from by rw [Mc_col1]; exact h3)
  replace h4 := (show RA w₀ (Mc (col1 C)) _ _ 0 from by rw [Mc_col1]; exact h4)
  replace h5 := (show RA w₀ (Mc (col1 C)) _ _ 0 from by rw [Mc_col1]; exact h5)
  replace h10 := (show RA w₀ (Mc (col1 C)) _ _ 0 from by rw [Mc_col1]; exact h10)
  replace hg := (show RA w₀ (Mc (col1 C)) _ _ 0 from by rw [Mc_col1]; exact hg)
  replace hst := (show RV w₀ (Mc (col1 C)) _ _ from by rw [Mc_col1]; exact hst)
  replace hus := (show RV w₀ (Mc (col1 C)) _ _ from by rw [Mc_col1]; exact hus)
  refine calls_start (c := F50.c0) (N := 10) [.int .i64 j, .int .i64 i, .pointer (some ⟨b10, 0, none⟩)] Try.func50 (by kernel_rfl) (by kernel_rfl) (by kernel_rfl) ?_
  show Run _ _ _ _ [(0, .int .i64 j), (1, .int .i64 i), (2, .pointer (some ⟨b10, 0, none⟩))] _ _
  refine run_seq (x := F50.c1) (y := F50.c2) (by kernel_rfl) ?_
  refine run_plain (id := 0) (ops := F50.o0) [(0, true)] (by kernel_rfl) (by kernel_rfl) ?_
  refine yS (by kernel_rfl : opAt F50.o0 0 = some (some 5, .assign (.const (.bool false)), none)) rfl rfl (fun w' hS => val_assign rfl) ?_
  refine Sch.nil ?_
  refine run_seq (x := F50.c3) (y := F50.c4) (by kernel_rfl) ?_
  refine run_plain (id := 1) (ops := F50.o1) [(0, false), (1, true), (2, true), (3, false), (4, true)] (by kernel_rfl) (by kernel_rfl) ?_
  refine lN (by kernel_rfl : opAt F50.o1 0 = some (some 6, .load 65 (.tmp 2), none)) rfl rfl trivial h10 (by kernel_rfl) rfl rfl ?_
  intro v6 g6
  obtain ⟨e6, _⟩ := rv_sv.1 g6
  subst e6
  refine yS (by kernel_rfl : opAt F50.o1 1 = some (some 7, .move (.tmp 1), none)) rfl rfl (fun w' hS => val_move rfl) ?_
  refine yS (by kernel_rfl : opAt F50.o1 2 = some (some 8, .move (.tmp 0), none)) rfl rfl (fun w' hS => val_move rfl) ?_
  refine cS (by kernel_rfl : opAt F50.o1 3 = some (some 9, .call { callee := .value (.tmp 6), args := #[(.tmp 7), (.tmp 8)], argTypes := #[3, 3] }, none)) rfl rfl (enters_func Try.call47 rfl rfl) (joins_ok hF hG hg h2 h3 h4 h5 hst hus hsl hul hi hj) ?_
  rintro vw1 w1 ⟨rfl, hs⟩
  refine ⟨trivial, ?_⟩
  replace hF := hF.st hs
  replace hT := hT.trans hs (by simp)
  replace h2 := h2.st hs (by first | decide | (simp <;> omega))
  replace h3 := h3.st hs (by first | decide | (simp <;> omega))
  replace h4 := h4.st hs (by first | decide | (simp <;> omega))
  replace h5 := h5.st hs (by first | decide | (simp <;> omega))
  replace h10 := h10.st hs (by first | decide | (simp <;> omega))
  replace hst := hst.st hs (by first | decide | (simp <;> omega))
  replace hus := hus.st hs (by first | decide | (simp <;> omega))
  replace hg := hg.st hs (by first | decide | (simp <;> omega))
  refine yS (by kernel_rfl : opAt F50.o1 4 = some (some 5, .assign (.tmp 9), none)) rfl rfl (fun w' hS => val_assign rfl) ?_
  refine Sch.nil ?_
  refine run_ret1 (by kernel_rfl) Try.func50 Try.results50 rfl ?_
  exact ⟨rfl, hT.out1 (by decide)⟩
end Go.Proofs.Ytgooehopkmbkfaa
