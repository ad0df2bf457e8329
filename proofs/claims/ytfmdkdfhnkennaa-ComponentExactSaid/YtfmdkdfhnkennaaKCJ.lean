/- Steps through functions of the program. -/
import Derived.Test.YtfmdkdfhnkennaaKCI
set_option linter.unusedVariables false
set_option linter.unusedSimpArgs false
set_option maxRecDepth 100000
set_option maxHeartbeats 400000
namespace Go.Proofs.Ytfmdkdfhnkennaa
open Go.K Go.K.Rep

namespace F25
noncomputable def c0 : Code := bodyOf Try.f25
noncomputable def c1 : Code := cl c0
noncomputable def o0 : Array Oper := rops c1
noncomputable def c2 : Code := cr c0
noncomputable def c3 : Code := cl c2
noncomputable def o1 : Array Oper := rops c3
noncomputable def c4 : Code := cr c2
noncomputable def c5 : Code := cl c4
noncomputable def c6 : Code := cl c5
noncomputable def o2 : Array Oper := rops c6
noncomputable def c7 : Code := cr c5
noncomputable def c8 : Code := cl c7
noncomputable def c9 : Code := cl c8
noncomputable def o3 : Array Oper := rops c9
noncomputable def c10 : Code := cr c8
noncomputable def c11 : Code := cr c7
noncomputable def c12 : Code := cr c4
noncomputable def c13 : Code := cl c12
noncomputable def o4 : Array Oper := rops c13
noncomputable def c14 : Code := cr c12
noncomputable def c15 : Code := cl c14
noncomputable def c16 : Code := cl c15
noncomputable def o5 : Array Oper := rops c16
noncomputable def c17 : Code := cr c15
noncomputable def c18 : Code := cl c17
noncomputable def c19 : Code := cl c18
noncomputable def c20 : Code := cl c19
noncomputable def c21 : Code := cl c20
noncomputable def o6 : Array Oper := rops c21
noncomputable def c22 : Code := cr c20
noncomputable def c23 : Code := cl c22
noncomputable def c24 : Code := cr c22
noncomputable def c25 : Code := cr c19
noncomputable def c26 : Code := cl c25
noncomputable def c27 : Code := cl c26
noncomputable def c28 : Code := cl c27
noncomputable def o8 : Array Oper := rops c28
noncomputable def c29 : Code := cr c27
noncomputable def o9 : Array Oper := rops c29
noncomputable def c30 : Code := cr c25
noncomputable def o7 : Array Oper := rops c30
noncomputable def c31 : Code := cr c14
noncomputable def c32 : Code := cl c31
noncomputable def o10 : Array Oper := rops c32
noncomputable def c33 : Code := cr c31
end F25
theorem refSplit_ok {w₀ : World} {C : Nat → Nat} {l : List Bond} {vl : Value} (hF : Lim w₀ C) (hl : RV w₀ (Mc C) l vl) (hlen : l.length ≤ 100000) :
    Calls Try.prog 25 #[vl] w₀ (Ret fun v w' => ∃ u, v = .tuple #[u, .int .i64 (checkS l)] ∧ Stp [] w₀ C w' C ∧ RV w' (Mc C) (if checkS l = 0 then splitS l else []) u) := by
  have hF0 := hF
  have hT := Stp.refl [2, 3, 4, 5, 6, 7, 8, 9] w₀ (col1 C)
  replace hF := hF.col1
  replace hl : RV w₀ (Mc (col1 C)) l vl := by rw [Mc_col1]; exact hl
  refine calls_start (c := F25.c0) (N := 47) [vl] Try.func25 (by kernel_rfl) (by kernel_rfl) (by kernel_rfl) ?_
  show Run _ _ _ _ [(0, vl)] _ _
  refine run_seq (x := F25.c1) (y := F25.c2) (by kernel_rfl) ?_
  refine run_plain (id := 0) (ops := F25.o0) [(0, true), (1, true)] (by kernel_rfl) (by kernel_rfl) ?_
  refine yS (by kernel_rfl : opAt F25.o0 0 = some (some 2, .assign (.const (.slice none 0 0)), none)) rfl rfl (fun w' hS => val_assign rfl) ?_
  refine yS (by kernel_rfl : opAt F25.o0 1 = some (some 3, .assign (.const (.int .i64 0)), none)) rfl rfl (fun w' hS => val_assign rfl) ?_
  refine Sch.nil ?_
  refine run_seq (x := F25.c3) (y := F25.c4) (by kernel_rfl) ?_
  refine run_plain (id := 1) (ops := F25.o1) [(0, true), (1, false), (2, true), (3, true), (4, true), (5, true), (6, true)] (by kernel_rfl) (by kernel_rfl) ?_
  refine yS (by kernel_rfl : opAt F25.o1 0 = some (some 10, .move (.tmp 0), none)) rfl rfl (fun w' hS => val_move rfl) ?_
  refine cS (by kernel_rfl : opAt F25.o1 1 = some (some 11, .call { callee := .value (.func 20), args := #[(.tmp 10)], argTypes := #[23] }, none)) rfl rfl (ent Try.call20 rfl) (refOf_ok hF hl hlen) ?_
  rintro vw1 w1 ⟨u, rfl, hs, hp⟩
  refine ⟨trivial, ?_⟩
  replace hF := hF.st hs
  replace hT := hT.trans hs (by simp)
  replace hl := hl.st hs (by first | decide | (simp <;> omega))
  refine yS (by kernel_rfl : opAt F25.o1 2 = some (some 9, .move (.tmp 11), none)) rfl rfl (fun w' hS => val_move rfl) ?_
  refine yS (by kernel_rfl : opAt F25.o1 3 = some (some 12, .extract (.tmp 9) 0, none)) rfl rfl (fun w' hS => val_extract rfl rfl) ?_
  refine yS (by kernel_rfl : opAt F25.o1 4 = some (some 13, .extract (.tmp 9) 1, none)) rfl rfl (fun w' hS => val_extract rfl rfl) ?_
  refine yS (by kernel_rfl : opAt F25.o1 5 = some (some 4, .assign (.tmp 12), none)) rfl rfl (fun w' hS => val_assign rfl) ?_
  refine yS (by kernel_rfl : opAt F25.o1 6 = some (some 5, .assign (.tmp 13), none)) rfl rfl (fun w' hS => val_assign rfl) ?_
  refine Sch.nil ?_
  refine run_seq (x := F25.c5) (y := F25.c12) (by kernel_rfl) ?_
  refine run_seq (x := F25.c6) (y := F25.c7) (by kernel_rfl) ?_
  refine run_plain (id := 2) (ops := F25.o2) [(0, true), (1, true)] (by kernel_rfl) (by kernel_rfl) ?_
  refine yS (by kernel_rfl : opAt F25.o2 0 = some (some 14, .move (.tmp 5), none)) rfl rfl (fun w' hS => val_move rfl) ?_
  refine yS (by kernel_rfl : opAt F25.o2 1 = some (some 15, .binOp .neq 35 (.tmp 14) (.const (.int .i64 0)) 35, none)) rfl rfl (fun w' hS => val_neq rfl rfl) ?_
  refine Sch.nil ?_
  refine run_if (x := F25.c8) (y := F25.c11) (o := .tmp 15) (by kernel_rfl) rfl (fun h15 => ?_) (fun h15 => ?_)
  · skip
    refine run_seq (x := F25.c9) (y := F25.c10) (by kernel_rfl) ?_
    refine run_plain (id := 3) (ops := F25.o3) [(0, true), (1, true), (2, true)] (by kernel_rfl) (by kernel_rfl) ?_
    refine yS (by kernel_rfl : opAt F25.o3 0 = some (some 16, .move (.tmp 5), none)) rfl rfl (fun w' hS => val_move rfl) ?_
    refine yS (by kernel_rfl : opAt F25.o3 1 = some (some 2, .assign (.const (.slice none 0 0)), none)) rfl rfl (fun w' hS => val_assign rfl) ?_
    refine yS (by kernel_rfl : opAt F25.o3 2 = some (some 3, .assign (.tmp 16), none)) rfl rfl (fun w' hS => val_assign rfl) ?_
    refine Sch.nil ?_
    refine run_ret2 (by kernel_rfl) Try.func25 Try.results25 rfl rfl ?_
    exact ⟨_, rfl, hT.out1 (by decide), by rw [if_neg h15]; exact rv_nil⟩
  · skip
    have hck : checkS l = 0 := Classical.not_not.1 h15
    have hl4 := checkS_len hck
    have hpl := partsS_len l
    rw [if_pos hck] at hp
    refine run_skip (by kernel_rfl) ?_
    refine run_seq (x := F25.c13) (y := F25.c14) (by kernel_rfl) ?_
    refine run_plain (id := 4) (ops := F25.o4) [(0, true), (1, true), (2, false), (3, true)] (by kernel_rfl) (by kernel_rfl) ?_
    refine yS (by kernel_rfl : opAt F25.o4 0 = some (some 17, .move (.tmp 4), none)) rfl rfl (fun w' hS => val_move rfl) ?_
    refine yS (by kernel_rfl : opAt F25.o4 1 = some (some 18, .call { callee := .builtin .len, args := #[(.tmp 17)], argTypes := #[26] }, none)) rfl rfl (fun w' hS => hp.lenV rfl Try.underlying26 w' ) ?_
    refine aS (by kernel_rfl : opAt F25.o4 2 = some (some 19, .makeSlice 34 (.tmp 18) (.tmp 18), none)) rfl rfl (a_make (e := 23) (bytes := 24) (x0 := (⟨.slice none 0 0⟩ : Sv)) (zs := [.slice none 0 0]) hF (j := 4) (by decide) (by kernel_rfl) (by kernel_rfl) rfl rfl (by omega) (by omega) (by omega) (fun h M => ⟨rfl, rfl⟩)) ?_
    rintro v19 w2 ⟨Cw2, hs, ho, hF⟩
    refine ⟨trivial, ?_⟩
    replace hT := hT.trans hs (by simp)
    replace hl := hl.st hs (by first | decide | (simp <;> omega))
    replace hp := hp.st hs (by first | decide | (simp <;> omega))
    rw [svsF_rep] at ho
    refine yS (by kernel_rfl : opAt F25.o4 3 = some (some 6, .assign (.tmp 19), none)) rfl rfl (fun w' hS => val_assign rfl) ?_
    refine Sch.nil ?_
    replace hT : Stp ([2, 3, 4, 5, 6, 7, 8, 9] ++ List.range' 10 (2 * l.length + 1)) w₀ (col1 C) _ _ := hT.mono (by intro c hc; exact List.mem_append_left _ hc)
    refine run_seq (x := F25.c15) (y := F25.c31) (by kernel_rfl) ?_
    refine run_seq (x := F25.c16) (y := F25.c17) (by kernel_rfl) ?_
    refine run_plain (id := 5) (ops := F25.o5) [(0, true)] (by kernel_rfl) (by kernel_rfl) ?_
    refine yS (by kernel_rfl : opAt F25.o5 0 = some (some 7, .assign (.const (.int .i64 0)), none)) rfl rfl (fun w' hS => val_assign rfl) ?_
    refine Sch.nil ?_
    refine run_block (x := F25.c18) (id := 0) (by kernel_rfl) ?_
    
    refine run_loop (ι := Nat × (Nat → Value) × (Nat → Nat)) (I := fun x w => x.1 ≤ l.length ∧ Lim w x.2.2 ∧ Stp ([2, 3, 4, 5, 6, 7, 8, 9] ++ List.range' 10 (2 * l.length + 1)) w₀ (col1 C) w x.2.2 ∧ RV w (Mc x.2.2) l vl ∧ RV w (Mc x.2.2) (partsS l) u ∧ OwnL w x.2.2 4 23 v19 (svsF x.2.1 (partsS l).length) ∧ (∀ i, i < (partsS l).length → OwnL w x.2.2 (10 + i) 50 (x.2.1 i) ((splitK l x.1).getD i []))) (e := fun x => [(0, vl), (4, u), (6, v19), (7, .int .i64 x.1)]) (m := fun x => l.length - x.1) (x₀ := (0, fun _ => .slice none 0 0, Cw2)) (body := F25.c19) (by kernel_rfl) (sub_cons 0 rfl rfl (sub_cons 4 rfl rfl (sub_cons 6 rfl rfl (sub_cons 7 rfl rfl (sub_nil _))))) ?_ ?_
    · exact ⟨Nat.zero_le _, hF, hT, hl, hp, ho, fun i hi => by rw [splitK_zero]; exact OwnL.nil⟩
    intro ⟨k, vf, C1⟩ w3 hI next
    obtain ⟨hk, hF, hT, hl, hp, ho, hin⟩ := hI
    try simp only at hk hF hT hl hp ho hin
    have next1 := next
    clear next
    show Run _ _ _ _ [(0, vl), (4, u), (6, v19), (7, .int .i64 k)] _ _
    obtain ⟨n, hn⟩ : ∃ n, n = (partsS l).length := ⟨_, rfl⟩
    rw [← hn] at ho hin hpl
    have hsl := svsF_len vf n
    refine run_seq (x := F25.c20) (y := F25.c25) (by kernel_rfl) ?_
    refine run_seq (x := F25.c21) (y := F25.c22) (by kernel_rfl) ?_
    refine run_plain (id := 6) (ops := F25.o6) [(0, true), (1, true), (2, true), (3, true)] (by kernel_rfl) (by kernel_rfl) ?_
    refine yS (by kernel_rfl : opAt F25.o6 0 = some (some 20, .move (.tmp 7), none)) rfl rfl (fun w' hS => val_move rfl) ?_
    refine yS (by kernel_rfl : opAt F25.o6 1 = some (some 21, .move (.tmp 0), none)) rfl rfl (fun w' hS => val_move rfl) ?_
    refine yS (by kernel_rfl : opAt F25.o6 2 = some (some 22, .call { callee := .builtin .len, args := #[(.tmp 21)], argTypes := #[23] }, none)) rfl rfl (fun w' hS => hl.lenV rfl Try.underlying23 w' ) ?_
    refine yS (by kernel_rfl : opAt F25.o6 3 = some (some 23, .binOp .lss 3 (.tmp 20) (.tmp 22) 3, none)) rfl rfl (fun w' hS => val_lss rfl rfl) ?_
    refine Sch.nil ?_
    refine run_if (x := F25.c23) (y := F25.c24) (o := .tmp 23) (by kernel_rfl) rfl (fun h23 => ?_) (fun h23 => ?_)
    · skip
      have hkl : k < l.length := by omega
      obtain ⟨i0, hi0m⟩ := parts_cover (l := l) (r := l[k].A) (mem_refsS.2 ⟨_, List.getElem_mem hkl, .inl rfl⟩)
      have hi0 : i0 < n := by obtain ⟨h1, _⟩ := parts_getD.1 hi0m; rw [hn]; unfold partsS; rwa [groupS_length]
      have hgn := splitK_glen l k i0
      refine run_skip (by kernel_rfl) ?_
      refine run_seq (x := F25.c26) (y := F25.c30) (by kernel_rfl) ?_
      refine run_block (x := F25.c27) (id := 1) (by kernel_rfl) ?_
      refine run_seq (x := F25.c28) (y := F25.c29) (by kernel_rfl) ?_
      refine run_plain (id := 8) (ops := F25.o8) [(0, true), (1, true), (2, true), (3, true), (4, true), (5, false), (6, false), (7, true)] (by kernel_rfl) (by kernel_rfl) ?_
      refine yS (by kernel_rfl : opAt F25.o8 0 = some (some 26, .move (.tmp 4), none)) rfl rfl (fun w' hS => val_move rfl) ?_
      refine yS (by kernel_rfl : opAt F25.o8 1 = some (some 27, .move (.tmp 0), none)) rfl rfl (fun w' hS => val_move rfl) ?_
      refine yS (by kernel_rfl : opAt F25.o8 2 = some (some 28, .move (.tmp 7), none)) rfl rfl (fun w' hS => val_move rfl) ?_
      refine iS (e := 50) (by kernel_rfl : opAt F25.o8 3 = some (some 29, .indexAddr 23 (.tmp 27) (.tmp 28), none)) rfl rfl hl rfl (by kernel_rfl) rfl (by omega) (by omega) ?_
      intro b29 o29 h29
      try simp only [Int.toNat_natCast] at h29
      have h30 := RA.bA h29
      refine yS (by kernel_rfl : opAt F25.o8 4 = some (some 30, .fieldAddr 50 (.tmp 29) 0, none)) rfl rfl (fun w' hS => val_fieldAddr (off := 0) (by kernel_rfl) rfl) ?_
      refine lNA (by kernel_rfl : opAt F25.o8 5 = some (some 31, .load 25 (.tmp 30), none)) rfl rfl trivial h30 (by kernel_rfl) (by kernel_rfl) rfl rfl ?_
      intro v31 g31
      obtain rfl := rv_couple.1 g31
      refine cS (by kernel_rfl : opAt F25.o8 6 = some (some 32, .call { callee := .value (.func 23), args := #[(.tmp 26), (.tmp 31)], argTypes := #[26, 25] }, none)) rfl rfl (ent Try.call23 rfl) (refFind_ok (c := l[k].A) hF hp) ?_
      rintro vw4 w4 ⟨rfl, hs⟩
      rw [find_part hi0m]
      refine ⟨trivial, ?_⟩
      replace hF := hF.st hs
      replace hT := hT.trans hs (by simp)
      replace hl := hl.st hs (by first | decide | (simp <;> omega))
      replace hp := hp.st hs (by first | decide | (simp <;> omega))
      replace ho := ho.st hs (by first | decide | (simp <;> omega)) (by first | decide | (simp <;> omega))
      replace hin := fun k hk => (hin k hk).st hs (by simp <;> omega) (by simp <;> omega)
      replace h29 := h29.st hs (by first | decide | (simp <;> omega))
      replace h30 := h30.st hs (by first | decide | (simp <;> omega))
      replace g31 := g31.st hs (by first | decide | (simp <;> omega))
      refine yS (by kernel_rfl : opAt F25.o8 7 = some (some 8, .assign (.tmp 32), none)) rfl rfl (fun w' hS => val_assign rfl) ?_
      refine Sch.nil ?_
      refine run_draw (id := 9) (ops := F25.o9) [10 + i0] (C1) [(0, true), (1, true), (2, true), (3, true), (4, true), (5, true), (6, true), (7, true), (8, true), (9, true), (10, false), (11, false), (12, true), (13, false)] Try_mixed (by kernel_rfl) (by kernel_rfl) (by kernel_rfl) ?_
      intro w5 hs
      replace hF := hF.st hs
      replace hT := hT.trans hs (by simp)
      replace hl := hl.st hs (by first | decide | (simp <;> omega))
      replace hp := hp.st hs (by first | decide | (simp <;> omega))
      replace ho := ho.st hs (by first | decide | (simp <;> omega)) (by first | decide | (simp <;> omega))
      replace hin := fun k hk => (hin k hk).st hs (by simp <;> omega) (by simp <;> omega)
      replace h29 := h29.st hs (by first | decide | (simp <;> omega))
      replace h30 := h30.st hs (by first | decide | (simp <;> omega))
      replace g31 := g31.st hs (by first | decide | (simp <;> omega))
      have hR := Stp.refl [10 + i0] w5 (C1)
      refine yS (by kernel_rfl : opAt F25.o9 0 = some (some 33, .move (.tmp 6), none)) rfl rfl (fun w' hS => val_move rfl) ?_
      refine yS (by kernel_rfl : opAt F25.o9 1 = some (some 34, .move (.tmp 8), none)) rfl rfl (fun w' hS => val_move rfl) ?_
      refine yS (by kernel_rfl : opAt F25.o9 2 = some (some 35, .move (.tmp 6), none)) rfl rfl (fun w' hS => val_move rfl) ?_
      refine yS (by kernel_rfl : opAt F25.o9 3 = some (some 36, .move (.tmp 8), none)) rfl rfl (fun w' hS => val_move rfl) ?_
      refine oI (e' := 23) (by kernel_rfl : opAt F25.o9 4 = some (some 37, .indexAddr 34 (.tmp 35) (.tmp 36), none)) rfl rfl ho rfl (by kernel_rfl) rfl (by omega) (by omega) ?_
      intro g37 hg37
      try simp only [Int.toNat_natCast]
      refine oS (I := [10 + i0]) (by kernel_rfl : opAt F25.o9 5 = some (some 38, .load 23 (.tmp 37), none)) rfl rfl ho hg37 (fun w' hS => ho.stay hg37 hS (by first | decide | (simp <;> omega))) (by omega) (by kernel_rfl) rfl rfl ?_
      intro v38 g38
      try simp only [Int.toNat_natCast] at g38
      obtain ⟨e38, _⟩ := rv_sv.1 g38
      rw [svsF_get] at e38
      subst e38
      refine yS (by kernel_rfl : opAt F25.o9 6 = some (some 39, .move (.tmp 0), none)) rfl rfl (fun w' hS => val_move rfl) ?_
      refine yS (by kernel_rfl : opAt F25.o9 7 = some (some 40, .move (.tmp 7), none)) rfl rfl (fun w' hS => val_move rfl) ?_
      refine iS (e := 50) (by kernel_rfl : opAt F25.o9 8 = some (some 41, .indexAddr 23 (.tmp 39) (.tmp 40), none)) rfl rfl hl rfl (by kernel_rfl) rfl (by omega) (by omega) ?_
      intro b41 o41 h41
      try simp only [Int.toNat_natCast] at h41
      refine lSA (by kernel_rfl : opAt F25.o9 9 = some (some 42, .load 50 (.tmp 41), none)) rfl rfl (fun w' hS => h41.stay hS (by first | decide | (simp <;> omega))) h41 (by kernel_rfl) (by kernel_rfl) rfl rfl ?_
      intro v42 g42
      obtain rfl := rv_bond.1 g42
      refine aS (by kernel_rfl : opAt F25.o9 10 = some (some 43, .buildSlice 23 1 #[(0, (.tmp 42))], none)) rfl rfl (a_buildSlice (ys := ([l[k]'hkl] : List Bond)) (e := 50) (bytes := 40) hF (by kernel_rfl) rfl (by decide) (by decide) ⟨rfl, ⟨_, rfl, rv_bond.2 rfl⟩, trivial⟩) ?_
      rintro v43 w6 ⟨hs, g43, hF⟩
      refine ⟨(hR.trans hs (by simp)).ext, ?_⟩
      replace hT := hT.trans hs (by simp)
      replace hl := hl.st hs (by first | decide | (simp <;> omega))
      replace hp := hp.st hs (by first | decide | (simp <;> omega))
      replace ho := ho.st hs (by first | decide | (simp <;> omega)) (by first | decide | (simp <;> omega))
      replace hin := fun k hk => (hin k hk).st hs (by simp <;> omega) (by simp <;> omega)
      replace h29 := h29.st hs (by first | decide | (simp <;> omega))
      replace h30 := h30.st hs (by first | decide | (simp <;> omega))
      replace g31 := g31.st hs (by first | decide | (simp <;> omega))
      replace hR := hR.trans hs (by simp)
      replace h41 := h41.st hs (by first | decide | (simp <;> omega))
      replace g42 := g42.st hs (by first | decide | (simp <;> omega))
      refine aS (by kernel_rfl : opAt F25.o9 11 = some (some 44, .call { callee := .builtin .append, args := #[(.tmp 38), (.tmp 43)], argTypes := #[23, 23] }, none)) rfl rfl (a_append (e := 50) (bytes := 40) hF (by omega) rfl rfl (by kernel_rfl) (by decide) (hin i0 hi0) g43 (by simp only [List.length_cons, List.length_nil]; omega) (by simp only [List.length_cons, List.length_nil]; omega)) ?_
      rintro v44 w7 ⟨Cw7, hs, h44, hF⟩
      refine ⟨(hR.trans hs (by simp)).ext, ?_⟩
      replace hT := hT.trans hs (by simp <;> omega)
      replace hl := hl.st hs (by first | decide | (simp <;> omega))
      replace hp := hp.st hs (by first | decide | (simp <;> omega))
      replace ho := ho.st hs (by first | decide | (simp <;> omega)) (by first | decide | (simp <;> omega))
      replace h29 := h29.st hs (by first | decide | (simp <;> omega))
      replace h30 := h30.st hs (by first | decide | (simp <;> omega))
      replace g31 := g31.st hs (by first | decide | (simp <;> omega))
      replace hR := hR.trans hs (by simp <;> omega)
      replace h41 := h41.st hs (by first | decide | (simp <;> omega))
      replace g42 := g42.st hs (by first | decide | (simp <;> omega))
      replace g43 := g43.st hs (by first | decide | (simp <;> omega))
      replace hin := fun k hk (hne : k ≠ i0) => (hin k hk).st hs (by simp <;> omega) (by simp <;> omega)
      refine oI (e' := 23) (by kernel_rfl : opAt F25.o9 12 = some (some 45, .indexAddr 34 (.tmp 33) (.tmp 34), none)) rfl rfl ho rfl (by kernel_rfl) rfl (by omega) (by omega) ?_
      intro g45 hg45
      try simp only [Int.toNat_natCast]
      refine Sch.free rfl ?_
      refine aN (by kernel_rfl : opAt F25.o9 13 = some (none, .store 23 (.tmp 45) (.tmp 44), none)) rfl (a_storeO ho hg45 (by omega) rfl rfl (by kernel_rfl) (rv_sv.2 ⟨rfl, h44.one.2⟩)) ?_
      rintro _ w8 ⟨rfl, hs, ho⟩
      refine ⟨trivial, ?_⟩
      replace hF := hF.st hs
      replace hT := hT.trans hs (by simp)
      replace hl := hl.st hs (by first | decide | (simp <;> omega))
      replace hp := hp.st hs (by first | decide | (simp <;> omega))
      replace h29 := h29.st hs (by first | decide | (simp <;> omega))
      replace h30 := h30.st hs (by first | decide | (simp <;> omega))
      replace g31 := g31.st hs (by first | decide | (simp <;> omega))
      replace h41 := h41.st hs (by first | decide | (simp <;> omega))
      replace g42 := g42.st hs (by first | decide | (simp <;> omega))
      replace g43 := g43.st hs (by first | decide | (simp <;> omega))
      replace h44 := h44.st hs (by first | decide | (simp <;> omega)) (by first | decide | (simp <;> omega))
      replace hin := fun k hk hne => (hin k hk hne).st hs (by simp <;> omega) (by simp <;> omega)
      refine Sch.nil ?_
      refine run_inBlock ?_
      refine run_plain (id := 7) (ops := F25.o7) [(0, true), (1, true), (2, true)] (by kernel_rfl) (by kernel_rfl) ?_
      refine yS (by kernel_rfl : opAt F25.o7 0 = some (some 24, .move (.tmp 7), none)) rfl rfl (fun w' hS => val_move rfl) ?_
      refine yS (by kernel_rfl : opAt F25.o7 1 = some (some 25, .binOp .add 3 (.tmp 24) (.const (.int .i64 1)) 3, none)) rfl rfl (fun w' hS => val_addi rfl rfl (by omega) (by omega)) ?_
      refine yS (by kernel_rfl : opAt F25.o7 2 = some (some 7, .assign (.tmp 25), none)) rfl rfl (fun w' hS => val_assign rfl) ?_
      refine Sch.nil ?_
      refine kp (sub_cons 0 rfl rfl (sub_cons 4 rfl rfl (sub_cons 6 rfl rfl (sub_cons 7 rfl (eq_int (by simp)) (sub_nil _))))) (next1 (k + 1, updV vf i0 v44, Cw7) _ ⟨(by first | omega | (simp only; omega)), hF, hT, hl, hp, (by simp only; rw [← hn, ← svsF_set]; exact ho), (fun i hi => by
          simp only
          rw [splitK_step hkl hi0m hi]
          by_cases e : i = i0
          · subst e; simp only [updV, if_pos]; exact h44
          · simp only [updV, if_neg e]; exact hin i (by omega) e)⟩ (by first | omega | (simp only; omega)))
    · skip
      have hkl : k = l.length := by omega
      subst hkl
      rw [splitK_all] at hin
      refine run_exit (id := 0) (by kernel_rfl) rfl ?_
      refine run_seq (x := F25.c32) (y := F25.c33) (by kernel_rfl) ?_
      refine run_plain (id := 10) (ops := F25.o10) [(0, true), (1, true), (2, true)] (by kernel_rfl) (by kernel_rfl) ?_
      refine yS (by kernel_rfl : opAt F25.o10 0 = some (some 46, .move (.tmp 6), none)) rfl rfl (fun w' hS => val_move rfl) ?_
      refine yS (by kernel_rfl : opAt F25.o10 1 = some (some 2, .assign (.tmp 46), none)) rfl rfl (fun w' hS => val_assign rfl) ?_
      refine yS (by kernel_rfl : opAt F25.o10 2 = some (some 3, .assign (.const (.int .i64 0)), none)) rfl rfl (fun w' hS => val_assign rfl) ?_
      refine Sch.nil ?_
      refine run_ret2 (by kernel_rfl) Try.func25 Try.results25 rfl rfl ?_
      rw [hck]
      have hgl : (splitS l).length = n := by rw [splitS_len, hn]
      rw [← hgl] at ho
      refine ⟨_, rfl, hT.out1 big_ge, ?_⟩
      rw [if_pos rfl]
      refine rv_lists (vf := vf) (ho.out hT hF0 (Mc_col1 C) (fun b _ => col1_lt C (by decide) b) (by rw [svsF_len]; omega)) fun i hi => ?_
      exact (hin i (by omega)).out hT hF0 (Mc_col1 C) (fun b _ => col1_lt C (by omega) b) (by rw [← splitK_all]; exact Nat.le_trans (splitK_glen l _ i) (by omega))
namespace F26
noncomputable def c0 : Code := bodyOf Try.f26
noncomputable def c1 : Code := cl c0
noncomputable def o0 : Array Oper := rops c1
noncomputable def c2 : Code := cr c0
noncomputable def c3 : Code := cl c2
noncomputable def c4 : Code := cl c3
noncomputable def o1 : Array Oper := rops c4
noncomputable def c5 : Code := cr c3
noncomputable def c6 : Code := cl c5
noncomputable def c7 : Code := cl c6
noncomputable def o2 : Array Oper := rops c7
noncomputable def c8 : Code := cr c6
noncomputable def c9 : Code := cr c5
noncomputable def c10 : Code := cr c2
noncomputable def c11 : Code := cl c10
noncomputable def c12 : Code := cl c11
noncomputable def o3 : Array Oper := rops c12
noncomputable def c13 : Code := cr c11
noncomputable def c14 : Code := cl c13
noncomputable def c15 : Code := cl c14
noncomputable def c16 : Code := cl c15
noncomputable def c17 : Code := cl c16
noncomputable def o4 : Array Oper := rops c17
noncomputable def c18 : Code := cr c16
noncomputable def c19 : Code := cl c18
noncomputable def c20 : Code := cr c18
noncomputable def c21 : Code := cr c15
noncomputable def c22 : Code := cl c21
noncomputable def c23 : Code := cl c22
noncomputable def c24 : Code := cl c23
noncomputable def o6 : Array Oper := rops c24
noncomputable def c25 : Code := cr c23
noncomputable def c26 : Code := cl c25
noncomputable def c27 : Code := cl c26
noncomputable def o7 : Array Oper := rops c27
noncomputable def c28 : Code := cr c26
noncomputable def c29 : Code := cr c25
noncomputable def c30 : Code := cr c21
noncomputable def o5 : Array Oper := rops c30
noncomputable def c31 : Code := cr c10
noncomputable def c32 : Code := cl c31
noncomputable def o8 : Array Oper := rops c32
noncomputable def c33 : Code := cr c31
end F26
theorem sameBonds_ok {w₀ : World} {C : Nat → Nat} {l : List Bond} {va vb : Value} (hF : Lim w₀ C) (ha : RV w₀ (Mc C) l va) (hb : RV w₀ (Mc C) l vb) : Calls Try.prog 26 #[va, vb] w₀ (Ret fun v w' => v = .bool true ∧ Stp [] w₀ C w' C) := by
  have hF0 := hF
  have hT := Stp.refl [2, 3, 4, 5, 6, 7, 8, 9] w₀ (col1 C)
  replace hF := hF.col1
  replace ha : RV w₀ (Mc (col1 C)) l va := by rw [Mc_col1]; exact ha
  replace hb : RV w₀ (Mc (col1 C)) l vb := by rw [Mc_col1]; exact hb
  refine calls_start (c := F26.c0) (N := 26) [va, vb] Try.func26 (by kernel_rfl) (by kernel_rfl) (by kernel_rfl) ?_
  show Run _ _ _ _ [(0, va), (1, vb)] _ _
  refine run_seq (x := F26.c1) (y := F26.c2) (by kernel_rfl) ?_
  refine run_plain (id := 0) (ops := F26.o0) [(0, true)] (by kernel_rfl) (by kernel_rfl) ?_
  refine yS (by kernel_rfl : opAt F26.o0 0 = some (some 4, .assign (.const (.bool false)), none)) rfl rfl (fun w' hS => val_assign rfl) ?_
  refine Sch.nil ?_
  refine run_seq (x := F26.c3) (y := F26.c10) (by kernel_rfl) ?_
  refine run_seq (x := F26.c4) (y := F26.c5) (by kernel_rfl) ?_
  refine run_plain (id := 1) (ops := F26.o1) [(0, true), (1, true), (2, true), (3, true), (4, true)] (by kernel_rfl) (by kernel_rfl) ?_
  refine yS (by kernel_rfl : opAt F26.o1 0 = some (some 6, .move (.tmp 0), none)) rfl rfl (fun w' hS => val_move rfl) ?_
  refine yS (by kernel_rfl : opAt F26.o1 1 = some (some 7, .call { callee := .builtin .len, args := #[(.tmp 6)], argTypes := #[23] }, none)) rfl rfl (fun w' hS => ha.lenV rfl Try.underlying23 w' ) ?_
  refine yS (by kernel_rfl : opAt F26.o1 2 = some (some 8, .move (.tmp 1), none)) rfl rfl (fun w' hS => val_move rfl) ?_
  refine yS (by kernel_rfl : opAt F26.o1 3 = some (some 9, .call { callee := .builtin .len, args := #[(.tmp 8)], argTypes := #[23] }, none)) rfl rfl (fun w' hS => hb.lenV rfl Try.underlying23 w' ) ?_
  refine yS (by kernel_rfl : opAt F26.o1 4 = some (some 10, .binOp .neq 3 (.tmp 7) (.tmp 9) 3, none)) rfl rfl (fun w' hS => val_F (val_neq rfl rfl) (fun e => e rfl)) ?_
  refine Sch.nil ?_
  refine run_cond (x := F26.c6) (y := F26.c9) (o := .tmp 10) (b := false) (by kernel_rfl) rfl (fun h => by cases h) (fun _ => ?_)
  refine run_skip (by kernel_rfl) ?_
  refine run_seq (x := F26.c11) (y := F26.c31) (by kernel_rfl) ?_
  refine run_seq (x := F26.c12) (y := F26.c13) (by kernel_rfl) ?_
  refine run_plain (id := 3) (ops := F26.o3) [(0, true)] (by kernel_rfl) (by kernel_rfl) ?_
  refine yS (by kernel_rfl : opAt F26.o3 0 = some (some 5, .assign (.const (.int .i64 0)), none)) rfl rfl (fun w' hS => val_assign rfl) ?_
  refine Sch.nil ?_
  refine run_block (x := F26.c14) (id := 0) (by kernel_rfl) ?_
  
  refine run_loop (ι := Nat × (Nat → Nat)) (I := fun x w => x.1 ≤ l.length ∧ Lim w x.2 ∧ Stp [2, 3, 4, 5, 6, 7, 8, 9] w₀ (col1 C) w x.2 ∧ RV w (Mc x.2) l va ∧ RV w (Mc x.2) l vb) (e := fun x => [(0, va), (1, vb), (5, .int .i64 x.1)]) (m := fun x => l.length - x.1) (x₀ := (0, col1 C)) (body := F26.c15) (by kernel_rfl) (sub_cons 0 rfl rfl (sub_cons 1 rfl rfl (sub_cons 5 rfl rfl (sub_nil _)))) ?_ ?_
  · exact ⟨Nat.zero_le _, hF, hT, ha, hb⟩
  intro ⟨i, C1⟩ w1 hI next
  obtain ⟨hi, hF, hT, ha, hb⟩ := hI
  try simp only at hi hF hT ha hb
  have next1 := next
  clear next
  show Run _ _ _ _ [(0, va), (1, vb), (5, .int .i64 i)] _ _
  have hle := ha.le
  refine run_seq (x := F26.c16) (y := F26.c21) (by kernel_rfl) ?_
  refine run_seq (x := F26.c17) (y := F26.c18) (by kernel_rfl) ?_
  refine run_plain (id := 4) (ops := F26.o4) [(0, true), (1, true), (2, true), (3, true)] (by kernel_rfl) (by kernel_rfl) ?_
  refine yS (by kernel_rfl : opAt F26.o4 0 = some (some 11, .move (.tmp 5), none)) rfl rfl (fun w' hS => val_move rfl) ?_
  refine yS (by kernel_rfl : opAt F26.o4 1 = some (some 12, .move (.tmp 0), none)) rfl rfl (fun w' hS => val_move rfl) ?_
  refine yS (by kernel_rfl : opAt F26.o4 2 = some (some 13, .call { callee := .builtin .len, args := #[(.tmp 12)], argTypes := #[23] }, none)) rfl rfl (fun w' hS => ha.lenV rfl Try.underlying23 w' ) ?_
  refine yS (by kernel_rfl : opAt F26.o4 3 = some (some 14, .binOp .lss 3 (.tmp 11) (.tmp 13) 3, none)) rfl rfl (fun w' hS => val_lss rfl rfl) ?_
  refine Sch.nil ?_
  refine run_if (x := F26.c19) (y := F26.c20) (o := .tmp 14) (by kernel_rfl) rfl (fun h14 => ?_) (fun h14 => ?_)
  · skip
    have hil : i < l.length := by omega
    refine run_skip (by kernel_rfl) ?_
    refine run_seq (x := F26.c22) (y := F26.c30) (by kernel_rfl) ?_
    refine run_block (x := F26.c23) (id := 1) (by kernel_rfl) ?_
    refine run_seq (x := F26.c24) (y := F26.c25) (by kernel_rfl) ?_
    refine run_draw (id := 6) (ops := F26.o6) [] (C1) [(0, true), (1, true), (2, true), (3, true), (4, true), (5, true), (6, true), (7, true), (8, true)] Try_mixed (by kernel_rfl) (by kernel_rfl) (by kernel_rfl) ?_
    intro w2 hs
    replace hF := hF.st hs
    replace hT := hT.trans hs (by simp)
    replace ha := ha.st hs (by first | decide | (simp <;> omega))
    replace hb := hb.st hs (by first | decide | (simp <;> omega))
    refine yS (by kernel_rfl : opAt F26.o6 0 = some (some 17, .move (.tmp 0), none)) rfl rfl (fun w' hS => val_move rfl) ?_
    refine yS (by kernel_rfl : opAt F26.o6 1 = some (some 18, .move (.tmp 5), none)) rfl rfl (fun w' hS => val_move rfl) ?_
    refine iS (e := 50) (by kernel_rfl : opAt F26.o6 2 = some (some 19, .indexAddr 23 (.tmp 17) (.tmp 18), none)) rfl rfl ha rfl (by kernel_rfl) rfl (by omega) (by omega) ?_
    intro b19 o19 h19
    try simp only [Int.toNat_natCast] at h19
    refine lSA (by kernel_rfl : opAt F26.o6 3 = some (some 20, .load 50 (.tmp 19), none)) rfl rfl (fun w' hS => h19.stay hS (by first | decide | (simp <;> omega))) h19 (by kernel_rfl) (by kernel_rfl) rfl rfl ?_
    intro v20 g20
    refine yS (by kernel_rfl : opAt F26.o6 4 = some (some 21, .move (.tmp 1), none)) rfl rfl (fun w' hS => val_move rfl) ?_
    refine yS (by kernel_rfl : opAt F26.o6 5 = some (some 22, .move (.tmp 5), none)) rfl rfl (fun w' hS => val_move rfl) ?_
    refine iS (e := 50) (by kernel_rfl : opAt F26.o6 6 = some (some 23, .indexAddr 23 (.tmp 21) (.tmp 22), none)) rfl rfl hb rfl (by kernel_rfl) rfl (by omega) (by omega) ?_
    intro b23 o23 h23
    try simp only [Int.toNat_natCast] at h23
    refine lSA (by kernel_rfl : opAt F26.o6 7 = some (some 24, .load 50 (.tmp 23), none)) rfl rfl (fun w' hS => h23.stay hS (by first | decide | (simp <;> omega))) h23 (by kernel_rfl) (by kernel_rfl) rfl rfl ?_
    intro v24 g24
    obtain rfl := rv_bond.1 g20
    obtain rfl := rv_bond.1 g24
    refine yS (by kernel_rfl : opAt F26.o6 8 = some (some 25, .binOp .neq 50 (.tmp 20) (.tmp 24) 50, none)) rfl rfl (fun w' hS => val_F (val_neBond Try.underlying50 (by decide) (by decide) (by decide) (by kernel_rfl) (eqOK_couple Try.underlying25 (by decide) (by decide) (by kernel_rfl) Try.underlying3) Try.underlying3 (by kernel_rfl) (by kernel_rfl) (by kernel_rfl) rfl rfl) (fun e => e rfl)) ?_
    refine Sch.nil ?_
    refine run_cond (x := F26.c26) (y := F26.c29) (o := .tmp 25) (b := false) (by kernel_rfl) rfl (fun h => by cases h) (fun _ => ?_)
    refine run_skip (by kernel_rfl) ?_
    refine run_inBlock ?_
    refine run_plain (id := 5) (ops := F26.o5) [(0, true), (1, true), (2, true)] (by kernel_rfl) (by kernel_rfl) ?_
    refine yS (by kernel_rfl : opAt F26.o5 0 = some (some 15, .move (.tmp 5), none)) rfl rfl (fun w' hS => val_move rfl) ?_
    refine yS (by kernel_rfl : opAt F26.o5 1 = some (some 16, .binOp .add 3 (.tmp 15) (.const (.int .i64 1)) 3, none)) rfl rfl (fun w' hS => val_addi rfl rfl (by omega) (by omega)) ?_
    refine yS (by kernel_rfl : opAt F26.o5 2 = some (some 5, .assign (.tmp 16), none)) rfl rfl (fun w' hS => val_assign rfl) ?_
    refine Sch.nil ?_
    refine kp (sub_cons 0 rfl rfl (sub_cons 1 rfl rfl (sub_cons 5 rfl (eq_int (by simp)) (sub_nil _)))) (next1 (i + 1, C1) _ ⟨(by first | omega | (simp only; omega)), hF, hT, ha, hb⟩ (by first | omega | (simp only; omega)))
  · skip
    refine run_exit (id := 0) (by kernel_rfl) rfl ?_
    refine run_seq (x := F26.c32) (y := F26.c33) (by kernel_rfl) ?_
    refine run_plain (id := 8) (ops := F26.o8) [(0, true)] (by kernel_rfl) (by kernel_rfl) ?_
    refine yS (by kernel_rfl : opAt F26.o8 0 = some (some 4, .assign (.const (.bool true)), none)) rfl rfl (fun w' hS => val_assign rfl) ?_
    refine Sch.nil ?_
    refine run_ret1 (by kernel_rfl) Try.func26 Try.results26 rfl ?_
    exact ⟨rfl, hT.out1 (by decide)⟩
namespace F21
noncomputable def c0 : Code := bodyOf Try.f21
noncomputable def c1 : Code := cl c0
noncomputable def o0 : Array Oper := rops c1
noncomputable def c2 : Code := cr c0
noncomputable def c3 : Code := cl c2
noncomputable def c4 : Code := cl c3
noncomputable def o1 : Array Oper := rops c4
noncomputable def c5 : Code := cr c3
noncomputable def c6 : Code := cl c5
noncomputable def c7 : Code := cl c6
noncomputable def o2 : Array Oper := rops c7
noncomputable def c8 : Code := cr c6
noncomputable def c9 : Code := cr c5
noncomputable def c10 : Code := cr c2
noncomputable def c11 : Code := cl c10
noncomputable def c12 : Code := cl c11
noncomputable def o3 : Array Oper := rops c12
noncomputable def c13 : Code := cr c11
noncomputable def c14 : Code := cl c13
noncomputable def c15 : Code := cl c14
noncomputable def c16 : Code := cl c15
noncomputable def c17 : Code := cl c16
noncomputable def o4 : Array Oper := rops c17
noncomputable def c18 : Code := cr c16
noncomputable def c19 : Code := cl c18
noncomputable def c20 : Code := cr c18
noncomputable def c21 : Code := cr c15
noncomputable def c22 : Code := cl c21
noncomputable def c23 : Code := cl c22
noncomputable def c24 : Code := cl c23
noncomputable def o6 : Array Oper := rops c24
noncomputable def c25 : Code := cr c23
noncomputable def c26 : Code := cl c25
noncomputable def c27 : Code := cl c26
noncomputable def o7 : Array Oper := rops c27
noncomputable def c28 : Code := cr c26
noncomputable def c29 : Code := cr c25
noncomputable def c30 : Code := cr c21
noncomputable def o5 : Array Oper := rops c30
noncomputable def c31 : Code := cr c10
noncomputable def c32 : Code := cl c31
noncomputable def o8 : Array Oper := rops c32
noncomputable def c33 : Code := cr c31
end F21
theorem sameParts_ok {w₀ : World} {C : Nat → Nat} {l : List (List Couple)} {va vb : Value} (hF : Lim w₀ C) (ha : RV w₀ (Mc C) l va) (hb : RV w₀ (Mc C) l vb) : Calls Try.prog 21 #[va, vb] w₀ (Ret fun v w' => v = .bool true ∧ Stp [] w₀ C w' C) := by
  have hF0 := hF
  have hT := Stp.refl [2, 3, 4, 5, 6, 7, 8, 9] w₀ (col1 C)
  replace hF := hF.col1
  replace ha : RV w₀ (Mc (col1 C)) l va := by rw [Mc_col1]; exact ha
  replace hb : RV w₀ (Mc (col1 C)) l vb := by rw [Mc_col1]; exact hb
  refine calls_start (c := F21.c0) (N := 27) [va, vb] Try.func21 (by kernel_rfl) (by kernel_rfl) (by kernel_rfl) ?_
  show Run _ _ _ _ [(0, va), (1, vb)] _ _
  refine run_seq (x := F21.c1) (y := F21.c2) (by kernel_rfl) ?_
  refine run_plain (id := 0) (ops := F21.o0) [(0, true)] (by kernel_rfl) (by kernel_rfl) ?_
  refine yS (by kernel_rfl : opAt F21.o0 0 = some (some 4, .assign (.const (.bool false)), none)) rfl rfl (fun w' hS => val_assign rfl) ?_
  refine Sch.nil ?_
  refine run_seq (x := F21.c3) (y := F21.c10) (by kernel_rfl) ?_
  refine run_seq (x := F21.c4) (y := F21.c5) (by kernel_rfl) ?_
  refine run_plain (id := 1) (ops := F21.o1) [(0, true), (1, true), (2, true), (3, true), (4, true)] (by kernel_rfl) (by kernel_rfl) ?_
  refine yS (by kernel_rfl : opAt F21.o1 0 = some (some 6, .move (.tmp 0), none)) rfl rfl (fun w' hS => val_move rfl) ?_
  refine yS (by kernel_rfl : opAt F21.o1 1 = some (some 7, .call { callee := .builtin .len, args := #[(.tmp 6)], argTypes := #[26] }, none)) rfl rfl (fun w' hS => ha.lenV rfl Try.underlying26 w' ) ?_
  refine yS (by kernel_rfl : opAt F21.o1 2 = some (some 8, .move (.tmp 1), none)) rfl rfl (fun w' hS => val_move rfl) ?_
  refine yS (by kernel_rfl : opAt F21.o1 3 = some (some 9, .call { callee := .builtin .len, args := #[(.tmp 8)], argTypes := #[26] }, none)) rfl rfl (fun w' hS => hb.lenV rfl Try.underlying26 w' ) ?_
  refine yS (by kernel_rfl : opAt F21.o1 4 = some (some 10, .binOp .neq 3 (.tmp 7) (.tmp 9) 3, none)) rfl rfl (fun w' hS => val_F (val_neq rfl rfl) (fun e => e rfl)) ?_
  refine Sch.nil ?_
  refine run_cond (x := F21.c6) (y := F21.c9) (o := .tmp 10) (b := false) (by kernel_rfl) rfl (fun h => by cases h) (fun _ => ?_)
  refine run_skip (by kernel_rfl) ?_
  refine run_seq (x := F21.c11) (y := F21.c31) (by kernel_rfl) ?_
  refine run_seq (x := F21.c12) (y := F21.c13) (by kernel_rfl) ?_
  refine run_plain (id := 3) (ops := F21.o3) [(0, true)] (by kernel_rfl) (by kernel_rfl) ?_
  refine yS (by kernel_rfl : opAt F21.o3 0 = some (some 5, .assign (.const (.int .i64 0)), none)) rfl rfl (fun w' hS => val_assign rfl) ?_
  refine Sch.nil ?_
  refine run_block (x := F21.c14) (id := 0) (by kernel_rfl) ?_
  
  refine run_loop (ι := Nat × (Nat → Nat)) (I := fun x w => x.1 ≤ l.length ∧ Lim w x.2 ∧ Stp [2, 3, 4, 5, 6, 7, 8, 9] w₀ (col1 C) w x.2 ∧ RV w (Mc x.2) l va ∧ RV w (Mc x.2) l vb) (e := fun x => [(0, va), (1, vb), (5, .int .i64 x.1)]) (m := fun x => l.length - x.1) (x₀ := (0, col1 C)) (body := F21.c15) (by kernel_rfl) (sub_cons 0 rfl rfl (sub_cons 1 rfl rfl (sub_cons 5 rfl rfl (sub_nil _)))) ?_ ?_
  · exact ⟨Nat.zero_le _, hF, hT, ha, hb⟩
  intro ⟨i, C1⟩ w1 hI next
  obtain ⟨hi, hF, hT, ha, hb⟩ := hI
  try simp only at hi hF hT ha hb
  have next1 := next
  clear next
  show Run _ _ _ _ [(0, va), (1, vb), (5, .int .i64 i)] _ _
  have hle := ha.le
  refine run_seq (x := F21.c16) (y := F21.c21) (by kernel_rfl) ?_
  refine run_seq (x := F21.c17) (y := F21.c18) (by kernel_rfl) ?_
  refine run_plain (id := 4) (ops := F21.o4) [(0, true), (1, true), (2, true), (3, true)] (by kernel_rfl) (by kernel_rfl) ?_
  refine yS (by kernel_rfl : opAt F21.o4 0 = some (some 11, .move (.tmp 5), none)) rfl rfl (fun w' hS => val_move rfl) ?_
  refine yS (by kernel_rfl : opAt F21.o4 1 = some (some 12, .move (.tmp 0), none)) rfl rfl (fun w' hS => val_move rfl) ?_
  refine yS (by kernel_rfl : opAt F21.o4 2 = some (some 13, .call { callee := .builtin .len, args := #[(.tmp 12)], argTypes := #[26] }, none)) rfl rfl (fun w' hS => ha.lenV rfl Try.underlying26 w' ) ?_
  refine yS (by kernel_rfl : opAt F21.o4 3 = some (some 14, .binOp .lss 3 (.tmp 11) (.tmp 13) 3, none)) rfl rfl (fun w' hS => val_lss rfl rfl) ?_
  refine Sch.nil ?_
  refine run_if (x := F21.c19) (y := F21.c20) (o := .tmp 14) (by kernel_rfl) rfl (fun h14 => ?_) (fun h14 => ?_)
  · skip
    have hil : i < l.length := by omega
    refine run_skip (by kernel_rfl) ?_
    refine run_seq (x := F21.c22) (y := F21.c30) (by kernel_rfl) ?_
    refine run_block (x := F21.c23) (id := 1) (by kernel_rfl) ?_
    refine run_seq (x := F21.c24) (y := F21.c25) (by kernel_rfl) ?_
    refine run_draw (id := 6) (ops := F21.o6) [] (C1) [(0, true), (1, true), (2, true), (3, true), (4, true), (5, true), (6, true), (7, true), (8, false), (9, true)] Try_mixed (by kernel_rfl) (by kernel_rfl) (by kernel_rfl) ?_
    intro w2 hs
    replace hF := hF.st hs
    replace hT := hT.trans hs (by simp)
    replace ha := ha.st hs (by first | decide | (simp <;> omega))
    replace hb := hb.st hs (by first | decide | (simp <;> omega))
    have hR := Stp.refl [] w2 (C1)
    refine yS (by kernel_rfl : opAt F21.o6 0 = some (some 17, .move (.tmp 0), none)) rfl rfl (fun w' hS => val_move rfl) ?_
    refine yS (by kernel_rfl : opAt F21.o6 1 = some (some 18, .move (.tmp 5), none)) rfl rfl (fun w' hS => val_move rfl) ?_
    refine iS (e := 38) (by kernel_rfl : opAt F21.o6 2 = some (some 19, .indexAddr 26 (.tmp 17) (.tmp 18), none)) rfl rfl ha rfl (by kernel_rfl) rfl (by omega) (by omega) ?_
    intro b19 o19 h19
    try simp only [Int.toNat_natCast] at h19
    refine lS (by kernel_rfl : opAt F21.o6 3 = some (some 20, .load 38 (.tmp 19), none)) rfl rfl (fun w' hS => h19.stay hS (by first | decide | (simp <;> omega))) h19 (by kernel_rfl) rfl rfl ?_
    intro v20 g20
    refine yS (by kernel_rfl : opAt F21.o6 4 = some (some 21, .move (.tmp 1), none)) rfl rfl (fun w' hS => val_move rfl) ?_
    refine yS (by kernel_rfl : opAt F21.o6 5 = some (some 22, .move (.tmp 5), none)) rfl rfl (fun w' hS => val_move rfl) ?_
    refine iS (e := 38) (by kernel_rfl : opAt F21.o6 6 = some (some 23, .indexAddr 26 (.tmp 21) (.tmp 22), none)) rfl rfl hb rfl (by kernel_rfl) rfl (by omega) (by omega) ?_
    intro b23 o23 h23
    try simp only [Int.toNat_natCast] at h23
    refine lS (by kernel_rfl : opAt F21.o6 7 = some (some 24, .load 38 (.tmp 23), none)) rfl rfl (fun w' hS => h23.stay hS (by first | decide | (simp <;> omega))) h23 (by kernel_rfl) rfl rfl ?_
    intro v24 g24
    refine cS (by kernel_rfl : opAt F21.o6 8 = some (some 25, .call { callee := .value (.func 16), args := #[(.tmp 20), (.tmp 24)], argTypes := #[38, 38] }, none)) rfl rfl (ent Try.call16 rfl) (sameRefs_ok hF g20 g24) ?_
    rintro vw3 w3 ⟨rfl, hs⟩
    refine ⟨(hR.trans hs (by simp)).ext, ?_⟩
    replace hF := hF.st hs
    replace hT := hT.trans hs (by simp)
    replace ha := ha.st hs (by first | decide | (simp <;> omega))
    replace hb := hb.st hs (by first | decide | (simp <;> omega))
    replace hR := hR.trans hs (by simp)
    replace h19 := h19.st hs (by first | decide | (simp <;> omega))
    replace g20 := g20.st hs (by first | decide | (simp <;> omega))
    replace h23 := h23.st hs (by first | decide | (simp <;> omega))
    replace g24 := g24.st hs (by first | decide | (simp <;> omega))
    refine yS (by kernel_rfl : opAt F21.o6 9 = some (some 26, .unOp .not 4 (.tmp 25), none)) rfl rfl (fun w' hS => val_not rfl) ?_
    refine Sch.nil ?_
    refine run_cond (x := F21.c26) (y := F21.c29) (o := .tmp 26) (b := false) (by kernel_rfl) rfl (fun h => by cases h) (fun _ => ?_)
    refine run_skip (by kernel_rfl) ?_
    refine run_inBlock ?_
    refine run_plain (id := 5) (ops := F21.o5) [(0, true), (1, true), (2, true)] (by kernel_rfl) (by kernel_rfl) ?_
    refine yS (by kernel_rfl : opAt F21.o5 0 = some (some 15, .move (.tmp 5), none)) rfl rfl (fun w' hS => val_move rfl) ?_
    refine yS (by kernel_rfl : opAt F21.o5 1 = some (some 16, .binOp .add 3 (.tmp 15) (.const (.int .i64 1)) 3, none)) rfl rfl (fun w' hS => val_addi rfl rfl (by omega) (by omega)) ?_
    refine yS (by kernel_rfl : opAt F21.o5 2 = some (some 5, .assign (.tmp 16), none)) rfl rfl (fun w' hS => val_assign rfl) ?_
    refine Sch.nil ?_
    refine kp (sub_cons 0 rfl rfl (sub_cons 1 rfl rfl (sub_cons 5 rfl (eq_int (by simp)) (sub_nil _)))) (next1 (i + 1, C1) _ ⟨(by first | omega | (simp only; omega)), hF, hT, ha, hb⟩ (by first | omega | (simp only; omega)))
  · skip
    refine run_exit (id := 0) (by kernel_rfl) rfl ?_
    refine run_seq (x := F21.c32) (y := F21.c33) (by kernel_rfl) ?_
    refine run_plain (id := 8) (ops := F21.o8) [(0, true)] (by kernel_rfl) (by kernel_rfl) ?_
    refine yS (by kernel_rfl : opAt F21.o8 0 = some (some 4, .assign (.const (.bool true)), none)) rfl rfl (fun w' hS => val_assign rfl) ?_
    refine Sch.nil ?_
    refine run_ret1 (by kernel_rfl) Try.func21 Try.results21 rfl ?_
    exact ⟨rfl, hT.out1 (by decide)⟩
end Go.Proofs.Ytfmdkdfhnkennaa

