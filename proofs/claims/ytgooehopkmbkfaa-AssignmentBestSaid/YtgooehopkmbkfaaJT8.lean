/- Steps through functions of the program. -/
import Derived.Test.YtgooehopkmbkfaaJT7
set_option linter.unusedVariables false
set_option linter.unusedSimpArgs false
set_option maxRecDepth 100000
set_option maxHeartbeats 4000000
namespace Go.Proofs.Ytgooehopkmbkfaa
open Go.K Go.K.Rep

namespace F35
noncomputable def c0 : Code := bodyOf Try.f35
noncomputable def c1 : Code := cl c0
noncomputable def o0 : Array Oper := rops c1
noncomputable def c2 : Code := cr c0
noncomputable def c3 : Code := cl c2
noncomputable def o1 : Array Oper := rops c3
noncomputable def c4 : Code := cr c2
noncomputable def c5 : Code := cl c4
noncomputable def c6 : Code := cl c5
noncomputable def o2 : Array Oper := rops c6
noncomputable def c7 : Code := cr c5
noncomputable def c8 : Code := cl c7
noncomputable def c9 : Code := cl c8
noncomputable def c10 : Code := cl c9
noncomputable def o3 : Array Oper := rops c10
noncomputable def c11 : Code := cr c9
noncomputable def c12 : Code := cl c11
noncomputable def c13 : Code := cl c12
noncomputable def c14 : Code := cr c12
noncomputable def c15 : Code := cr c11
noncomputable def c16 : Code := cl c15
noncomputable def c17 : Code := cl c16
noncomputable def c18 : Code := cl c17
noncomputable def o4 : Array Oper := rops c18
noncomputable def c19 : Code := cr c17
noncomputable def c20 : Code := cl c19
noncomputable def c21 : Code := cl c20
noncomputable def o5 : Array Oper := rops c21
noncomputable def c22 : Code := cr c20
noncomputable def c23 : Code := cl c22
noncomputable def c24 : Code := cl c23
noncomputable def o6 : Array Oper := rops c24
noncomputable def c25 : Code := cr c23
noncomputable def c26 : Code := cr c22
noncomputable def c27 : Code := cl c26
noncomputable def o7 : Array Oper := rops c27
noncomputable def c28 : Code := cr c26
noncomputable def c29 : Code := cl c28
noncomputable def c30 : Code := cl c29
noncomputable def o8 : Array Oper := rops c30
noncomputable def c31 : Code := cr c29
noncomputable def c32 : Code := cr c28
noncomputable def c33 : Code := cl c32
noncomputable def o9 : Array Oper := rops c33
noncomputable def c34 : Code := cr c32
noncomputable def c35 : Code := cl c34
noncomputable def o10 : Array Oper := rops c35
noncomputable def c36 : Code := cr c34
noncomputable def c37 : Code := cr c15
noncomputable def o11 : Array Oper := rops c37
noncomputable def c38 : Code := cr c4
noncomputable def c39 : Code := cl c38
noncomputable def o12 : Array Oper := rops c39
noncomputable def c40 : Code := cr c38
noncomputable def c41 : Code := cl c40
noncomputable def o13 : Array Oper := rops c41
noncomputable def c42 : Code := cr c40
end F35
/-- 'Feasible', all edges permitted. -/
theorem feasible_ok {w₀ : World} {C : Nat → Nat} {n m gb : Nat} {gr : Gr} {wt : Nat → Nat → Int} {U V : Nat → Int} {vst : Value} {stl : List Int} (hF : Lim w₀ C) (hG : GrIs n m wt U V gr) (hg : RA w₀ (Mc C) gr gb 0) (hst : RV w₀ (Mc C) stl vst) (hsl : stl.length = n)
    (hst2 : ∀ i, i < n → -2 ≤ gI stl i) (hlt : ∀ i, i < n → gI stl i < m) (hn : n ≤ 1000000) (hm : m ≤ 1000000) :
    Calls Try.prog 35 #[.pointer (some ⟨gb, 0, none⟩), vst, .nilFunc] w₀ (Ret fun v w' => ∃ b : Bool, v = .bool b ∧ Stp [] w₀ C w' C ∧ (b = true ↔ ∃ f, Tg n m (pos wt) U V f ∧ Goes n m (fun _ _ => True) (gI stl) f)) := by
  have hF0 := hF
  have hT := Stp.refl [2, 3, 4, 5, 6, 7, 8, 9] w₀ (col1 C)
  replace hF := hF.col1
  replace hg := (show RA w₀ (Mc (col1 C)) _ _ 0 from by rw [Mc_col1]; exact hg)
  replace hst := (show RV w₀ (Mc (col1 C)) _ _ from by rw [Mc_col1]; exact hst)
  refine calls_start (c := F35.c0) (N := 90) [.pointer (some ⟨gb, 0, none⟩), vst, .nilFunc] Try.func35 (by kernel_rfl) (by kernel_rfl) (by kernel_rfl) ?_
  show Run _ _ _ _ [(0, .pointer (some ⟨gb, 0, none⟩)), (1, vst), (2, .nilFunc)] _ _
  refine run_seq (x := F35.c1) (y := F35.c2) (by kernel_rfl) ?_
  refine run_plain (id := 0) (ops := F35.o0) [(0, false), (1, false), (2, false), (3, true)] (by kernel_rfl) (by kernel_rfl) ?_
  refine aS (by kernel_rfl : opAt F35.o0 0 = some (some 3, .box 62 (.tmp 0), none)) rfl rfl (a_box (cs := [.pointer (some ⟨gb, 0, none⟩)]) hF 6 rfl rfl) ?_
  rintro _ w1 ⟨Cw1, bw1, rfl, hs, hb3, hF⟩
  refine ⟨trivial, ?_⟩
  replace hT := hT.trans hs (by simp)
  replace hg := hg.st hs (by first | decide | (simp <;> omega))
  replace hst := hst.st hs (by first | decide | (simp <;> omega))
  refine aS (by kernel_rfl : opAt F35.o0 1 = some (some 4, .box 22 (.tmp 1), none)) rfl rfl (a_box (cs := [vst]) hF 6 rfl (hst.one rfl).1) ?_
  rintro _ w2 ⟨Cw2, bw2, rfl, hs, hb4, hF⟩
  refine ⟨trivial, ?_⟩
  replace hT := hT.trans hs (by simp)
  replace hg := hg.st hs (by first | decide | (simp <;> omega))
  replace hst := hst.st hs (by first | decide | (simp <;> omega))
  replace hb3 := hb3.st hs (by first | decide | (simp <;> omega))
  refine aS (by kernel_rfl : opAt F35.o0 2 = some (some 5, .box 65 (.tmp 2), none)) rfl rfl (a_box (cs := [.nilFunc]) hF 6 rfl rfl) ?_
  rintro _ w3 ⟨Cw3, bw3, rfl, hs, hb5, hF⟩
  refine ⟨trivial, ?_⟩
  replace hT := hT.trans hs (by simp)
  replace hg := hg.st hs (by first | decide | (simp <;> omega))
  replace hst := hst.st hs (by first | decide | (simp <;> omega))
  replace hb3 := hb3.st hs (by first | decide | (simp <;> omega))
  replace hb4 := hb4.st hs (by first | decide | (simp <;> omega))
  refine yS (by kernel_rfl : opAt F35.o0 3 = some (some 6, .assign (.const (.bool false)), none)) rfl rfl (fun w' hS => val_assign rfl) ?_
  refine Sch.nil ?_
  refine run_seq (x := F35.c3) (y := F35.c4) (by kernel_rfl) ?_
  refine run_plain (id := 1) (ops := F35.o1) [(0, false), (1, true), (2, true), (3, false), (4, false), (5, false), (6, false)] (by kernel_rfl) (by kernel_rfl) ?_
  refine nS (by kernel_rfl : opAt F35.o1 0 = some (some 11, .load 62 (.tmp 3), none)) rfl rfl trivial (val_loadOwn hb3.at_ (by kernel_rfl) rfl rfl) ?_
  refine yS (by kernel_rfl : opAt F35.o1 1 = some (some 12, .nilCheck (.tmp 11), none)) rfl rfl (fun w' hS => val_nilCheck rfl) ?_
  have h13 := RA.gm hg
  refine yS (by kernel_rfl : opAt F35.o1 2 = some (some 13, .fieldAddr 69 (.tmp 12) 1, none)) rfl rfl (fun w' hS => val_fieldAddr (off := 1) (by kernel_rfl) rfl) ?_
  refine lN (by kernel_rfl : opAt F35.o1 3 = some (some 14, .load 3 (.tmp 13), none)) rfl rfl trivial h13 (by kernel_rfl) rfl rfl ?_
  intro v14 g14
  first | (obtain rfl := rv_nat.1 g14) | (obtain rfl := rv_int.1 g14)
  rw [hG.gm]
  refine aS (by kernel_rfl : opAt F35.o1 4 = some (some 15, .makeSlice 48 (.tmp 14) (.tmp 14), none)) rfl rfl (a_make (e := 4) (bytes := 1) (x0 := false) (zs := [.bool false]) hF (j := 3) (by decide) (by kernel_rfl) (by kernel_rfl) rfl rfl (by omega) (by omega) (by omega) (fun h M => rfl)) ?_
  rintro v15 w4 ⟨Cw4, hs, hu, hF⟩
  refine ⟨trivial, ?_⟩
  replace hT := hT.trans hs (by simp)
  replace hg := hg.st hs (by first | decide | (simp <;> omega))
  replace hst := hst.st hs (by first | decide | (simp <;> omega))
  replace hb3 := hb3.st hs (by first | decide | (simp <;> omega))
  replace hb4 := hb4.st hs (by first | decide | (simp <;> omega))
  replace hb5 := hb5.st hs (by first | decide | (simp <;> omega))
  replace h13 := h13.st hs (by first | decide | (simp <;> omega))
  refine aS (by kernel_rfl : opAt F35.o1 5 = some (some 7, .alloc 48, none)) rfl rfl (a_alloc (cs := [.slice none 0 0]) hF 7 (by kernel_rfl)) ?_
  rintro _ w5 ⟨Cw5, bw5, rfl, hs, hb7, hF⟩
  refine ⟨trivial, ?_⟩
  replace hT := hT.trans hs (by simp)
  replace hg := hg.st hs (by first | decide | (simp <;> omega))
  replace hst := hst.st hs (by first | decide | (simp <;> omega))
  replace hb3 := hb3.st hs (by first | decide | (simp <;> omega))
  replace hb4 := hb4.st hs (by first | decide | (simp <;> omega))
  replace hb5 := hb5.st hs (by first | decide | (simp <;> omega))
  replace h13 := h13.st hs (by first | decide | (simp <;> omega))
  replace hu := hu.st hs (by first | decide | (simp <;> omega)) (by first | decide | (simp <;> omega))
  refine aN (by kernel_rfl : opAt F35.o1 6 = some (none, .store 48 (.tmp 7) (.tmp 15), none)) rfl (a_storeAll (vs := [v15]) (n := 1) rfl rfl (by kernel_rfl) hu.one.1 rfl (by intro u hu2; rw [List.mem_singleton.1 hu2]; exact hu.one.2) hb7 rfl) ?_
  rintro _ w6 ⟨rfl, hs, hb7⟩
  refine ⟨trivial, ?_⟩
  replace hF := hF.st hs
  replace hT := hT.trans hs (by simp)
  replace hg := hg.st hs (by first | decide | (simp <;> omega))
  replace hst := hst.st hs (by first | decide | (simp <;> omega))
  replace hb3 := hb3.st hs (by first | decide | (simp <;> omega))
  replace hb4 := hb4.st hs (by first | decide | (simp <;> omega))
  replace hb5 := hb5.st hs (by first | decide | (simp <;> omega))
  replace h13 := h13.st hs (by first | decide | (simp <;> omega))
  replace hu := hu.st hs (by first | decide | (simp <;> omega)) (by first | decide | (simp <;> omega))
  refine Sch.nil ?_
  try simp only [Int.toNat_natCast] at hu
  clear h13
  refine run_seq (x := F35.c5) (y := F35.c38) (by kernel_rfl) ?_
  refine run_seq (x := F35.c6) (y := F35.c7) (by kernel_rfl) ?_
  refine run_plain (id := 2) (ops := F35.o2) [(0, false), (1, true), (2, true)] (by kernel_rfl) (by kernel_rfl) ?_
  refine nS (by kernel_rfl : opAt F35.o2 0 = some (some 16, .load 22 (.tmp 4), none)) rfl rfl trivial (val_loadOwn hb4.at_ (by kernel_rfl) rfl rfl) ?_
  refine yS (by kernel_rfl : opAt F35.o2 1 = some (some 17, .call { callee := .builtin .len, args := #[(.tmp 16)], argTypes := #[22] }, none)) rfl rfl (fun w' hS => hst.lenV rfl Try.underlying22 w' ) ?_
  refine yS (by kernel_rfl : opAt F35.o2 2 = some (some 18, .move (.const (.int .i64 0)), none)) rfl rfl (fun w' hS => val_move rfl) ?_
  refine Sch.nil ?_
  refine run_block (x := F35.c8) (id := 0) (by kernel_rfl) ?_
  
  refine run_loop (ι := Nat × (List Bool) × (Nat → Nat)) (I := fun x w => x.1 ≤ n ∧ x.2.1.length = m ∧ SPre n m wt U V (gI stl) x.1 ∧ UsedIs m (gI stl) x.2.1 x.1 ∧ Lim w x.2.2 ∧ Stp [2, 3, 4, 5, 6, 7, 8, 9] w₀ (col1 C) w x.2.2 ∧ OwnB w x.2.2 6 bw1 (.cells [.pointer (some ⟨gb, 0, none⟩)].toArray 62) ∧ OwnB w x.2.2 6 bw2 (.cells [vst].toArray 22) ∧ OwnB w x.2.2 6 bw3 (.cells [.nilFunc].toArray 65) ∧ OwnB w x.2.2 7 bw5 (.cells [v15].toArray 48) ∧ RA w (Mc x.2.2) gr gb 0 ∧ RV w (Mc x.2.2) stl vst ∧ OwnL w x.2.2 3 4 v15 x.2.1) (e := fun x => [(3, .pointer (some ⟨bw1, 0, none⟩)), (4, .pointer (some ⟨bw2, 0, none⟩)), (5, .pointer (some ⟨bw3, 0, none⟩)), (7, .pointer (some ⟨bw5, 0, none⟩)), (16, vst), (17, .int .i64 stl.length), (18, .int .i64 x.1)]) (m := fun x => n - x.1) (x₀ := (0, List.replicate m false, Cw5)) (body := F35.c9) (by kernel_rfl) (sub_cons 3 rfl rfl (sub_cons 4 rfl rfl (sub_cons 5 rfl rfl (sub_cons 7 rfl rfl (sub_cons 16 rfl rfl (sub_cons 17 rfl rfl (sub_cons 18 rfl rfl (sub_nil _)))))))) ?_ ?_
  · exact ⟨Nat.zero_le _, (by simp only; exact List.length_replicate), ⟨fun q hq => by simp only at hq; omega, fun q hq => by simp only at hq; omega, fun q q1 hq => by simp only at hq; omega⟩, UsedIs.start, hF, hT, hb3, hb4, hb5, hb7, hg, hst, hu⟩
  intro ⟨k, us, C1⟩ w7 hI next
  obtain ⟨hk, hul, hSP, hUs, hF, hT, hb3, hb4, hb5, hb7, hg, hst, hu⟩ := hI
  try simp only at hk hul hSP hUs hF hT hb3 hb4 hb5 hb7 hg hst hu
  have next1 := next
  clear next
  show Run _ _ _ _ [(3, .pointer (some ⟨bw1, 0, none⟩)), (4, .pointer (some ⟨bw2, 0, none⟩)), (5, .pointer (some ⟨bw3, 0, none⟩)), (7, .pointer (some ⟨bw5, 0, none⟩)), (16, vst), (17, .int .i64 stl.length), (18, .int .i64 k)] _ _
  refine run_seq (x := F35.c10) (y := F35.c11) (by kernel_rfl) ?_
  refine run_plain (id := 3) (ops := F35.o3) [(0, true)] (by kernel_rfl) (by kernel_rfl) ?_
  refine yS (by kernel_rfl : opAt F35.o3 0 = some (some 19, .binOp .lss 3 (.tmp 18) (.tmp 17) 3, none)) rfl rfl (fun w' hS => val_lss rfl rfl) ?_
  refine Sch.nil ?_
  refine run_seq (x := F35.c12) (y := F35.c15) (by kernel_rfl) ?_
  refine run_if (x := F35.c13) (y := F35.c14) (o := .tmp 19) (by kernel_rfl) rfl (fun h19 => ?_) (fun h19 => ?_)
  · skip
    have hkn : k < n := by omega
    have hsg : gI stl k = stl[k]'(by omega) := getD_in _
    have hlk := hlt k hkn
    have hgk := hst2 k hkn
    rw [hsg] at hlk hgk
    have hUl := hG.Ul
    have hel := hG.edl
    have hux : gr.U[k]'(by omega) = U k := by rw [← hG.Ug k hkn]; exact (getD_in _).symm
    have hrl0 : (gr.edge[k]'(by omega)).length = m := hG.edm _ (List.getElem_mem _)
    obtain ⟨s, hs0⟩ : ∃ s, s = stl[k]'(by omega) := ⟨_, rfl⟩
    rw [← hs0] at hsg hlk hgk
    have hev : ∀ hx : s.toNat < m, (gr.edge[k]'(by omega))[s.toNat]'(by omega) = edgeB wt U V k s.toNat := fun hx => by
      have e1 : gr.edge.getD k [] = gr.edge[k]'(by omega) := getD_in _
      rw [← hG.ed _ _ hkn hx, e1]; exact (getD_in _).symm
    refine run_skip (by kernel_rfl) ?_
    refine run_seq (x := F35.c16) (y := F35.c37) (by kernel_rfl) ?_
    refine run_block (x := F35.c17) (id := 1) (by kernel_rfl) ?_
    refine run_seq (x := F35.c18) (y := F35.c19) (by kernel_rfl) ?_
    refine run_plain (id := 4) (ops := F35.o4) [(0, true), (1, true), (2, false), (3, true), (4, true)] (by kernel_rfl) (by kernel_rfl) ?_
    refine yS (by kernel_rfl : opAt F35.o4 0 = some (some 20, .move (.tmp 18), none)) rfl rfl (fun w' hS => val_move rfl) ?_
    refine iS (e := 3) (by kernel_rfl : opAt F35.o4 1 = some (some 21, .indexAddr 22 (.tmp 16) (.tmp 18), none)) rfl rfl hst rfl (by kernel_rfl) rfl (by omega) (by omega) ?_
    intro b21 o21 h21
    try simp only [Int.toNat_natCast] at h21
    refine lN (by kernel_rfl : opAt F35.o4 2 = some (some 22, .load 3 (.tmp 21), none)) rfl rfl trivial h21 (by kernel_rfl) rfl rfl ?_
    intro v22 g22
    first | (obtain rfl := rv_nat.1 g22) | (obtain rfl := rv_int.1 g22)
    rw [← hs0]
    refine yS (by kernel_rfl : opAt F35.o4 3 = some (some 8, .assign (.tmp 20), none)) rfl rfl (fun w' hS => val_assign rfl) ?_
    refine yS (by kernel_rfl : opAt F35.o4 4 = some (some 9, .assign (.tmp 22), none)) rfl rfl (fun w' hS => val_assign rfl) ?_
    refine Sch.nil ?_
    refine run_block (x := F35.c20) (id := 2) (by kernel_rfl) ?_
    refine run_seq (x := F35.c21) (y := F35.c22) (by kernel_rfl) ?_
    refine run_cut 23 (decide (s = -1 ∧ 0 < U k)) (C1) ?_ ?_
    · intro hcut
      by_cases hA : s = -1
      · skip
        refine run_plain (id := 5) (ops := F35.o5) [(0, true), (1, true), (2, true), (3, false), (4, true), (5, true), (6, false), (7, true), (8, true), (9, false), (10, true), (11, true), (12, true)] (by kernel_rfl) (by kernel_rfl) ?_
        refine yS (by kernel_rfl : opAt F35.o5 0 = some (some 24, .move (.tmp 9), none)) rfl rfl (fun w' hS => val_move rfl) ?_
        refine yS (by kernel_rfl : opAt F35.o5 1 = some (some 25, .binOp .eql 3 (.tmp 24) (.const (.int .i64 (-1))) 3, none)) rfl rfl (fun w' hS => val_T (val_eql rfl rfl) hA) ?_
        refine yS (by kernel_rfl : opAt F35.o5 2 = some (some 26, .move (.tmp 25), none)) rfl rfl (fun w' hS => val_move rfl) ?_
        refine nS (by kernel_rfl : opAt F35.o5 3 = some (some 27, .load 62 (.tmp 3), (some (2, true)))) rfl rfl trivial (val_loadOwn hb3.at_ (by kernel_rfl) rfl rfl) ?_
        refine yS (by kernel_rfl : opAt F35.o5 4 = some (some 28, .nilCheck (.tmp 27), (some (2, true)))) rfl rfl (fun w' hS => val_nilCheck rfl) ?_
        have h29 := RA.gU hg
        refine yS (by kernel_rfl : opAt F35.o5 5 = some (some 29, .fieldAddr 69 (.tmp 28) 2, (some (2, true)))) rfl rfl (fun w' hS => val_fieldAddr (off := 2) (by kernel_rfl) rfl) ?_
        refine lN (by kernel_rfl : opAt F35.o5 6 = some (some 30, .load 22 (.tmp 29), (some (2, true)))) rfl rfl trivial h29 (by kernel_rfl) rfl rfl ?_
        intro v30 g30
        refine yS (by kernel_rfl : opAt F35.o5 7 = some (some 31, .move (.tmp 8), (some (2, true)))) rfl rfl (fun w' hS => val_move rfl) ?_
        refine iS (e := 3) (by kernel_rfl : opAt F35.o5 8 = some (some 32, .indexAddr 22 (.tmp 30) (.tmp 31), (some (2, true)))) rfl rfl g30 rfl (by kernel_rfl) rfl (by omega) (by omega) ?_
        intro b32 o32 h32
        try simp only [Int.toNat_natCast] at h32
        refine lN (by kernel_rfl : opAt F35.o5 9 = some (some 33, .load 3 (.tmp 32), (some (2, true)))) rfl rfl trivial h32 (by kernel_rfl) rfl rfl ?_
        intro v33 g33
        first | (obtain rfl := rv_nat.1 g33) | (obtain rfl := rv_int.1 g33)
        rw [hux]
        refine yS (by kernel_rfl : opAt F35.o5 10 = some (some 34, .binOp .gtr 3 (.tmp 33) (.const (.int .i64 0)) 3, (some (2, true)))) rfl rfl (fun w' hS => val_gtr rfl rfl) ?_
        refine yS (by kernel_rfl : opAt F35.o5 11 = some (some 35, .pick (.tmp 26) (.tmp 34) (.const (.bool false)), none)) rfl rfl (fun w' hS => val_pick_t rfl rfl) ?_
        refine yS (by kernel_rfl : opAt F35.o5 12 = some (some 23, .assign (.tmp 35), none)) rfl rfl (fun w' hS => val_assign rfl) ?_
        exact Sch.nil (hcut _ _ _ (Stp.refl _ _ _) rfl (by congr 1; apply decide_eq_decide.2; exact ⟨fun e => ⟨hA, e⟩, fun e => e.2⟩) (sub_skip rfl (sub_skip rfl (sub_skip rfl (sub_skip rfl (sub_skip rfl (sub_skip rfl (sub_skip rfl (sub_skip rfl (sub_skip rfl (sub_skip rfl (sub_skip rfl (sub_skip rfl (sub_skip rfl (Sub.refl _)))))))))))))))
      · skip
        refine run_plain (id := 5) (ops := F35.o5) [(0, true), (1, true), (2, true), (3, false), (4, true), (5, true), (6, false), (7, true), (8, true), (9, false), (10, true), (11, true), (12, true)] (by kernel_rfl) (by kernel_rfl) ?_
        refine yS (by kernel_rfl : opAt F35.o5 0 = some (some 24, .move (.tmp 9), none)) rfl rfl (fun w' hS => val_move rfl) ?_
        refine yS (by kernel_rfl : opAt F35.o5 1 = some (some 25, .binOp .eql 3 (.tmp 24) (.const (.int .i64 (-1))) 3, none)) rfl rfl (fun w' hS => val_F (val_eql rfl rfl) hA) ?_
        refine yS (by kernel_rfl : opAt F35.o5 2 = some (some 26, .move (.tmp 25), none)) rfl rfl (fun w' hS => val_move rfl) ?_
        refine pW (by kernel_rfl : opAt F35.o5 3 = some (some 27, .load 62 (.tmp 3), (some (2, true)))) rfl rfl trivial ?_
        refine pS (by kernel_rfl : opAt F35.o5 4 = some (some 28, .nilCheck (.tmp 27), (some (2, true)))) rfl rfl ?_
        refine pS (by kernel_rfl : opAt F35.o5 5 = some (some 29, .fieldAddr 69 (.tmp 28) 2, (some (2, true)))) rfl rfl ?_
        refine pW (by kernel_rfl : opAt F35.o5 6 = some (some 30, .load 22 (.tmp 29), (some (2, true)))) rfl rfl trivial ?_
        refine pS (by kernel_rfl : opAt F35.o5 7 = some (some 31, .move (.tmp 8), (some (2, true)))) rfl rfl ?_
        refine pS (by kernel_rfl : opAt F35.o5 8 = some (some 32, .indexAddr 22 (.tmp 30) (.tmp 31), (some (2, true)))) rfl rfl ?_
        refine pW (by kernel_rfl : opAt F35.o5 9 = some (some 33, .load 3 (.tmp 32), (some (2, true)))) rfl rfl trivial ?_
        refine pS (by kernel_rfl : opAt F35.o5 10 = some (some 34, .binOp .gtr 3 (.tmp 33) (.const (.int .i64 0)) 3, (some (2, true)))) rfl rfl ?_
        refine yS (by kernel_rfl : opAt F35.o5 11 = some (some 35, .pick (.tmp 26) (.tmp 34) (.const (.bool false)), none)) rfl rfl (fun w' hS => val_pick_f rfl rfl) ?_
        refine yS (by kernel_rfl : opAt F35.o5 12 = some (some 23, .assign (.tmp 35), none)) rfl rfl (fun w' hS => val_assign rfl) ?_
        exact Sch.nil (hcut _ _ _ (Stp.refl _ _ _) rfl (by rw [decide_eq_false (fun e => hA e.1)]) (sub_skip rfl (sub_skip rfl (sub_skip rfl (sub_skip rfl (sub_skip rfl (sub_skip rfl (sub_skip rfl (sub_skip rfl (sub_skip rfl (sub_skip rfl (sub_skip rfl (sub_skip rfl (sub_skip rfl (Sub.refl _)))))))))))))))
    intro w8 hs
    replace hF := hF.st hs
    replace hT := hT.trans hs (by simp)
    replace hb3 := hb3.st hs (by first | decide | (simp <;> omega))
    replace hb4 := hb4.st hs (by first | decide | (simp <;> omega))
    replace hb5 := hb5.st hs (by first | decide | (simp <;> omega))
    replace hb7 := hb7.st hs (by first | decide | (simp <;> omega))
    replace hg := hg.st hs (by first | decide | (simp <;> omega))
    replace hst := hst.st hs (by first | decide | (simp <;> omega))
    replace hu := hu.st hs (by first | decide | (simp <;> omega)) (by first | decide | (simp <;> omega))
    replace h21 := h21.st hs (by first | decide | (simp <;> omega))
    refine run_if (x := F35.c23) (y := F35.c26) (o := .tmp 23) (by kernel_rfl) rfl (fun h23 => ?_) (fun h23 => ?_)
    · skip
      have hbad : ¬ SPre n m wt U V (gI stl) n := fun hS => hS.unused k hkn (by rw [hsg]; exact h23.1) h23.2
      refine run_seq (x := F35.c24) (y := F35.c25) (by kernel_rfl) ?_
      refine run_plain (id := 6) (ops := F35.o6) [(0, true)] (by kernel_rfl) (by kernel_rfl) ?_
      refine yS (by kernel_rfl : opAt F35.o6 0 = some (some 6, .assign (.const (.bool false)), none)) rfl rfl (fun w' hS => val_assign rfl) ?_
      refine Sch.nil ?_
      refine run_ret1 (by kernel_rfl) Try.func35 Try.results35 rfl ?_
      exact ⟨false, rfl, hT.out1 (by decide), feas_no hG.pr hst2 hlt hbad⟩
    · skip
      refine run_seq (x := F35.c27) (y := F35.c28) (by kernel_rfl) ?_
      refine run_cut 36 (decide (0 ≤ s ∧ (gB us s.toNat = true ∨ edgeB wt U V k s.toNat = false))) (C1) ?_ ?_
      · intro hcut
        by_cases hA : 0 ≤ s
        · skip
          by_cases hB : us[s.toNat]'(by omega) = true
          · skip
            refine run_plain (id := 7) (ops := F35.o7) [(0, true), (1, true), (2, true), (3, false), (4, true), (5, true), (6, false), (7, true), (8, false), (9, true), (10, true), (11, false), (12, true), (13, true), (14, false), (15, true), (16, true), (17, false), (18, true), (19, true), (20, true), (21, true)] (by kernel_rfl) (by kernel_rfl) ?_
            refine yS (by kernel_rfl : opAt F35.o7 0 = some (some 37, .move (.tmp 9), none)) rfl rfl (fun w' hS => val_move rfl) ?_
            refine yS (by kernel_rfl : opAt F35.o7 1 = some (some 38, .binOp .geq 3 (.tmp 37) (.const (.int .i64 0)) 3, none)) rfl rfl (fun w' hS => val_T (val_geq rfl rfl) hA) ?_
            refine yS (by kernel_rfl : opAt F35.o7 2 = some (some 39, .move (.tmp 38), none)) rfl rfl (fun w' hS => val_move rfl) ?_
            refine nS (by kernel_rfl : opAt F35.o7 3 = some (some 40, .load 48 (.tmp 7), (some (2, true)))) rfl rfl trivial (val_loadOwn hb7.at_ (by kernel_rfl) rfl rfl) ?_
            refine yS (by kernel_rfl : opAt F35.o7 4 = some (some 41, .move (.tmp 9), (some (2, true)))) rfl rfl (fun w' hS => val_move rfl) ?_
            refine oI (e' := 4) (by kernel_rfl : opAt F35.o7 5 = some (some 42, .indexAddr 48 (.tmp 40) (.tmp 41), (some (2, true)))) rfl rfl hu rfl (by kernel_rfl) rfl (by omega) (by omega) ?_
            intro g42 hg42
            try simp only [Int.toNat_natCast]
            refine oN (by kernel_rfl : opAt F35.o7 6 = some (some 43, .load 4 (.tmp 42), (some (2, true)))) rfl rfl trivial hu hg42 (by omega) (by kernel_rfl) rfl rfl ?_
            intro v43 g43
            try simp only [Int.toNat_natCast] at g43
            obtain rfl := rv_bool.1 g43
            rw [hB]
            refine yS (by kernel_rfl : opAt F35.o7 7 = some (some 44, .move (.tmp 43), (some (2, true)))) rfl rfl (fun w' hS => val_move rfl) ?_
            refine pW (by kernel_rfl : opAt F35.o7 8 = some (some 45, .load 62 (.tmp 3), (some (7, false)))) rfl rfl trivial ?_
            refine pS (by kernel_rfl : opAt F35.o7 9 = some (some 46, .nilCheck (.tmp 45), (some (7, false)))) rfl rfl ?_
            refine pS (by kernel_rfl : opAt F35.o7 10 = some (some 47, .fieldAddr 69 (.tmp 46) 5, (some (7, false)))) rfl rfl ?_
            refine pW (by kernel_rfl : opAt F35.o7 11 = some (some 48, .load 67 (.tmp 47), (some (7, false)))) rfl rfl trivial ?_
            refine pS (by kernel_rfl : opAt F35.o7 12 = some (some 49, .move (.tmp 8), (some (7, false)))) rfl rfl ?_
            refine pS (by kernel_rfl : opAt F35.o7 13 = some (some 50, .indexAddr 67 (.tmp 48) (.tmp 49), (some (7, false)))) rfl rfl ?_
            refine pW (by kernel_rfl : opAt F35.o7 14 = some (some 51, .load 48 (.tmp 50), (some (7, false)))) rfl rfl trivial ?_
            refine pS (by kernel_rfl : opAt F35.o7 15 = some (some 52, .move (.tmp 9), (some (7, false)))) rfl rfl ?_
            refine pS (by kernel_rfl : opAt F35.o7 16 = some (some 53, .indexAddr 48 (.tmp 51) (.tmp 52), (some (7, false)))) rfl rfl ?_
            refine pW (by kernel_rfl : opAt F35.o7 17 = some (some 54, .load 4 (.tmp 53), (some (7, false)))) rfl rfl trivial ?_
            refine pS (by kernel_rfl : opAt F35.o7 18 = some (some 55, .unOp .not 4 (.tmp 54), (some (7, false)))) rfl rfl ?_
            refine yS (by kernel_rfl : opAt F35.o7 19 = some (some 56, .pick (.tmp 44) (.const (.bool true)) (.tmp 55), (some (2, true)))) rfl rfl (fun w' hS => val_pick_t rfl rfl) ?_
            refine yS (by kernel_rfl : opAt F35.o7 20 = some (some 57, .pick (.tmp 39) (.tmp 56) (.const (.bool false)), none)) rfl rfl (fun w' hS => val_pick_t rfl rfl) ?_
            refine yS (by kernel_rfl : opAt F35.o7 21 = some (some 36, .assign (.tmp 57), none)) rfl rfl (fun w' hS => val_assign rfl) ?_
            exact Sch.nil (hcut _ _ _ (Stp.refl _ _ _) rfl (by rw [decide_eq_true (show 0 ≤ s ∧ (gB us s.toNat = true ∨ edgeB wt U V k s.toNat = false) from ⟨hA, .inl ((getD_in (by omega)).trans hB)⟩)]) (sub_skip rfl (sub_skip rfl (sub_skip rfl (sub_skip rfl (sub_skip rfl (sub_skip rfl (sub_skip rfl (sub_skip rfl (sub_skip rfl (sub_skip rfl (sub_skip rfl (sub_skip rfl (sub_skip rfl (sub_skip rfl (sub_skip rfl (sub_skip rfl (sub_skip rfl (sub_skip rfl (sub_skip rfl (sub_skip rfl (sub_skip rfl (sub_skip rfl (Sub.refl _))))))))))))))))))))))))
          · skip
            by_cases hC : edgeB wt U V k s.toNat = true
            · skip
              refine run_plain (id := 7) (ops := F35.o7) [(0, true), (1, true), (2, true), (3, false), (4, true), (5, true), (6, false), (7, true), (8, false), (9, true), (10, true), (11, false), (12, true), (13, true), (14, false), (15, true), (16, true), (17, false), (18, true), (19, true), (20, true), (21, true)] (by kernel_rfl) (by kernel_rfl) ?_
              refine yS (by kernel_rfl : opAt F35.o7 0 = some (some 37, .move (.tmp 9), none)) rfl rfl (fun w' hS => val_move rfl) ?_
              refine yS (by kernel_rfl : opAt F35.o7 1 = some (some 38, .binOp .geq 3 (.tmp 37) (.const (.int .i64 0)) 3, none)) rfl rfl (fun w' hS => val_T (val_geq rfl rfl) hA) ?_
              refine yS (by kernel_rfl : opAt F35.o7 2 = some (some 39, .move (.tmp 38), none)) rfl rfl (fun w' hS => val_move rfl) ?_
              refine nS (by kernel_rfl : opAt F35.o7 3 = some (some 40, .load 48 (.tmp 7), (some (2, true)))) rfl rfl trivial (val_loadOwn hb7.at_ (by kernel_rfl) rfl rfl) ?_
              refine yS (by kernel_rfl : opAt F35.o7 4 = some (some 41, .move (.tmp 9), (some (2, true)))) rfl rfl (fun w' hS => val_move rfl) ?_
              refine oI (e' := 4) (by kernel_rfl : opAt F35.o7 5 = some (some 42, .indexAddr 48 (.tmp 40) (.tmp 41), (some (2, true)))) rfl rfl hu rfl (by kernel_rfl) rfl (by omega) (by omega) ?_
              intro g42 hg42
              try simp only [Int.toNat_natCast]
              refine oN (by kernel_rfl : opAt F35.o7 6 = some (some 43, .load 4 (.tmp 42), (some (2, true)))) rfl rfl trivial hu hg42 (by omega) (by kernel_rfl) rfl rfl ?_
              intro v43 g43
              try simp only [Int.toNat_natCast] at g43
              obtain rfl := rv_bool.1 g43
              rw [Bool.eq_false_iff.2 hB]
              refine yS (by kernel_rfl : opAt F35.o7 7 = some (some 44, .move (.tmp 43), (some (2, true)))) rfl rfl (fun w' hS => val_move rfl) ?_
              refine nS (by kernel_rfl : opAt F35.o7 8 = some (some 45, .load 62 (.tmp 3), (some (7, false)))) rfl rfl trivial (val_loadOwn hb3.at_ (by kernel_rfl) rfl rfl) ?_
              refine yS (by kernel_rfl : opAt F35.o7 9 = some (some 46, .nilCheck (.tmp 45), (some (7, false)))) rfl rfl (fun w' hS => val_nilCheck rfl) ?_
              have h47 := RA.gE hg
              refine yS (by kernel_rfl : opAt F35.o7 10 = some (some 47, .fieldAddr 69 (.tmp 46) 5, (some (7, false)))) rfl rfl (fun w' hS => val_fieldAddr (off := 5) (by kernel_rfl) rfl) ?_
              refine lN (by kernel_rfl : opAt F35.o7 11 = some (some 48, .load 67 (.tmp 47), (some (7, false)))) rfl rfl trivial h47 (by kernel_rfl) rfl rfl ?_
              intro v48 g48
              refine yS (by kernel_rfl : opAt F35.o7 12 = some (some 49, .move (.tmp 8), (some (7, false)))) rfl rfl (fun w' hS => val_move rfl) ?_
              refine iS (e := 48) (by kernel_rfl : opAt F35.o7 13 = some (some 50, .indexAddr 67 (.tmp 48) (.tmp 49), (some (7, false)))) rfl rfl g48 rfl (by kernel_rfl) rfl (by omega) (by omega) ?_
              intro b50 o50 h50
              try simp only [Int.toNat_natCast] at h50
              refine lN (by kernel_rfl : opAt F35.o7 14 = some (some 51, .load 48 (.tmp 50), (some (7, false)))) rfl rfl trivial h50 (by kernel_rfl) rfl rfl ?_
              intro v51 g51
              refine yS (by kernel_rfl : opAt F35.o7 15 = some (some 52, .move (.tmp 9), (some (7, false)))) rfl rfl (fun w' hS => val_move rfl) ?_
              refine iS (e := 4) (by kernel_rfl : opAt F35.o7 16 = some (some 53, .indexAddr 48 (.tmp 51) (.tmp 52), (some (7, false)))) rfl rfl g51 rfl (by kernel_rfl) rfl (by omega) (by omega) ?_
              intro b53 o53 h53
              try simp only [Int.toNat_natCast] at h53
              refine lN (by kernel_rfl : opAt F35.o7 17 = some (some 54, .load 4 (.tmp 53), (some (7, false)))) rfl rfl trivial h53 (by kernel_rfl) rfl rfl ?_
              intro v54 g54
              obtain rfl := rv_bool.1 g54
              rw [show (((gr.edge[k]'(by omega))[s.toNat]'(by omega)) : Bool) = edgeB wt U V k s.toNat from hev (by omega)]
              rw [hC]
              refine yS (by kernel_rfl : opAt F35.o7 18 = some (some 55, .unOp .not 4 (.tmp 54), (some (7, false)))) rfl rfl (fun w' hS => val_not rfl) ?_
              refine yS (by kernel_rfl : opAt F35.o7 19 = some (some 56, .pick (.tmp 44) (.const (.bool true)) (.tmp 55), (some (2, true)))) rfl rfl (fun w' hS => val_pick_f rfl rfl) ?_
              refine yS (by kernel_rfl : opAt F35.o7 20 = some (some 57, .pick (.tmp 39) (.tmp 56) (.const (.bool false)), none)) rfl rfl (fun w' hS => val_pick_t rfl rfl) ?_
              refine yS (by kernel_rfl : opAt F35.o7 21 = some (some 36, .assign (.tmp 57), none)) rfl rfl (fun w' hS => val_assign rfl) ?_
              exact Sch.nil (hcut _ _ _ (Stp.refl _ _ _) rfl (by rw [decide_eq_false (show ¬ (0 ≤ s ∧ (gB us s.toNat = true ∨ edgeB wt U V k s.toNat = false)) from fun e => e.2.elim (fun e2 => hB (((getD_in (by omega)).symm.trans e2))) (fun e2 => by rw [hC] at e2; cases e2))]; rfl) (sub_skip rfl (sub_skip rfl (sub_skip rfl (sub_skip rfl (sub_skip rfl (sub_skip rfl (sub_skip rfl (sub_skip rfl (sub_skip rfl (sub_skip rfl (sub_skip rfl (sub_skip rfl (sub_skip rfl (sub_skip rfl (sub_skip rfl (sub_skip rfl (sub_skip rfl (sub_skip rfl (sub_skip rfl (sub_skip rfl (sub_skip rfl (sub_skip rfl (Sub.refl _))))))))))))))))))))))))
            · skip
              refine run_plain (id := 7) (ops := F35.o7) [(0, true), (1, true), (2, true), (3, false), (4, true), (5, true), (6, false), (7, true), (8, false), (9, true), (10, true), (11, false), (12, true), (13, true), (14, false), (15, true), (16, true), (17, false), (18, true), (19, true), (20, true), (21, true)] (by kernel_rfl) (by kernel_rfl) ?_
              refine yS (by kernel_rfl : opAt F35.o7 0 = some (some 37, .move (.tmp 9), none)) rfl rfl (fun w' hS => val_move rfl) ?_
              refine yS (by kernel_rfl : opAt F35.o7 1 = some (some 38, .binOp .geq 3 (.tmp 37) (.const (.int .i64 0)) 3, none)) rfl rfl (fun w' hS => val_T (val_geq rfl rfl) hA) ?_
              refine yS (by kernel_rfl : opAt F35.o7 2 = some (some 39, .move (.tmp 38), none)) rfl rfl (fun w' hS => val_move rfl) ?_
              refine nS (by kernel_rfl : opAt F35.o7 3 = some (some 40, .load 48 (.tmp 7), (some (2, true)))) rfl rfl trivial (val_loadOwn hb7.at_ (by kernel_rfl) rfl rfl) ?_
              refine yS (by kernel_rfl : opAt F35.o7 4 = some (some 41, .move (.tmp 9), (some (2, true)))) rfl rfl (fun w' hS => val_move rfl) ?_
              refine oI (e' := 4) (by kernel_rfl : opAt F35.o7 5 = some (some 42, .indexAddr 48 (.tmp 40) (.tmp 41), (some (2, true)))) rfl rfl hu rfl (by kernel_rfl) rfl (by omega) (by omega) ?_
              intro g42 hg42
              try simp only [Int.toNat_natCast]
              refine oN (by kernel_rfl : opAt F35.o7 6 = some (some 43, .load 4 (.tmp 42), (some (2, true)))) rfl rfl trivial hu hg42 (by omega) (by kernel_rfl) rfl rfl ?_
              intro v43 g43
              try simp only [Int.toNat_natCast] at g43
              obtain rfl := rv_bool.1 g43
              rw [Bool.eq_false_iff.2 hB]
              refine yS (by kernel_rfl : opAt F35.o7 7 = some (some 44, .move (.tmp 43), (some (2, true)))) rfl rfl (fun w' hS => val_move rfl) ?_
              refine nS (by kernel_rfl : opAt F35.o7 8 = some (some 45, .load 62 (.tmp 3), (some (7, false)))) rfl rfl trivial (val_loadOwn hb3.at_ (by kernel_rfl) rfl rfl) ?_
              refine yS (by kernel_rfl : opAt F35.o7 9 = some (some 46, .nilCheck (.tmp 45), (some (7, false)))) rfl rfl (fun w' hS => val_nilCheck rfl) ?_
              have h47 := RA.gE hg
              refine yS (by kernel_rfl : opAt F35.o7 10 = some (some 47, .fieldAddr 69 (.tmp 46) 5, (some (7, false)))) rfl rfl (fun w' hS => val_fieldAddr (off := 5) (by kernel_rfl) rfl) ?_
              refine lN (by kernel_rfl : opAt F35.o7 11 = some (some 48, .load 67 (.tmp 47), (some (7, false)))) rfl rfl trivial h47 (by kernel_rfl) rfl rfl ?_
              intro v48 g48
              refine yS (by kernel_rfl : opAt F35.o7 12 = some (some 49, .move (.tmp 8), (some (7, false)))) rfl rfl (fun w' hS => val_move rfl) ?_
              refine iS (e := 48) (by kernel_rfl : opAt F35.o7 13 = some (some 50, .indexAddr 67 (.tmp 48) (.tmp 49), (some (7, false)))) rfl rfl g48 rfl (by kernel_rfl) rfl (by omega) (by omega) ?_
              intro b50 o50 h50
              try simp only [Int.toNat_natCast] at h50
              refine lN (by kernel_rfl : opAt F35.o7 14 = some (some 51, .load 48 (.tmp 50), (some (7, false)))) rfl rfl trivial h50 (by kernel_rfl) rfl rfl ?_
              intro v51 g51
              refine yS (by kernel_rfl : opAt F35.o7 15 = some (some 52, .move (.tmp 9), (some (7, false)))) rfl rfl (fun w' hS => val_move rfl) ?_
              refine iS (e := 4) (by kernel_rfl : opAt F35.o7 16 = some (some 53, .indexAddr 48 (.tmp 51) (.tmp 52), (some (7, false)))) rfl rfl g51 rfl (by kernel_rfl) rfl (by omega) (by omega) ?_
              intro b53 o53 h53
              try simp only [Int.toNat_natCast] at h53
              refine lN (by kernel_rfl : opAt F35.o7 17 = some (some 54, .load 4 (.tmp 53), (some (7, false)))) rfl rfl trivial h53 (by kernel_rfl) rfl rfl ?_
              intro v54 g54
              obtain rfl := rv_bool.1 g54
              rw [show (((gr.edge[k]'(by omega))[s.toNat]'(by omega)) : Bool) = edgeB wt U V k s.toNat from hev (by omega)]
              rw [Bool.eq_false_iff.2 hC]
              refine yS (by kernel_rfl : opAt F35.o7 18 = some (some 55, .unOp .not 4 (.tmp 54), (some (7, false)))) rfl rfl (fun w' hS => val_not rfl) ?_
              refine yS (by kernel_rfl : opAt F35.o7 19 = some (some 56, .pick (.tmp 44) (.const (.bool true)) (.tmp 55), (some (2, true)))) rfl rfl (fun w' hS => val_pick_f rfl rfl) ?_
              refine yS (by kernel_rfl : opAt F35.o7 20 = some (some 57, .pick (.tmp 39) (.tmp 56) (.const (.bool false)), none)) rfl rfl (fun w' hS => val_pick_t rfl rfl) ?_
              refine yS (by kernel_rfl : opAt F35.o7 21 = some (some 36, .assign (.tmp 57), none)) rfl rfl (fun w' hS => val_assign rfl) ?_
              exact Sch.nil (hcut _ _ _ (Stp.refl _ _ _) rfl (by rw [decide_eq_true (show 0 ≤ s ∧ (gB us s.toNat = true ∨ edgeB wt U V k s.toNat = false) from ⟨hA, .inr (Bool.eq_false_iff.2 hC)⟩)]; rfl) (sub_skip rfl (sub_skip rfl (sub_skip rfl (sub_skip rfl (sub_skip rfl (sub_skip rfl (sub_skip rfl (sub_skip rfl (sub_skip rfl (sub_skip rfl (sub_skip rfl (sub_skip rfl (sub_skip rfl (sub_skip rfl (sub_skip rfl (sub_skip rfl (sub_skip rfl (sub_skip rfl (sub_skip rfl (sub_skip rfl (sub_skip rfl (sub_skip rfl (Sub.refl _))))))))))))))))))))))))
        · skip
          refine run_plain (id := 7) (ops := F35.o7) [(0, true), (1, true), (2, true), (3, false), (4, true), (5, true), (6, false), (7, true), (8, false), (9, true), (10, true), (11, false), (12, true), (13, true), (14, false), (15, true), (16, true), (17, false), (18, true), (19, true), (20, true), (21, true)] (by kernel_rfl) (by kernel_rfl) ?_
          refine yS (by kernel_rfl : opAt F35.o7 0 = some (some 37, .move (.tmp 9), none)) rfl rfl (fun w' hS => val_move rfl) ?_
          refine yS (by kernel_rfl : opAt F35.o7 1 = some (some 38, .binOp .geq 3 (.tmp 37) (.const (.int .i64 0)) 3, none)) rfl rfl (fun w' hS => val_F (val_geq rfl rfl) hA) ?_
          refine yS (by kernel_rfl : opAt F35.o7 2 = some (some 39, .move (.tmp 38), none)) rfl rfl (fun w' hS => val_move rfl) ?_
          refine pW (by kernel_rfl : opAt F35.o7 3 = some (some 40, .load 48 (.tmp 7), (some (2, true)))) rfl rfl trivial ?_
          refine pS (by kernel_rfl : opAt F35.o7 4 = some (some 41, .move (.tmp 9), (some (2, true)))) rfl rfl ?_
          refine pS (by kernel_rfl : opAt F35.o7 5 = some (some 42, .indexAddr 48 (.tmp 40) (.tmp 41), (some (2, true)))) rfl rfl ?_
          refine pW (by kernel_rfl : opAt F35.o7 6 = some (some 43, .load 4 (.tmp 42), (some (2, true)))) rfl rfl trivial ?_
          refine pS (by kernel_rfl : opAt F35.o7 7 = some (some 44, .move (.tmp 43), (some (2, true)))) rfl rfl ?_
          refine pW (by kernel_rfl : opAt F35.o7 8 = some (some 45, .load 62 (.tmp 3), (some (7, false)))) rfl rfl trivial ?_
          refine pS (by kernel_rfl : opAt F35.o7 9 = some (some 46, .nilCheck (.tmp 45), (some (7, false)))) rfl rfl ?_
          refine pS (by kernel_rfl : opAt F35.o7 10 = some (some 47, .fieldAddr 69 (.tmp 46) 5, (some (7, false)))) rfl rfl ?_
          refine pW (by kernel_rfl : opAt F35.o7 11 = some (some 48, .load 67 (.tmp 47), (some (7, false)))) rfl rfl trivial ?_
          refine pS (by kernel_rfl : opAt F35.o7 12 = some (some 49, .move (.tmp 8), (some (7, false)))) rfl rfl ?_
          refine pS (by kernel_rfl : opAt F35.o7 13 = some (some 50, .indexAddr 67 (.tmp 48) (.tmp 49), (some (7, false)))) rfl rfl ?_
          refine pW (by kernel_rfl : opAt F35.o7 14 = some (some 51, .load 48 (.tmp 50), (some (7, false)))) rfl rfl trivial ?_
          refine pS (by kernel_rfl : opAt F35.o7 15 = some (some 52, .move (.tmp 9), (some (7, false)))) rfl rfl ?_
          refine pS (by kernel_rfl : opAt F35.o7 16 = some (some 53, .indexAddr 48 (.tmp 51) (.tmp 52), (some (7, false)))) rfl rfl ?_
          refine pW (by kernel_rfl : opAt F35.o7 17 = some (some 54, .load 4 (.tmp 53), (some (7, false)))) rfl rfl trivial ?_
          refine pS (by kernel_rfl : opAt F35.o7 18 = some (some 55, .unOp .not 4 (.tmp 54), (some (7, false)))) rfl rfl ?_
          refine pS (by kernel_rfl : opAt F35.o7 19 = some (some 56, .pick (.tmp 44) (.const (.bool true)) (.tmp 55), (some (2, true)))) rfl rfl ?_
          refine yS (by kernel_rfl : opAt F35.o7 20 = some (some 57, .pick (.tmp 39) (.tmp 56) (.const (.bool false)), none)) rfl rfl (fun w' hS => val_pick_f rfl rfl) ?_
          refine yS (by kernel_rfl : opAt F35.o7 21 = some (some 36, .assign (.tmp 57), none)) rfl rfl (fun w' hS => val_assign rfl) ?_
          exact Sch.nil (hcut _ _ _ (Stp.refl _ _ _) rfl (by rw [decide_eq_false (fun e => hA e.1)]) (sub_skip rfl (sub_skip rfl (sub_skip rfl (sub_skip rfl (sub_skip rfl (sub_skip rfl (sub_skip rfl (sub_skip rfl (sub_skip rfl (sub_skip rfl (sub_skip rfl (sub_skip rfl (sub_skip rfl (sub_skip rfl (sub_skip rfl (sub_skip rfl (sub_skip rfl (sub_skip rfl (sub_skip rfl (sub_skip rfl (sub_skip rfl (sub_skip rfl (Sub.refl _))))))))))))))))))))))))
      intro w9 hs
      replace hF := hF.st hs
      replace hT := hT.trans hs (by simp)
      replace hb3 := hb3.st hs (by first | decide | (simp <;> omega))
      replace hb4 := hb4.st hs (by first | decide | (simp <;> omega))
      replace hb5 := hb5.st hs (by first | decide | (simp <;> omega))
      replace hb7 := hb7.st hs (by first | decide | (simp <;> omega))
      replace hg := hg.st hs (by first | decide | (simp <;> omega))
      replace hst := hst.st hs (by first | decide | (simp <;> omega))
      replace hu := hu.st hs (by first | decide | (simp <;> omega)) (by first | decide | (simp <;> omega))
      replace h21 := h21.st hs (by first | decide | (simp <;> omega))
      refine run_if (x := F35.c29) (y := F35.c32) (o := .tmp 36) (by kernel_rfl) rfl (fun h36 => ?_) (fun h36 => ?_)
      · skip
        have hbad : ¬ SPre n m wt U V (gI stl) n := fun hS => by
          rcases h36.2 with e | e
          · obtain ⟨q, hq, e2⟩ := (hUs s.toNat (by omega)).1 e
            have := hS.inj q k (by omega) hkn (by rw [e2]; omega) (by rw [e2, hsg]; omega)
            omega
          · have := hS.used k hkn (by rw [hsg]; exact h36.1)
            rw [hsg, e] at this; cases this
        refine run_seq (x := F35.c30) (y := F35.c31) (by kernel_rfl) ?_
        refine run_plain (id := 8) (ops := F35.o8) [(0, true)] (by kernel_rfl) (by kernel_rfl) ?_
        refine yS (by kernel_rfl : opAt F35.o8 0 = some (some 6, .assign (.const (.bool false)), none)) rfl rfl (fun w' hS => val_assign rfl) ?_
        refine Sch.nil ?_
        refine run_ret1 (by kernel_rfl) Try.func35 Try.results35 rfl ?_
        exact ⟨false, rfl, hT.out1 (by decide), feas_no hG.pr hst2 hlt hbad⟩
      · skip
        have hSP2 := hSP.next (by rw [hsg]; exact h23) (fun h0 => by
          rw [hsg] at h0 ⊢
          refine ⟨?_, fun q hq e => ?_⟩
          · cases e : edgeB wt U V k s.toNat with
            | true => rfl
            | false => exact absurd ⟨h0, .inr e⟩ h36
          · exact h36 ⟨h0, .inl ((hUs s.toNat (by omega)).2 ⟨q, hq, by rw [e]; omega⟩)⟩)
        refine run_seq (x := F35.c33) (y := F35.c34) (by kernel_rfl) ?_
        refine run_plain (id := 9) (ops := F35.o9) [(0, true), (1, true), (2, true)] (by kernel_rfl) (by kernel_rfl) ?_
        refine yS (by kernel_rfl : opAt F35.o9 0 = some (some 59, .move (.tmp 9), none)) rfl rfl (fun w' hS => val_move rfl) ?_
        refine yS (by kernel_rfl : opAt F35.o9 1 = some (some 60, .binOp .geq 3 (.tmp 59) (.const (.int .i64 0)) 3, none)) rfl rfl (fun w' hS => val_geq rfl rfl) ?_
        refine yS (by kernel_rfl : opAt F35.o9 2 = some (some 58, .assign (.tmp 60), none)) rfl rfl (fun w' hS => val_assign rfl) ?_
        refine Sch.nil ?_
        refine run_if (x := F35.c35) (y := F35.c36) (o := .tmp 58) (by kernel_rfl) rfl (fun h58 => ?_) (fun h58 => ?_)
        · skip
          refine run_plain (id := 10) (ops := F35.o10) [(0, false), (1, true), (2, true), (3, false)] (by kernel_rfl) (by kernel_rfl) ?_
          refine nS (by kernel_rfl : opAt F35.o10 0 = some (some 61, .load 48 (.tmp 7), none)) rfl rfl trivial (val_loadOwn hb7.at_ (by kernel_rfl) rfl rfl) ?_
          refine yS (by kernel_rfl : opAt F35.o10 1 = some (some 62, .move (.tmp 9), none)) rfl rfl (fun w' hS => val_move rfl) ?_
          refine oI (e' := 4) (by kernel_rfl : opAt F35.o10 2 = some (some 63, .indexAddr 48 (.tmp 61) (.tmp 62), none)) rfl rfl hu rfl (by kernel_rfl) rfl (by omega) (by omega) ?_
          intro g63 hg63
          try simp only [Int.toNat_natCast]
          refine aN (by kernel_rfl : opAt F35.o10 3 = some (none, .store 4 (.tmp 63) (.const (.bool true)), none)) rfl (a_storeO hu hg63 (by omega) rfl rfl (by kernel_rfl) (rv_bool.2 rfl)) ?_
          rintro _ w10 ⟨rfl, hs, hu⟩
          refine ⟨trivial, ?_⟩
          replace hF := hF.st hs
          replace hT := hT.trans hs (by simp)
          replace hb3 := hb3.st hs (by first | decide | (simp <;> omega))
          replace hb4 := hb4.st hs (by first | decide | (simp <;> omega))
          replace hb5 := hb5.st hs (by first | decide | (simp <;> omega))
          replace hb7 := hb7.st hs (by first | decide | (simp <;> omega))
          replace hg := hg.st hs (by first | decide | (simp <;> omega))
          replace hst := hst.st hs (by first | decide | (simp <;> omega))
          replace h21 := h21.st hs (by first | decide | (simp <;> omega))
          refine Sch.nil ?_
          refine run_inBlock ?_
          refine run_inBlock ?_
          refine run_plain (id := 11) (ops := F35.o11) [(0, true), (1, true)] (by kernel_rfl) (by kernel_rfl) ?_
          refine yS (by kernel_rfl : opAt F35.o11 0 = some (some 64, .binOp .add 3 (.tmp 18) (.const (.int .i64 1)) 3, none)) rfl rfl (fun w' hS => val_addi rfl rfl (by omega) (by omega)) ?_
          refine yS (by kernel_rfl : opAt F35.o11 1 = some (some 18, .move (.tmp 64), none)) rfl rfl (fun w' hS => val_move rfl) ?_
          refine Sch.nil ?_
          refine kp (sub_cons 3 rfl rfl (sub_cons 4 rfl rfl (sub_cons 5 rfl rfl (sub_cons 7 rfl rfl (sub_cons 16 rfl rfl (sub_cons 17 rfl rfl (sub_cons 18 rfl (eq_int (by simp)) (sub_nil _)))))))) (next1 (k + 1, us.set s.toNat true, C1) _ ⟨(by first | omega | (simp only; omega)), (by simp only [List.length_set]; exact hul), hSP2, (by simp only; rw [← hsg]; exact hUs.put (by rw [hsg]; exact h58) hul (by rw [hsg]; omega)), hF, hT, hb3, hb4, hb5, hb7, hg, hst, hu⟩ (by first | omega | (simp only; omega)))
        · skip
          refine run_skip (by kernel_rfl) ?_
          refine run_inBlock ?_
          refine run_inBlock ?_
          refine run_plain (id := 11) (ops := F35.o11) [(0, true), (1, true)] (by kernel_rfl) (by kernel_rfl) ?_
          refine yS (by kernel_rfl : opAt F35.o11 0 = some (some 64, .binOp .add 3 (.tmp 18) (.const (.int .i64 1)) 3, none)) rfl rfl (fun w' hS => val_addi rfl rfl (by omega) (by omega)) ?_
          refine yS (by kernel_rfl : opAt F35.o11 1 = some (some 18, .move (.tmp 64), none)) rfl rfl (fun w' hS => val_move rfl) ?_
          refine Sch.nil ?_
          refine kp (sub_cons 3 rfl rfl (sub_cons 4 rfl rfl (sub_cons 5 rfl rfl (sub_cons 7 rfl rfl (sub_cons 16 rfl rfl (sub_cons 17 rfl rfl (sub_cons 18 rfl (eq_int (by simp)) (sub_nil _)))))))) (next1 (k + 1, us, C1) _ ⟨(by first | omega | (simp only; omega)), (by first | omega | (simp only; omega)), hSP2, (hUs.skip (by rw [hsg]; omega)), hF, hT, hb3, hb4, hb5, hb7, hg, hst, hu⟩ (by first | omega | (simp only; omega)))
  · skip
    have hkn : n = k := by omega
    subst hkn
    clear h19
    have hb3_ := hb3.frzA (n := 2) (by decide) (rfl)
    have hb4_ := hb4.frzA (n := 2) (by decide) ((hst.one rfl).2)
    have hb5_ := hb5.frzA (n := 2) (by decide) (rfl)
    have hb7_ := hb7.frzA (n := 2) (by decide) (hu.one.2)
    have hg_ := hg.frz 2
    replace hF := hF.frz 2
    replace hT := hT.frz (n := 2) (fun b => col1_lt2 C b)
    replace hst := hst.frz 2
    have hu_ := hu.frz (n := 2) (by decide) (by omega)
    replace hu := hu_
    clear hu_
    have hb3r : RA _ _ (⟨_⟩ : Sv) _ 0 := hb3_
    clear hb3_ hb3
    have hb4r : RA _ _ (⟨_⟩ : Sv) _ 0 := hb4_
    clear hb4_ hb4
    have hb5r : RA _ _ (⟨_⟩ : Sv) _ 0 := hb5_
    clear hb5_ hb5
    have hb7r : RA _ _ (⟨_⟩ : Sv) _ 0 := hb7_
    clear hb7_ hb7
    clear hg
    have hg := hg_
    clear hg_
    refine run_exit (id := 0) (by kernel_rfl) rfl ?_
    refine run_seq (x := F35.c39) (y := F35.c40) (by kernel_rfl) ?_
    refine run_plain (id := 12) (ops := F35.o12) [(0, true), (1, false), (2, false)] (by kernel_rfl) (by kernel_rfl) ?_
    refine yS (by kernel_rfl : opAt F35.o12 0 = some (some 65, .makeFunc (.func 47) #[] #[(.tmp 4), (.tmp 7), (.tmp 3), (.tmp 5)], none)) rfl rfl (fun w' hS => val_makeFunc rfl rfl) ?_
    refine aS (by kernel_rfl : opAt F35.o12 1 = some (some 10, .alloc 65, none)) rfl rfl (a_alloc (cs := [.nilFunc]) hF 6 (by kernel_rfl)) ?_
    rintro _ w11 ⟨Cw11, bw11, rfl, hs, hb10, hF⟩
    refine ⟨trivial, ?_⟩
    replace hT := hT.trans hs (by simp)
    replace hst := hst.st hs (by first | decide | (simp <;> omega))
    replace hu := hu.st hs (by first | decide | (simp <;> omega))
    replace hb3r := hb3r.st hs (by first | decide | (simp <;> omega))
    replace hb4r := hb4r.st hs (by first | decide | (simp <;> omega))
    replace hb5r := hb5r.st hs (by first | decide | (simp <;> omega))
    replace hb7r := hb7r.st hs (by first | decide | (simp <;> omega))
    replace hg := hg.st hs (by first | decide | (simp <;> omega))
    refine aN (by kernel_rfl : opAt F35.o12 2 = some (none, .store 65 (.tmp 10) (.tmp 65), none)) rfl (a_storeAll (vs := [(.func (.func 47) #[] #[.pointer (some ⟨bw2, 0, none⟩), .pointer (some ⟨bw5, 0, none⟩), .pointer (some ⟨bw1, 0, none⟩), .pointer (some ⟨bw3, 0, none⟩)])]) (n := 1) rfl rfl (by kernel_rfl) rfl rfl (by intro u hu2; rw [List.mem_singleton.1 hu2]; rfl) hb10 rfl) ?_
    rintro _ w12 ⟨rfl, hs, hb10⟩
    refine ⟨trivial, ?_⟩
    replace hF := hF.st hs
    replace hT := hT.trans hs (by simp)
    replace hst := hst.st hs (by first | decide | (simp <;> omega))
    replace hu := hu.st hs (by first | decide | (simp <;> omega))
    replace hb3r := hb3r.st hs (by first | decide | (simp <;> omega))
    replace hb4r := hb4r.st hs (by first | decide | (simp <;> omega))
    replace hb5r := hb5r.st hs (by first | decide | (simp <;> omega))
    replace hb7r := hb7r.st hs (by first | decide | (simp <;> omega))
    replace hg := hg.st hs (by first | decide | (simp <;> omega))
    refine Sch.nil ?_
    have hb10_ := hb10.frzA (n := 2) (by decide) (by rfl)
    replace hF := hF.frz 2
    replace hT := hT.frz (n := 2) (fun b => col1_lt2 C b)
    replace hst := hst.frz 2
    replace hu := hu.frz 2
    replace hb3r := hb3r.frz 2
    replace hb4r := hb4r.frz 2
    replace hb5r := hb5r.frz 2
    replace hb7r := hb7r.frz 2
    replace hg := hg.frz 2
    have hb10r : RA _ _ (⟨_⟩ : Sv) _ 0 := hb10_
    clear hb10_ hb10
    have hUl := hG.Ul
    have hVl := hG.Vl
    refine run_seq (x := F35.c41) (y := F35.c42) (by kernel_rfl) ?_
    by_cases hC1 : Cover n m (fun a b => jB stl us wt U V a b = true) (fun a => (decide (gI stl a = -2 ∧ 0 < U a)) = true)
    · skip
      refine run_draw (id := 13) (ops := F35.o13) [] (K.frz 2 (Cw11)) [(0, true), (1, true), (2, true), (3, true), (4, true), (5, true), (6, true), (7, true), (8, true), (9, true), (10, false), (11, true), (12, true), (13, true), (14, true), (15, true), (16, true), (17, true), (18, true), (19, true), (20, true), (21, true), (22, false), (23, true), (24, true)] Try_mixed (by kernel_rfl) (by kernel_rfl) (by kernel_rfl) ?_
      intro w13 hs
      replace hF := hF.st hs
      replace hT := hT.trans hs (by simp)
      replace hst := hst.st hs (by first | decide | (simp <;> omega))
      replace hu := hu.st hs (by first | decide | (simp <;> omega))
      replace hb3r := hb3r.st hs (by first | decide | (simp <;> omega))
      replace hb4r := hb4r.st hs (by first | decide | (simp <;> omega))
      replace hb5r := hb5r.st hs (by first | decide | (simp <;> omega))
      replace hb7r := hb7r.st hs (by first | decide | (simp <;> omega))
      replace hg := hg.st hs (by first | decide | (simp <;> omega))
      replace hb10r := hb10r.st hs (by first | decide | (simp <;> omega))
      have hR := Stp.refl [] w13 (K.frz 2 (Cw11))
      refine lS (by kernel_rfl : opAt F35.o13 0 = some (some 66, .load 62 (.tmp 3), none)) rfl rfl (fun w' hS => hb3r.stay hS (by first | decide | (simp <;> omega))) hb3r (by kernel_rfl) rfl rfl ?_
      intro v66 g66
      obtain ⟨e66, _⟩ := rv_sv.1 g66
      subst e66
      refine yS (by kernel_rfl : opAt F35.o13 1 = some (some 67, .nilCheck (.tmp 66), none)) rfl rfl (fun w' hS => val_nilCheck rfl) ?_
      have h68 := RA.gn hg
      refine yS (by kernel_rfl : opAt F35.o13 2 = some (some 68, .fieldAddr 69 (.tmp 67) 0, none)) rfl rfl (fun w' hS => val_fieldAddr (off := 0) (by kernel_rfl) rfl) ?_
      refine lS (by kernel_rfl : opAt F35.o13 3 = some (some 69, .load 3 (.tmp 68), none)) rfl rfl (fun w' hS => h68.stay hS (by first | decide | (simp <;> omega))) h68 (by kernel_rfl) rfl rfl ?_
      intro v69 g69
      first | (obtain rfl := rv_nat.1 g69) | (obtain rfl := rv_int.1 g69)
      rw [hG.gn]
      refine lS (by kernel_rfl : opAt F35.o13 4 = some (some 70, .load 62 (.tmp 3), none)) rfl rfl (fun w' hS => hb3r.stay hS (by first | decide | (simp <;> omega))) hb3r (by kernel_rfl) rfl rfl ?_
      intro v70 g70
      obtain ⟨e70, _⟩ := rv_sv.1 g70
      subst e70
      refine yS (by kernel_rfl : opAt F35.o13 5 = some (some 71, .nilCheck (.tmp 70), none)) rfl rfl (fun w' hS => val_nilCheck rfl) ?_
      have h72 := RA.gm hg
      refine yS (by kernel_rfl : opAt F35.o13 6 = some (some 72, .fieldAddr 69 (.tmp 71) 1, none)) rfl rfl (fun w' hS => val_fieldAddr (off := 1) (by kernel_rfl) rfl) ?_
      refine lS (by kernel_rfl : opAt F35.o13 7 = some (some 73, .load 3 (.tmp 72), none)) rfl rfl (fun w' hS => h72.stay hS (by first | decide | (simp <;> omega))) h72 (by kernel_rfl) rfl rfl ?_
      intro v73 g73
      first | (obtain rfl := rv_nat.1 g73) | (obtain rfl := rv_int.1 g73)
      rw [hG.gm]
      refine lS (by kernel_rfl : opAt F35.o13 8 = some (some 74, .load 65 (.tmp 10), none)) rfl rfl (fun w' hS => hb10r.stay hS (by first | decide | (simp <;> omega))) hb10r (by kernel_rfl) rfl rfl ?_
      intro v74 g74
      obtain ⟨e74, _⟩ := rv_sv.1 g74
      subst e74
      refine yS (by kernel_rfl : opAt F35.o13 9 = some (some 75, .makeFunc (.func 49) #[] #[(.tmp 4), (.tmp 3)], none)) rfl rfl (fun w' hS => val_makeFunc rfl rfl) ?_
      have hb3b := hb3r
      have hgb := hg
      refine cS (by kernel_rfl : opAt F35.o13 10 = some (some 76, .call { callee := .value (.func 48), args := #[(.tmp 69), (.tmp 73), (.tmp 74), (.tmp 75)], argTypes := #[3, 3, 65, 59] }, none)) rfl rfl (ent Try.call48 rfl) (covers_ok (n := n) (m := m) (J := jB stl us wt U V) (mu := fun i => decide (gI stl i = -2 ∧ 0 < U i)) hF hm hn (fun args w => Try.call47 args w) (fun w1 hs1 i j hi hj => joins_ok (hF.st hs1) hG (hg.st hs1 (by simp)) (hb4r.st hs1 (by simp)) (hb7r.st hs1 (by simp)) (hb3r.st hs1 (by simp)) (hb5r.st hs1 (by simp)) (hst.st hs1 (by simp)) (hu.st hs1 (by simp)) hsl hul hi hj) (fun args w => Try.call49 args w) (fun w1 hs1 i hi => mustU_ok (hF.st hs1) hG (hg.st hs1 (by simp)) (hb4r.st hs1 (by simp)) (hb3r.st hs1 (by simp)) (hst.st hs1 (by simp)) hsl hi)) ?_
      rintro vw14 w14 ⟨bb1, rfl, hs, hbb1⟩
      obtain rfl : bb1 = true := hbb1.2 hC1
      refine ⟨(hR.trans hs (by simp)).ext, ?_⟩
      replace hF := hF.st hs
      replace hT := hT.trans hs (by simp)
      replace hst := hst.st hs (by first | decide | (simp <;> omega))
      replace hu := hu.st hs (by first | decide | (simp <;> omega))
      replace hb3r := hb3r.st hs (by first | decide | (simp <;> omega))
      replace hb4r := hb4r.st hs (by first | decide | (simp <;> omega))
      replace hb5r := hb5r.st hs (by first | decide | (simp <;> omega))
      replace hb7r := hb7r.st hs (by first | decide | (simp <;> omega))
      replace hg := hg.st hs (by first | decide | (simp <;> omega))
      replace hb10r := hb10r.st hs (by first | decide | (simp <;> omega))
      replace hR := hR.trans hs (by simp)
      replace h68 := h68.st hs (by first | decide | (simp <;> omega))
      replace h72 := h72.st hs (by first | decide | (simp <;> omega))
      refine yS (by kernel_rfl : opAt F35.o13 11 = some (some 77, .move (.tmp 76), none)) rfl rfl (fun w' hS => val_move rfl) ?_
      refine lS (by kernel_rfl : opAt F35.o13 12 = some (some 78, .load 62 (.tmp 3), (some (11, true)))) rfl rfl (fun w' hS => hb3b.stay hS (by first | decide | (simp <;> omega))) hb3b (by kernel_rfl) rfl rfl ?_
      intro v78 g78
      have gb78 := g78
      replace g78 := g78.st hR (by first | decide | (simp <;> omega))
      obtain ⟨e78, _⟩ := rv_sv.1 g78
      subst e78
      refine yS (by kernel_rfl : opAt F35.o13 13 = some (some 79, .nilCheck (.tmp 78), (some (11, true)))) rfl rfl (fun w' hS => val_nilCheck rfl) ?_
      have h80 := RA.gm hgb
      refine yS (by kernel_rfl : opAt F35.o13 14 = some (some 80, .fieldAddr 69 (.tmp 79) 1, (some (11, true)))) rfl rfl (fun w' hS => val_fieldAddr (off := 1) (by kernel_rfl) rfl) ?_
      refine lS (by kernel_rfl : opAt F35.o13 15 = some (some 81, .load 3 (.tmp 80), (some (11, true)))) rfl rfl (fun w' hS => h80.stay hS (by first | decide | (simp <;> omega))) h80 (by kernel_rfl) rfl rfl ?_
      intro v81 g81
      first | (obtain rfl := rv_nat.1 g81) | (obtain rfl := rv_int.1 g81)
      rw [hG.gm]
      refine lS (by kernel_rfl : opAt F35.o13 16 = some (some 82, .load 62 (.tmp 3), (some (11, true)))) rfl rfl (fun w' hS => hb3b.stay hS (by first | decide | (simp <;> omega))) hb3b (by kernel_rfl) rfl rfl ?_
      intro v82 g82
      have gb82 := g82
      replace g82 := g82.st hR (by first | decide | (simp <;> omega))
      obtain ⟨e82, _⟩ := rv_sv.1 g82
      subst e82
      refine yS (by kernel_rfl : opAt F35.o13 17 = some (some 83, .nilCheck (.tmp 82), (some (11, true)))) rfl rfl (fun w' hS => val_nilCheck rfl) ?_
      have h84 := RA.gn hgb
      refine yS (by kernel_rfl : opAt F35.o13 18 = some (some 84, .fieldAddr 69 (.tmp 83) 0, (some (11, true)))) rfl rfl (fun w' hS => val_fieldAddr (off := 0) (by kernel_rfl) rfl) ?_
      refine lS (by kernel_rfl : opAt F35.o13 19 = some (some 85, .load 3 (.tmp 84), (some (11, true)))) rfl rfl (fun w' hS => h84.stay hS (by first | decide | (simp <;> omega))) h84 (by kernel_rfl) rfl rfl ?_
      intro v85 g85
      first | (obtain rfl := rv_nat.1 g85) | (obtain rfl := rv_int.1 g85)
      rw [hG.gn]
      refine yS (by kernel_rfl : opAt F35.o13 20 = some (some 86, .makeFunc (.func 50) #[] #[(.tmp 10)], (some (11, true)))) rfl rfl (fun w' hS => val_makeFunc rfl rfl) ?_
      refine yS (by kernel_rfl : opAt F35.o13 21 = some (some 87, .makeFunc (.func 51) #[] #[(.tmp 7), (.tmp 3)], (some (11, true)))) rfl rfl (fun w' hS => val_makeFunc rfl rfl) ?_
      refine cS (by kernel_rfl : opAt F35.o13 22 = some (some 88, .call { callee := .value (.func 48), args := #[(.tmp 81), (.tmp 85), (.tmp 86), (.tmp 87)], argTypes := #[3, 3, 65, 59] }, (some (11, true)))) rfl rfl (ent Try.call48 rfl) (covers_ok (n := m) (m := n) (J := fun j i => jB stl us wt U V i j) (mu := fun j => decide (gB us j = false ∧ 0 < V j)) hF hn hm (fun args w => Try.call50 args w) (fun w1 hs1 j i hj hi => turned_ok (hF.st hs1) hG (hg.st hs1 (by simp)) (hb4r.st hs1 (by simp)) (hb7r.st hs1 (by simp)) (hb3r.st hs1 (by simp)) (hb5r.st hs1 (by simp)) (hb10r.st hs1 (by simp)) (hst.st hs1 (by simp)) (hu.st hs1 (by simp)) hsl hul hi hj) (fun args w => Try.call51 args w) (fun w1 hs1 j hj => mustV_ok (hF.st hs1) hG (hg.st hs1 (by simp)) (hb7r.st hs1 (by simp)) (hb3r.st hs1 (by simp)) (hu.st hs1 (by simp)) hul hj)) ?_
      rintro vw15 w15 ⟨bb2, rfl, hs, hbb2⟩
      refine ⟨(hR.trans hs (by simp)).ext, ?_⟩
      replace hF := hF.st hs
      replace hT := hT.trans hs (by simp)
      replace hst := hst.st hs (by first | decide | (simp <;> omega))
      replace hu := hu.st hs (by first | decide | (simp <;> omega))
      replace hb3r := hb3r.st hs (by first | decide | (simp <;> omega))
      replace hb4r := hb4r.st hs (by first | decide | (simp <;> omega))
      replace hb5r := hb5r.st hs (by first | decide | (simp <;> omega))
      replace hb7r := hb7r.st hs (by first | decide | (simp <;> omega))
      replace hg := hg.st hs (by first | decide | (simp <;> omega))
      replace hb10r := hb10r.st hs (by first | decide | (simp <;> omega))
      replace hR := hR.trans hs (by simp)
      replace h68 := h68.st hs (by first | decide | (simp <;> omega))
      replace h72 := h72.st hs (by first | decide | (simp <;> omega))
      refine yS (by kernel_rfl : opAt F35.o13 23 = some (some 89, .pick (.tmp 77) (.tmp 88) (.const (.bool false)), none)) rfl rfl (fun w' hS => val_pick_t rfl rfl) ?_
      refine yS (by kernel_rfl : opAt F35.o13 24 = some (some 6, .assign (.tmp 89), none)) rfl rfl (fun w' hS => val_assign rfl) ?_
      refine Sch.nil ?_
      refine run_ret1 (by kernel_rfl) Try.func35 Try.results35 rfl ?_
      exact ⟨bb2, rfl, hT.out1 (by decide), feas_fin hG.pr hst2 hlt hSP hUs (b1 := true) (b2 := bb2) ⟨fun _ => hC1, fun _ => rfl⟩ (fun _ => hbb2) bb2 rfl (fun e => by cases e)⟩
    · skip
      refine run_draw (id := 13) (ops := F35.o13) [] (K.frz 2 (Cw11)) [(0, true), (1, true), (2, true), (3, true), (4, true), (5, true), (6, true), (7, true), (8, true), (9, true), (10, false), (11, true), (12, true), (13, true), (14, true), (15, true), (16, true), (17, true), (18, true), (19, true), (20, true), (21, true), (22, false), (23, true), (24, true)] Try_mixed (by kernel_rfl) (by kernel_rfl) (by kernel_rfl) ?_
      intro w16 hs
      replace hF := hF.st hs
      replace hT := hT.trans hs (by simp)
      replace hst := hst.st hs (by first | decide | (simp <;> omega))
      replace hu := hu.st hs (by first | decide | (simp <;> omega))
      replace hb3r := hb3r.st hs (by first | decide | (simp <;> omega))
      replace hb4r := hb4r.st hs (by first | decide | (simp <;> omega))
      replace hb5r := hb5r.st hs (by first | decide | (simp <;> omega))
      replace hb7r := hb7r.st hs (by first | decide | (simp <;> omega))
      replace hg := hg.st hs (by first | decide | (simp <;> omega))
      replace hb10r := hb10r.st hs (by first | decide | (simp <;> omega))
      have hR := Stp.refl [] w16 (K.frz 2 (Cw11))
      refine lS (by kernel_rfl : opAt F35.o13 0 = some (some 66, .load 62 (.tmp 3), none)) rfl rfl (fun w' hS => hb3r.stay hS (by first | decide | (simp <;> omega))) hb3r (by kernel_rfl) rfl rfl ?_
      intro v66 g66
      obtain ⟨e66, _⟩ := rv_sv.1 g66
      subst e66
      refine yS (by kernel_rfl : opAt F35.o13 1 = some (some 67, .nilCheck (.tmp 66), none)) rfl rfl (fun w' hS => val_nilCheck rfl) ?_
      have h68 := RA.gn hg
      refine yS (by kernel_rfl : opAt F35.o13 2 = some (some 68, .fieldAddr 69 (.tmp 67) 0, none)) rfl rfl (fun w' hS => val_fieldAddr (off := 0) (by kernel_rfl) rfl) ?_
      refine lS (by kernel_rfl : opAt F35.o13 3 = some (some 69, .load 3 (.tmp 68), none)) rfl rfl (fun w' hS => h68.stay hS (by first | decide | (simp <;> omega))) h68 (by kernel_rfl) rfl rfl ?_
      intro v69 g69
      first | (obtain rfl := rv_nat.1 g69) | (obtain rfl := rv_int.1 g69)
      rw [hG.gn]
      refine lS (by kernel_rfl : opAt F35.o13 4 = some (some 70, .load 62 (.tmp 3), none)) rfl rfl (fun w' hS => hb3r.stay hS (by first | decide | (simp <;> omega))) hb3r (by kernel_rfl) rfl rfl ?_
      intro v70 g70
      obtain ⟨e70, _⟩ := rv_sv.1 g70
      subst e70
      refine yS (by kernel_rfl : opAt F35.o13 5 = some (some 71, .nilCheck (.tmp 70), none)) rfl rfl (fun w' hS => val_nilCheck rfl) ?_
      have h72 := RA.gm hg
      refine yS (by kernel_rfl : opAt F35.o13 6 = some (some 72, .fieldAddr 69 (.tmp 71) 1, none)) rfl rfl (fun w' hS => val_fieldAddr (off := 1) (by kernel_rfl) rfl) ?_
      refine lS (by kernel_rfl : opAt F35.o13 7 = some (some 73, .load 3 (.tmp 72), none)) rfl rfl (fun w' hS => h72.stay hS (by first | decide | (simp <;> omega))) h72 (by kernel_rfl) rfl rfl ?_
      intro v73 g73
      first | (obtain rfl := rv_nat.1 g73) | (obtain rfl := rv_int.1 g73)
      rw [hG.gm]
      refine lS (by kernel_rfl : opAt F35.o13 8 = some (some 74, .load 65 (.tmp 10), none)) rfl rfl (fun w' hS => hb10r.stay hS (by first | decide | (simp <;> omega))) hb10r (by kernel_rfl) rfl rfl ?_
      intro v74 g74
      obtain ⟨e74, _⟩ := rv_sv.1 g74
      subst e74
      refine yS (by kernel_rfl : opAt F35.o13 9 = some (some 75, .makeFunc (.func 49) #[] #[(.tmp 4), (.tmp 3)], none)) rfl rfl (fun w' hS => val_makeFunc rfl rfl) ?_
      have hb3b := hb3r
      have hgb := hg
      refine cS (by kernel_rfl : opAt F35.o13 10 = some (some 76, .call { callee := .value (.func 48), args := #[(.tmp 69), (.tmp 73), (.tmp 74), (.tmp 75)], argTypes := #[3, 3, 65, 59] }, none)) rfl rfl (ent Try.call48 rfl) (covers_ok (n := n) (m := m) (J := jB stl us wt U V) (mu := fun i => decide (gI stl i = -2 ∧ 0 < U i)) hF hm hn (fun args w => Try.call47 args w) (fun w1 hs1 i j hi hj => joins_ok (hF.st hs1) hG (hg.st hs1 (by simp)) (hb4r.st hs1 (by simp)) (hb7r.st hs1 (by simp)) (hb3r.st hs1 (by simp)) (hb5r.st hs1 (by simp)) (hst.st hs1 (by simp)) (hu.st hs1 (by simp)) hsl hul hi hj) (fun args w => Try.call49 args w) (fun w1 hs1 i hi => mustU_ok (hF.st hs1) hG (hg.st hs1 (by simp)) (hb4r.st hs1 (by simp)) (hb3r.st hs1 (by simp)) (hst.st hs1 (by simp)) hsl hi)) ?_
      rintro vw17 w17 ⟨bb1, rfl, hs, hbb1⟩
      obtain rfl : bb1 = false := by
        cases bb1 with
        | false => rfl
        | true => exact absurd (hbb1.1 rfl) hC1
      refine ⟨(hR.trans hs (by simp)).ext, ?_⟩
      replace hF := hF.st hs
      replace hT := hT.trans hs (by simp)
      replace hst := hst.st hs (by first | decide | (simp <;> omega))
      replace hu := hu.st hs (by first | decide | (simp <;> omega))
      replace hb3r := hb3r.st hs (by first | decide | (simp <;> omega))
      replace hb4r := hb4r.st hs (by first | decide | (simp <;> omega))
      replace hb5r := hb5r.st hs (by first | decide | (simp <;> omega))
      replace hb7r := hb7r.st hs (by first | decide | (simp <;> omega))
      replace hg := hg.st hs (by first | decide | (simp <;> omega))
      replace hb10r := hb10r.st hs (by first | decide | (simp <;> omega))
      replace hR := hR.trans hs (by simp)
      replace h68 := h68.st hs (by first | decide | (simp <;> omega))
      replace h72 := h72.st hs (by first | decide | (simp <;> omega))
      refine yS (by kernel_rfl : opAt F35.o13 11 = some (some 77, .move (.tmp 76), none)) rfl rfl (fun w' hS => val_move rfl) ?_
      refine pS (by kernel_rfl : opAt F35.o13 12 = some (some 78, .load 62 (.tmp 3), (some (11, true)))) rfl rfl ?_
      refine pS (by kernel_rfl : opAt F35.o13 13 = some (some 79, .nilCheck (.tmp 78), (some (11, true)))) rfl rfl ?_
      refine pS (by kernel_rfl : opAt F35.o13 14 = some (some 80, .fieldAddr 69 (.tmp 79) 1, (some (11, true)))) rfl rfl ?_
      refine pS (by kernel_rfl : opAt F35.o13 15 = some (some 81, .load 3 (.tmp 80), (some (11, true)))) rfl rfl ?_
      refine pS (by kernel_rfl : opAt F35.o13 16 = some (some 82, .load 62 (.tmp 3), (some (11, true)))) rfl rfl ?_
      refine pS (by kernel_rfl : opAt F35.o13 17 = some (some 83, .nilCheck (.tmp 82), (some (11, true)))) rfl rfl ?_
      refine pS (by kernel_rfl : opAt F35.o13 18 = some (some 84, .fieldAddr 69 (.tmp 83) 0, (some (11, true)))) rfl rfl ?_
      refine pS (by kernel_rfl : opAt F35.o13 19 = some (some 85, .load 3 (.tmp 84), (some (11, true)))) rfl rfl ?_
      refine pS (by kernel_rfl : opAt F35.o13 20 = some (some 86, .makeFunc (.func 50) #[] #[(.tmp 10)], (some (11, true)))) rfl rfl ?_
      refine pS (by kernel_rfl : opAt F35.o13 21 = some (some 87, .makeFunc (.func 51) #[] #[(.tmp 7), (.tmp 3)], (some (11, true)))) rfl rfl ?_
      refine pW (by kernel_rfl : opAt F35.o13 22 = some (some 88, .call { callee := .value (.func 48), args := #[(.tmp 81), (.tmp 85), (.tmp 86), (.tmp 87)], argTypes := #[3, 3, 65, 59] }, (some (11, true)))) rfl rfl hR.ext ?_
      refine yS (by kernel_rfl : opAt F35.o13 23 = some (some 89, .pick (.tmp 77) (.tmp 88) (.const (.bool false)), none)) rfl rfl (fun w' hS => val_pick_f rfl rfl) ?_
      refine yS (by kernel_rfl : opAt F35.o13 24 = some (some 6, .assign (.tmp 89), none)) rfl rfl (fun w' hS => val_assign rfl) ?_
      refine Sch.nil ?_
      refine run_ret1 (by kernel_rfl) Try.func35 Try.results35 rfl ?_
      exact ⟨false, rfl, hT.out1 (by decide), feas_fin hG.pr hst2 hlt hSP hUs (b1 := false) (b2 := false) ⟨fun e => (by cases e), fun e => absurd e hC1⟩ (fun e => by cases e) false rfl (fun _ => rfl)⟩
end Go.Proofs.Ytgooehopkmbkfaa
