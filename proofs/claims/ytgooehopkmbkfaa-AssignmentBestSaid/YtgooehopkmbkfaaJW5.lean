/- Steps through functions of the program. -/
import Derived.Test.YtgooehopkmbkfaaJV3
import Derived.Test.YtgooehopkmbkfaaL2
set_option linter.unusedVariables false
set_option linter.unusedSimpArgs false
set_option maxRecDepth 100000
set_option maxHeartbeats 4000000
namespace Go.Proofs.Ytgooehopkmbkfaa
open Go.K Go.K.Rep

namespace F26
noncomputable def c0 : Code := bodyOf Try.f26
noncomputable def c1 : Code := cl c0
noncomputable def c2 : Code := cl c1
noncomputable def o0 : Array Oper := rops c2
noncomputable def c3 : Code := cr c1
noncomputable def c4 : Code := cl c3
noncomputable def c5 : Code := cl c4
noncomputable def c6 : Code := cl c5
noncomputable def o1 : Array Oper := rops c6
noncomputable def c7 : Code := cr c5
noncomputable def c8 : Code := cl c7
noncomputable def o2 : Array Oper := rops c8
noncomputable def c9 : Code := cr c7
noncomputable def c10 : Code := cr c4
noncomputable def c11 : Code := cr c3
noncomputable def c12 : Code := cr c0
noncomputable def c13 : Code := cl c12
noncomputable def o3 : Array Oper := rops c13
noncomputable def c14 : Code := cr c12
noncomputable def c15 : Code := cl c14
noncomputable def c16 : Code := cl c15
noncomputable def o4 : Array Oper := rops c16
noncomputable def c17 : Code := cr c15
noncomputable def c18 : Code := cl c17
noncomputable def c19 : Code := cl c18
noncomputable def o5 : Array Oper := rops c19
noncomputable def c20 : Code := cr c18
noncomputable def c21 : Code := cl c20
noncomputable def o6 : Array Oper := rops c21
noncomputable def c22 : Code := cr c20
noncomputable def o7 : Array Oper := rops c22
noncomputable def c23 : Code := cr c17
noncomputable def c24 : Code := cr c14
noncomputable def o8 : Array Oper := rops c24
end F26
theorem every_step {N M : Nat} {l : List K.Edge} {vl vr vk : Value} {bb bm : Nat} (hV : VE N M l) {d : Nat} (IH : ∀ (w₀ : World) (C : Nat → Nat) (i : Nat) (R Kl : List Bool) (cs : List Couple) (t : Int) (b : List Couple × Int) (vc vb : Value), l.length - i < d → Lim w₀ C → RV w₀ (Mc C) l vl → OwnL w₀ C 3 4 vr R → OwnL w₀ C 4 4 vk Kl → RV w₀ (Mc C) cs vc → RV w₀ (Mc C) b.1 vb → OwnB w₀ C 5 bb (.cells [vb].toArray 24) → OwnB w₀ C 6 bm (.cells [.int .i64 b.2].toArray 3) → i ≤ l.length → cs.length ≤ i → (cs = [] → vc = .slice none 0 0) → R.length = N → Kl.length = M → 0 ≤ t → t ≤ 65536 * i → Calls Try.prog 26 #[vl, .int .i64 i, vr, vk, vc, .int .i64 t, .pointer (some ⟨bb, 0, none⟩), .pointer (some ⟨bm, 0, none⟩)] w₀ (Ret fun v w' => ∃ (B : List Couple × Int) (vb' : Value), B = evS (l.drop i) R Kl cs t b ∧ v = .tuple #[] ∧ Stp [3, 4, 5, 6] w₀ C w' C ∧ OwnL w' C 3 4 vr R ∧ OwnL w' C 4 4 vk Kl ∧ RV w' (Mc C) B.1 vb' ∧ OwnB w' C 5 bb (.cells [vb'].toArray 24) ∧ OwnB w' C 6 bm (.cells [.int .i64 B.2].toArray 3)))
    {w₀ : World} {C : Nat → Nat} {i : Nat} {R Kl : List Bool} {cs : List Couple} {t : Int} {b : List Couple × Int} {vc vb : Value} (hd : l.length - i ≤ d) (hF : Lim w₀ C) (he : RV w₀ (Mc C) l vl) (hr : OwnL w₀ C 3 4 vr R) (hk : OwnL w₀ C 4 4 vk Kl) (hc : RV w₀ (Mc C) cs vc) (hb : RV w₀ (Mc C) b.1 vb) (hbb : OwnB w₀ C 5 bb (.cells [vb].toArray 24)) (hbm : OwnB w₀ C 6 bm (.cells [.int .i64 b.2].toArray 3)) (hi : i ≤ l.length) (hcl : cs.length ≤ i) (hnil : cs = [] → vc = .slice none 0 0) (hRl : R.length = N) (hKl : Kl.length = M) (ht0 : 0 ≤ t) (ht1 : t ≤ 65536 * i) : Calls Try.prog 26 #[vl, .int .i64 i, vr, vk, vc, .int .i64 t, .pointer (some ⟨bb, 0, none⟩), .pointer (some ⟨bm, 0, none⟩)] w₀ (Ret fun v w' => ∃ (B : List Couple × Int) (vb' : Value), B = evS (l.drop i) R Kl cs t b ∧ v = .tuple #[] ∧ Stp [3, 4, 5, 6] w₀ C w' C ∧ OwnL w' C 3 4 vr R ∧ OwnL w' C 4 4 vk Kl ∧ RV w' (Mc C) B.1 vb' ∧ OwnB w' C 5 bb (.cells [vb'].toArray 24) ∧ OwnB w' C 6 bm (.cells [.int .i64 B.2].toArray 3)) := by
  have hF0 := hF
  have hr0 := hr
  have hk0 := hk
  have hbb0 := hbb
  have hbm0 := hbm
  have hlen := hV.len
  have hV0 := hV.n1
  have hV1 := hV.m1
  have hle := hc.le
  have hT := Stp.refl [3, 4, 5, 6, 7] w₀ (colE C)
  replace hF := hF.colE
  replace he : RV w₀ (Mc (colE C)) l vl := by rw [Mc_colE]; exact he
  replace hc : RV w₀ (Mc (colE C)) cs vc := by rw [Mc_colE]; exact hc
  replace hb : RV w₀ (Mc (colE C)) b.1 vb := by rw [Mc_colE]; exact hb
  replace hr := hr.colE (by decide)
  replace hk := hk.colE (by decide)
  replace hbb := hbb.colE (by decide)
  replace hbm := hbm.colE (by decide)
  refine calls_start (c := F26.c0) (N := 107) [vl, .int .i64 i, vr, vk, vc, .int .i64 t, .pointer (some ⟨bb, 0, none⟩), .pointer (some ⟨bm, 0, none⟩)] Try.func26 (by kernel_rfl) (by kernel_rfl) (by kernel_rfl) ?_
  show Run _ _ _ _ [(0, vl), (1, .int .i64 i), (2, vr), (3, vk), (4, vc), (5, .int .i64 t), (6, .pointer (some ⟨bb, 0, none⟩)), (7, .pointer (some ⟨bm, 0, none⟩))] _ _
  refine run_seq (x := F26.c1) (y := F26.c12) (by kernel_rfl) ?_
  refine run_seq (x := F26.c2) (y := F26.c3) (by kernel_rfl) ?_
  refine run_plain (id := 0) (ops := F26.o0) [(0, true), (1, true), (2, true), (3, true)] (by kernel_rfl) (by kernel_rfl) ?_
  refine yS (by kernel_rfl : opAt F26.o0 0 = some (some 17, .move (.tmp 1), none)) rfl rfl (fun w' hS => val_move rfl) ?_
  refine yS (by kernel_rfl : opAt F26.o0 1 = some (some 18, .move (.tmp 0), none)) rfl rfl (fun w' hS => val_move rfl) ?_
  refine yS (by kernel_rfl : opAt F26.o0 2 = some (some 19, .call { callee := .builtin .len, args := #[(.tmp 18)], argTypes := #[23] }, none)) rfl rfl (fun w' hS => he.lenV rfl Try.underlying23 w' ) ?_
  refine yS (by kernel_rfl : opAt F26.o0 3 = some (some 20, .binOp .eql 3 (.tmp 17) (.tmp 19) 3, none)) rfl rfl (fun w' hS => val_eql rfl rfl) ?_
  refine Sch.nil ?_
  refine run_if (x := F26.c4) (y := F26.c11) (o := .tmp 20) (by kernel_rfl) rfl (fun h20 => ?_) (fun h20 => ?_)
  · skip
    have hil : i = l.length := by omega
    refine run_seq (x := F26.c5) (y := F26.c10) (by kernel_rfl) ?_
    refine run_seq (x := F26.c6) (y := F26.c7) (by kernel_rfl) ?_
    refine run_plain (id := 1) (ops := F26.o1) [(0, true), (1, true), (2, true), (3, false), (4, true)] (by kernel_rfl) (by kernel_rfl) ?_
    refine yS (by kernel_rfl : opAt F26.o1 0 = some (some 21, .move (.tmp 5), none)) rfl rfl (fun w' hS => val_move rfl) ?_
    refine yS (by kernel_rfl : opAt F26.o1 1 = some (some 22, .move (.tmp 7), none)) rfl rfl (fun w' hS => val_move rfl) ?_
    refine yS (by kernel_rfl : opAt F26.o1 2 = some (some 23, .nilCheck (.tmp 22), none)) rfl rfl (fun w' hS => val_nilCheck rfl) ?_
    refine nS (by kernel_rfl : opAt F26.o1 3 = some (some 24, .load 3 (.tmp 23), none)) rfl rfl trivial (val_loadOwn hbm.at_ (by kernel_rfl) rfl rfl) ?_
    refine yS (by kernel_rfl : opAt F26.o1 4 = some (some 25, .binOp .gtr 3 (.tmp 21) (.tmp 24) 3, none)) rfl rfl (fun w' hS => val_gtr rfl rfl) ?_
    refine Sch.nil ?_
    refine run_if (x := F26.c8) (y := F26.c9) (o := .tmp 25) (by kernel_rfl) rfl (fun h25 => ?_) (fun h25 => ?_)
    · skip
      refine run_plain (id := 2) (ops := F26.o2) [(0, true), (1, true), (2, true), (3, false), (4, true), (5, true), (6, false), (7, true), (8, false)] (by kernel_rfl) (by kernel_rfl) ?_
      refine yS (by kernel_rfl : opAt F26.o2 0 = some (some 26, .move (.tmp 6), none)) rfl rfl (fun w' hS => val_move rfl) ?_
      refine yS (by kernel_rfl : opAt F26.o2 1 = some (some 27, .move (.tmp 7), none)) rfl rfl (fun w' hS => val_move rfl) ?_
      refine yS (by kernel_rfl : opAt F26.o2 2 = some (some 28, .move (.tmp 4), none)) rfl rfl (fun w' hS => val_move rfl) ?_
      refine aS (by kernel_rfl : opAt F26.o2 3 = some (some 29, .call { callee := .builtin .append, args := #[(.const (.slice none 0 0)), (.tmp 28)], argTypes := #[24, 24] }, none)) rfl rfl (a_append (e := 53) (bytes := 16) hF (by decide) rfl rfl (by kernel_rfl) (by decide) (OwnL.nil (α := Couple) (j := 7)) hc (by simp only [List.length_append, List.length_cons, List.length_nil, List.length_take, List.length_drop, List.length_map]; omega) (by simp only [List.length_append, List.length_cons, List.length_nil, List.length_take, List.length_drop, List.length_map]; omega)) ?_
      rintro v29 w1 ⟨Cw1, hs, hn, hF⟩
      refine ⟨trivial, ?_⟩
      replace hT := hT.trans hs (by simp)
      replace he := he.st hs (by first | decide | (simp <;> omega))
      replace hr := hr.st hs (by first | decide | (simp <;> omega)) (by first | decide | (simp <;> omega))
      replace hk := hk.st hs (by first | decide | (simp <;> omega)) (by first | decide | (simp <;> omega))
      replace hc := hc.st hs (by first | decide | (simp <;> omega))
      replace hb := hb.st hs (by first | decide | (simp <;> omega))
      replace hbb := hbb.st hs (by first | decide | (simp <;> omega))
      replace hbm := hbm.st hs (by first | decide | (simp <;> omega))
      refine yS (by kernel_rfl : opAt F26.o2 4 = some (some 30, .move (.tmp 5), none)) rfl rfl (fun w' hS => val_move rfl) ?_
      refine yS (by kernel_rfl : opAt F26.o2 5 = some (some 31, .nilCheck (.tmp 26), none)) rfl rfl (fun w' hS => val_nilCheck rfl) ?_
      refine aN (by kernel_rfl : opAt F26.o2 6 = some (none, .store 24 (.tmp 31) (.tmp 29), none)) rfl (a_store1 rfl rfl (by kernel_rfl) hn.one.1 hn.one.2 hbb (by simp)) ?_
      rintro _ w2 ⟨rfl, hs, hbb⟩
      refine ⟨trivial, ?_⟩
      replace hF := hF.st hs
      replace hT := hT.trans hs (by simp)
      replace he := he.st hs (by first | decide | (simp <;> omega))
      replace hr := hr.st hs (by first | decide | (simp <;> omega)) (by first | decide | (simp <;> omega))
      replace hk := hk.st hs (by first | decide | (simp <;> omega)) (by first | decide | (simp <;> omega))
      replace hc := hc.st hs (by first | decide | (simp <;> omega))
      replace hb := hb.st hs (by first | decide | (simp <;> omega))
      replace hbm := hbm.st hs (by first | decide | (simp <;> omega))
      replace hn := hn.st hs (by first | decide | (simp <;> omega)) (by first | decide | (simp <;> omega))
      simp only [List.nil_append] at hn
      refine yS (by kernel_rfl : opAt F26.o2 7 = some (some 32, .nilCheck (.tmp 27), none)) rfl rfl (fun w' hS => val_nilCheck rfl) ?_
      refine aN (by kernel_rfl : opAt F26.o2 8 = some (none, .store 3 (.tmp 32) (.tmp 30), none)) rfl (a_store1 rfl rfl (by kernel_rfl) rfl rfl hbm (by simp)) ?_
      rintro _ w3 ⟨rfl, hs, hbm⟩
      refine ⟨trivial, ?_⟩
      replace hF := hF.st hs
      replace hT := hT.trans hs (by simp)
      replace he := he.st hs (by first | decide | (simp <;> omega))
      replace hr := hr.st hs (by first | decide | (simp <;> omega)) (by first | decide | (simp <;> omega))
      replace hk := hk.st hs (by first | decide | (simp <;> omega)) (by first | decide | (simp <;> omega))
      replace hc := hc.st hs (by first | decide | (simp <;> omega))
      replace hb := hb.st hs (by first | decide | (simp <;> omega))
      replace hbb := hbb.st hs (by first | decide | (simp <;> omega))
      replace hn := hn.st hs (by first | decide | (simp <;> omega)) (by first | decide | (simp <;> omega))
      refine Sch.nil ?_
      refine run_ret0 (by kernel_rfl) Try.func26 Try.results26 ?_
      refine ⟨(cs, t), _, ?_, rfl, hT.outE, hr.back hr0 hT hF0, hk.back hk0 hT hF0, (hn.out hT hF0 (Mc_colE C) (fun b _ => Nat.ne_of_lt (colE_lt7 C b)) (by omega)), hbb.back hbb0, hbm.back hbm0⟩
      rw [hil, List.drop_length]; unfold evS; rw [if_pos (by omega)]
    · skip
      refine run_skip (by kernel_rfl) ?_
      refine run_ret0 (by kernel_rfl) Try.func26 Try.results26 ?_
      refine ⟨b, _, ?_, rfl, hT.outE, hr.back hr0 hT hF0, hk.back hk0 hT hF0, (hb.out hT hF0 (Mc_colE C)), hbb.back hbb0, hbm.back hbm0⟩
      rw [hil, List.drop_length]; unfold evS; rw [if_neg (by omega)]
  · skip
    have hil : i < l.length := by omega
    have hxo := hV.ok _ (List.getElem_mem hil)
    unfold okE at hxo
    have hdr := List.drop_eq_getElem_cons hil
    refine run_skip (by kernel_rfl) ?_
    refine run_seq (x := F26.c13) (y := F26.c14) (by kernel_rfl) ?_
    refine run_plain (id := 3) (ops := F26.o3) [(0, true), (1, true), (2, true), (3, false), (4, false), (5, false)] (by kernel_rfl) (by kernel_rfl) ?_
    refine yS (by kernel_rfl : opAt F26.o3 0 = some (some 33, .move (.tmp 0), none)) rfl rfl (fun w' hS => val_move rfl) ?_
    refine yS (by kernel_rfl : opAt F26.o3 1 = some (some 34, .move (.tmp 1), none)) rfl rfl (fun w' hS => val_move rfl) ?_
    refine iS (e := 46) (by kernel_rfl : opAt F26.o3 2 = some (some 35, .indexAddr 23 (.tmp 33) (.tmp 34), none)) rfl rfl he rfl (by kernel_rfl) rfl (by omega) (by omega) ?_
    intro b35 o35 h35
    try simp only [Int.toNat_natCast] at h35
    refine lNA (by kernel_rfl : opAt F26.o3 3 = some (some 36, .load 46 (.tmp 35), none)) rfl rfl trivial h35 (by kernel_rfl) (by kernel_rfl) rfl rfl ?_
    intro v36 g36
    obtain rfl := rv_edge.1 g36
    refine aS (by kernel_rfl : opAt F26.o3 4 = some (some 16, .alloc 46, none)) rfl rfl (a_alloc (cs := [.int .i64 0, .int .i64 0, .int .i64 0]) hF 7 (by kernel_rfl)) ?_
    rintro _ w4 ⟨Cw4, bw4, rfl, hs, hx, hF⟩
    refine ⟨trivial, ?_⟩
    replace hT := hT.trans hs (by simp)
    replace he := he.st hs (by first | decide | (simp <;> omega))
    replace hr := hr.st hs (by first | decide | (simp <;> omega)) (by first | decide | (simp <;> omega))
    replace hk := hk.st hs (by first | decide | (simp <;> omega)) (by first | decide | (simp <;> omega))
    replace hc := hc.st hs (by first | decide | (simp <;> omega))
    replace hb := hb.st hs (by first | decide | (simp <;> omega))
    replace hbb := hbb.st hs (by first | decide | (simp <;> omega))
    replace hbm := hbm.st hs (by first | decide | (simp <;> omega))
    replace h35 := h35.st hs (by first | decide | (simp <;> omega))
    refine aN (by kernel_rfl : opAt F26.o3 5 = some (none, .store 46 (.tmp 16) (.tmp 36), none)) rfl (a_storeAll (vs := encE (l[i]'hil)) (n := 3) rfl rfl (by kernel_rfl) rfl rfl (by intro u hu; simp only [encE, List.mem_cons, List.not_mem_nil, or_false] at hu; rcases hu with rfl | rfl | rfl <;> rfl) hx rfl) ?_
    rintro _ w5 ⟨rfl, hs, hx⟩
    refine ⟨trivial, ?_⟩
    replace hF := hF.st hs
    replace hT := hT.trans hs (by simp)
    replace he := he.st hs (by first | decide | (simp <;> omega))
    replace hr := hr.st hs (by first | decide | (simp <;> omega)) (by first | decide | (simp <;> omega))
    replace hk := hk.st hs (by first | decide | (simp <;> omega)) (by first | decide | (simp <;> omega))
    replace hc := hc.st hs (by first | decide | (simp <;> omega))
    replace hb := hb.st hs (by first | decide | (simp <;> omega))
    replace hbb := hbb.st hs (by first | decide | (simp <;> omega))
    replace hbm := hbm.st hs (by first | decide | (simp <;> omega))
    replace h35 := h35.st hs (by first | decide | (simp <;> omega))
    refine Sch.nil ?_
    have hxr := hx.fra (n := 7) (x := l[i]'hil) (by decide) (rep_edge.2 rfl)
    clear hx
    replace hF := hF.frz 7
    replace hT := hT.frz (n := 7) (fun b => by first | exact colE_lt7 C b | exact frz_lt (by decide) _ b)
    replace he := he.frz 7
    replace hr := hr.frzK (n := 7) (by decide)
    replace hk := hk.frzK (n := 7) (by decide)
    replace hc := hc.frz 7
    replace hb := hb.frz 7
    replace hbb := hbb.frz (n := 7) (by decide)
    replace hbm := hbm.frz (n := 7) (by decide)
    replace h35 := h35.frz 7
    have hx := hxr
    clear hxr
    refine run_seq (x := F26.c15) (y := F26.c24) (by kernel_rfl) ?_
    refine run_seq (x := F26.c16) (y := F26.c17) (by kernel_rfl) ?_
    refine run_cut 55 (decide (mayE (l[i]'hil) R Kl)) (K.frz 7 Cw4) ?_ ?_
    · intro hcut
      by_cases hA : 0 < (l[i]'hil).w
      · skip
        by_cases hB : R[(l[i]'hil).a.toNat]'(by omega) = true
        · skip
          refine run_plain (id := 4) (ops := F26.o4) [(0, true), (1, false), (2, true), (3, true), (4, true), (5, true), (6, false), (7, true), (8, false), (9, true), (10, true), (11, true), (12, true), (13, true), (14, false), (15, true), (16, false), (17, true), (18, true)] (by kernel_rfl) (by kernel_rfl) ?_
          have h37 := RA.ew hx
          refine yS (by kernel_rfl : opAt F26.o4 0 = some (some 37, .fieldAddr 46 (.tmp 16) 2, none)) rfl rfl (fun w' hS => val_fieldAddr (off := 2) (by kernel_rfl) rfl) ?_
          refine lN (by kernel_rfl : opAt F26.o4 1 = some (some 38, .load 3 (.tmp 37), none)) rfl rfl trivial h37 (by kernel_rfl) rfl rfl ?_
          intro v38 g38
          first | (obtain rfl := rv_nat.1 g38) | (obtain rfl := rv_int.1 g38)
          refine yS (by kernel_rfl : opAt F26.o4 2 = some (some 39, .binOp .gtr 3 (.tmp 38) (.const (.int .i64 0)) 3, none)) rfl rfl (fun w' hS => val_T (val_gtr rfl rfl) hA) ?_
          refine yS (by kernel_rfl : opAt F26.o4 3 = some (some 40, .move (.tmp 39), none)) rfl rfl (fun w' hS => val_move rfl) ?_
          refine yS (by kernel_rfl : opAt F26.o4 4 = some (some 41, .move (.tmp 2), (some (3, true)))) rfl rfl (fun w' hS => val_move rfl) ?_
          have h42 := RA.ea hx
          refine yS (by kernel_rfl : opAt F26.o4 5 = some (some 42, .fieldAddr 46 (.tmp 16) 0, (some (3, true)))) rfl rfl (fun w' hS => val_fieldAddr (off := 0) (by kernel_rfl) rfl) ?_
          refine lN (by kernel_rfl : opAt F26.o4 6 = some (some 43, .load 3 (.tmp 42), (some (3, true)))) rfl rfl trivial h42 (by kernel_rfl) rfl rfl ?_
          intro v43 g43
          first | (obtain rfl := rv_nat.1 g43) | (obtain rfl := rv_int.1 g43)
          refine oI (e' := 4) (by kernel_rfl : opAt F26.o4 7 = some (some 44, .indexAddr 48 (.tmp 41) (.tmp 43), (some (3, true)))) rfl rfl hr rfl (by kernel_rfl) rfl (by omega) (by omega) ?_
          intro g44 hg44
          try simp only [Int.toNat_natCast]
          refine oN (by kernel_rfl : opAt F26.o4 8 = some (some 45, .load 4 (.tmp 44), (some (3, true)))) rfl rfl trivial hr hg44 (by omega) (by kernel_rfl) rfl rfl ?_
          intro v45 g45
          try simp only [Int.toNat_natCast] at g45
          obtain rfl := rv_bool.1 g45
          rw [show R[(l[i]'hil).a.toNat]'(by omega) = true from hB]
          refine yS (by kernel_rfl : opAt F26.o4 9 = some (some 46, .unOp .not 4 (.tmp 45), (some (3, true)))) rfl rfl (fun w' hS => val_not rfl) ?_
          refine yS (by kernel_rfl : opAt F26.o4 10 = some (some 47, .pick (.tmp 40) (.tmp 46) (.const (.bool false)), none)) rfl rfl (fun w' hS => val_pick_t rfl rfl) ?_
          refine yS (by kernel_rfl : opAt F26.o4 11 = some (some 48, .move (.tmp 47), none)) rfl rfl (fun w' hS => val_move rfl) ?_
          refine pS (by kernel_rfl : opAt F26.o4 12 = some (some 49, .move (.tmp 3), (some (11, true)))) rfl rfl ?_
          refine pS (by kernel_rfl : opAt F26.o4 13 = some (some 50, .fieldAddr 46 (.tmp 16) 1, (some (11, true)))) rfl rfl ?_
          refine pW (by kernel_rfl : opAt F26.o4 14 = some (some 51, .load 3 (.tmp 50), (some (11, true)))) rfl rfl trivial ?_
          refine pS (by kernel_rfl : opAt F26.o4 15 = some (some 52, .indexAddr 48 (.tmp 49) (.tmp 51), (some (11, true)))) rfl rfl ?_
          refine pW (by kernel_rfl : opAt F26.o4 16 = some (some 53, .load 4 (.tmp 52), (some (11, true)))) rfl rfl trivial ?_
          refine pS (by kernel_rfl : opAt F26.o4 17 = some (some 54, .unOp .not 4 (.tmp 53), (some (11, true)))) rfl rfl ?_
          refine yS (by kernel_rfl : opAt F26.o4 18 = some (some 55, .pick (.tmp 48) (.tmp 54) (.const (.bool false)), none)) rfl rfl (fun w' hS => val_pick_f rfl rfl) ?_
          exact Sch.nil (hcut _ _ _ (Stp.refl _ _ _) rfl (by rw [decide_eq_false (show ¬ mayE (l[i]'hil) R Kl from fun h => by have := h.2.1; rw [getD_in (by omega), hB] at this; cases this)]) (sub_skip rfl (sub_skip rfl (sub_skip rfl (sub_skip rfl (sub_skip rfl (sub_skip rfl (sub_skip rfl (sub_skip rfl (sub_skip rfl (sub_skip rfl (sub_skip rfl (sub_skip rfl (sub_skip rfl (sub_skip rfl (sub_skip rfl (sub_skip rfl (sub_skip rfl (sub_skip rfl (sub_skip rfl (Sub.refl _)))))))))))))))))))))
        · skip
          by_cases hD : Kl[(l[i]'hil).b.toNat]'(by omega) = true
          · skip
            refine run_plain (id := 4) (ops := F26.o4) [(0, true), (1, false), (2, true), (3, true), (4, true), (5, true), (6, false), (7, true), (8, false), (9, true), (10, true), (11, true), (12, true), (13, true), (14, false), (15, true), (16, false), (17, true), (18, true)] (by kernel_rfl) (by kernel_rfl) ?_
            have h37 := RA.ew hx
            refine yS (by kernel_rfl : opAt F26.o4 0 = some (some 37, .fieldAddr 46 (.tmp 16) 2, none)) rfl rfl (fun w' hS => val_fieldAddr (off := 2) (by kernel_rfl) rfl) ?_
            refine lN (by kernel_rfl : opAt F26.o4 1 = some (some 38, .load 3 (.tmp 37), none)) rfl rfl trivial h37 (by kernel_rfl) rfl rfl ?_
            intro v38 g38
            first | (obtain rfl := rv_nat.1 g38) | (obtain rfl := rv_int.1 g38)
            refine yS (by kernel_rfl : opAt F26.o4 2 = some (some 39, .binOp .gtr 3 (.tmp 38) (.const (.int .i64 0)) 3, none)) rfl rfl (fun w' hS => val_T (val_gtr rfl rfl) hA) ?_
            refine yS (by kernel_rfl : opAt F26.o4 3 = some (some 40, .move (.tmp 39), none)) rfl rfl (fun w' hS => val_move rfl) ?_
            refine yS (by kernel_rfl : opAt F26.o4 4 = some (some 41, .move (.tmp 2), (some (3, true)))) rfl rfl (fun w' hS => val_move rfl) ?_
            have h42 := RA.ea hx
            refine yS (by kernel_rfl : opAt F26.o4 5 = some (some 42, .fieldAddr 46 (.tmp 16) 0, (some (3, true)))) rfl rfl (fun w' hS => val_fieldAddr (off := 0) (by kernel_rfl) rfl) ?_
            refine lN (by kernel_rfl : opAt F26.o4 6 = some (some 43, .load 3 (.tmp 42), (some (3, true)))) rfl rfl trivial h42 (by kernel_rfl) rfl rfl ?_
            intro v43 g43
            first | (obtain rfl := rv_nat.1 g43) | (obtain rfl := rv_int.1 g43)
            refine oI (e' := 4) (by kernel_rfl : opAt F26.o4 7 = some (some 44, .indexAddr 48 (.tmp 41) (.tmp 43), (some (3, true)))) rfl rfl hr rfl (by kernel_rfl) rfl (by omega) (by omega) ?_
            intro g44 hg44
            try simp only [Int.toNat_natCast]
            refine oN (by kernel_rfl : opAt F26.o4 8 = some (some 45, .load 4 (.tmp 44), (some (3, true)))) rfl rfl trivial hr hg44 (by omega) (by kernel_rfl) rfl rfl ?_
            intro v45 g45
            try simp only [Int.toNat_natCast] at g45
            obtain rfl := rv_bool.1 g45
            rw [show R[(l[i]'hil).a.toNat]'(by omega) = false from Bool.eq_false_iff.2 hB]
            refine yS (by kernel_rfl : opAt F26.o4 9 = some (some 46, .unOp .not 4 (.tmp 45), (some (3, true)))) rfl rfl (fun w' hS => val_not rfl) ?_
            refine yS (by kernel_rfl : opAt F26.o4 10 = some (some 47, .pick (.tmp 40) (.tmp 46) (.const (.bool false)), none)) rfl rfl (fun w' hS => val_pick_t rfl rfl) ?_
            refine yS (by kernel_rfl : opAt F26.o4 11 = some (some 48, .move (.tmp 47), none)) rfl rfl (fun w' hS => val_move rfl) ?_
            refine yS (by kernel_rfl : opAt F26.o4 12 = some (some 49, .move (.tmp 3), (some (11, true)))) rfl rfl (fun w' hS => val_move rfl) ?_
            have h50 := RA.eb hx
            refine yS (by kernel_rfl : opAt F26.o4 13 = some (some 50, .fieldAddr 46 (.tmp 16) 1, (some (11, true)))) rfl rfl (fun w' hS => val_fieldAddr (off := 1) (by kernel_rfl) rfl) ?_
            refine lN (by kernel_rfl : opAt F26.o4 14 = some (some 51, .load 3 (.tmp 50), (some (11, true)))) rfl rfl trivial h50 (by kernel_rfl) rfl rfl ?_
            intro v51 g51
            first | (obtain rfl := rv_nat.1 g51) | (obtain rfl := rv_int.1 g51)
            refine oI (e' := 4) (by kernel_rfl : opAt F26.o4 15 = some (some 52, .indexAddr 48 (.tmp 49) (.tmp 51), (some (11, true)))) rfl rfl hk rfl (by kernel_rfl) rfl (by omega) (by omega) ?_
            intro g52 hg52
            try simp only [Int.toNat_natCast]
            refine oN (by kernel_rfl : opAt F26.o4 16 = some (some 53, .load 4 (.tmp 52), (some (11, true)))) rfl rfl trivial hk hg52 (by omega) (by kernel_rfl) rfl rfl ?_
            intro v53 g53
            try simp only [Int.toNat_natCast] at g53
            obtain rfl := rv_bool.1 g53
            rw [show Kl[(l[i]'hil).b.toNat]'(by omega) = true from hD]
            refine yS (by kernel_rfl : opAt F26.o4 17 = some (some 54, .unOp .not 4 (.tmp 53), (some (11, true)))) rfl rfl (fun w' hS => val_not rfl) ?_
            refine yS (by kernel_rfl : opAt F26.o4 18 = some (some 55, .pick (.tmp 48) (.tmp 54) (.const (.bool false)), none)) rfl rfl (fun w' hS => val_pick_t rfl rfl) ?_
            exact Sch.nil (hcut _ _ _ (Stp.refl _ _ _) rfl (by rw [decide_eq_false (show ¬ mayE (l[i]'hil) R Kl from fun h => by have := h.2.2; rw [getD_in (by omega), hD] at this; cases this)]; rfl) (sub_skip rfl (sub_skip rfl (sub_skip rfl (sub_skip rfl (sub_skip rfl (sub_skip rfl (sub_skip rfl (sub_skip rfl (sub_skip rfl (sub_skip rfl (sub_skip rfl (sub_skip rfl (sub_skip rfl (sub_skip rfl (sub_skip rfl (sub_skip rfl (sub_skip rfl (sub_skip rfl (sub_skip rfl (Sub.refl _)))))))))))))))))))))
          · skip
            refine run_plain (id := 4) (ops := F26.o4) [(0, true), (1, false), (2, true), (3, true), (4, true), (5, true), (6, false), (7, true), (8, false), (9, true), (10, true), (11, true), (12, true), (13, true), (14, false), (15, true), (16, false), (17, true), (18, true)] (by kernel_rfl) (by kernel_rfl) ?_
            have h37 := RA.ew hx
            refine yS (by kernel_rfl : opAt F26.o4 0 = some (some 37, .fieldAddr 46 (.tmp 16) 2, none)) rfl rfl (fun w' hS => val_fieldAddr (off := 2) (by kernel_rfl) rfl) ?_
            refine lN (by kernel_rfl : opAt F26.o4 1 = some (some 38, .load 3 (.tmp 37), none)) rfl rfl trivial h37 (by kernel_rfl) rfl rfl ?_
            intro v38 g38
            first | (obtain rfl := rv_nat.1 g38) | (obtain rfl := rv_int.1 g38)
            refine yS (by kernel_rfl : opAt F26.o4 2 = some (some 39, .binOp .gtr 3 (.tmp 38) (.const (.int .i64 0)) 3, none)) rfl rfl (fun w' hS => val_T (val_gtr rfl rfl) hA) ?_
            refine yS (by kernel_rfl : opAt F26.o4 3 = some (some 40, .move (.tmp 39), none)) rfl rfl (fun w' hS => val_move rfl) ?_
            refine yS (by kernel_rfl : opAt F26.o4 4 = some (some 41, .move (.tmp 2), (some (3, true)))) rfl rfl (fun w' hS => val_move rfl) ?_
            have h42 := RA.ea hx
            refine yS (by kernel_rfl : opAt F26.o4 5 = some (some 42, .fieldAddr 46 (.tmp 16) 0, (some (3, true)))) rfl rfl (fun w' hS => val_fieldAddr (off := 0) (by kernel_rfl) rfl) ?_
            refine lN (by kernel_rfl : opAt F26.o4 6 = some (some 43, .load 3 (.tmp 42), (some (3, true)))) rfl rfl trivial h42 (by kernel_rfl) rfl rfl ?_
            intro v43 g43
            first | (obtain rfl := rv_nat.1 g43) | (obtain rfl := rv_int.1 g43)
            refine oI (e' := 4) (by kernel_rfl : opAt F26.o4 7 = some (some 44, .indexAddr 48 (.tmp 41) (.tmp 43), (some (3, true)))) rfl rfl hr rfl (by kernel_rfl) rfl (by omega) (by omega) ?_
            intro g44 hg44
            try simp only [Int.toNat_natCast]
            refine oN (by kernel_rfl : opAt F26.o4 8 = some (some 45, .load 4 (.tmp 44), (some (3, true)))) rfl rfl trivial hr hg44 (by omega) (by kernel_rfl) rfl rfl ?_
            intro v45 g45
            try simp only [Int.toNat_natCast] at g45
            obtain rfl := rv_bool.1 g45
            rw [show R[(l[i]'hil).a.toNat]'(by omega) = false from Bool.eq_false_iff.2 hB]
            refine yS (by kernel_rfl : opAt F26.o4 9 = some (some 46, .unOp .not 4 (.tmp 45), (some (3, true)))) rfl rfl (fun w' hS => val_not rfl) ?_
            refine yS (by kernel_rfl : opAt F26.o4 10 = some (some 47, .pick (.tmp 40) (.tmp 46) (.const (.bool false)), none)) rfl rfl (fun w' hS => val_pick_t rfl rfl) ?_
            refine yS (by kernel_rfl : opAt F26.o4 11 = some (some 48, .move (.tmp 47), none)) rfl rfl (fun w' hS => val_move rfl) ?_
            refine yS (by kernel_rfl : opAt F26.o4 12 = some (some 49, .move (.tmp 3), (some (11, true)))) rfl rfl (fun w' hS => val_move rfl) ?_
            have h50 := RA.eb hx
            refine yS (by kernel_rfl : opAt F26.o4 13 = some (some 50, .fieldAddr 46 (.tmp 16) 1, (some (11, true)))) rfl rfl (fun w' hS => val_fieldAddr (off := 1) (by kernel_rfl) rfl) ?_
            refine lN (by kernel_rfl : opAt F26.o4 14 = some (some 51, .load 3 (.tmp 50), (some (11, true)))) rfl rfl trivial h50 (by kernel_rfl) rfl rfl ?_
            intro v51 g51
            first | (obtain rfl := rv_nat.1 g51) | (obtain rfl := rv_int.1 g51)
            refine oI (e' := 4) (by kernel_rfl : opAt F26.o4 15 = some (some 52, .indexAddr 48 (.tmp 49) (.tmp 51), (some (11, true)))) rfl rfl hk rfl (by kernel_rfl) rfl (by omega) (by omega) ?_
            intro g52 hg52
            try simp only [Int.toNat_natCast]
            refine oN (by kernel_rfl : opAt F26.o4 16 = some (some 53, .load 4 (.tmp 52), (some (11, true)))) rfl rfl trivial hk hg52 (by omega) (by kernel_rfl) rfl rfl ?_
            intro v53 g53
            try simp only [Int.toNat_natCast] at g53
            obtain rfl := rv_bool.1 g53
            rw [show Kl[(l[i]'hil).b.toNat]'(by omega) = false from Bool.eq_false_iff.2 hD]
            refine yS (by kernel_rfl : opAt F26.o4 17 = some (some 54, .unOp .not 4 (.tmp 53), (some (11, true)))) rfl rfl (fun w' hS => val_not rfl) ?_
            refine yS (by kernel_rfl : opAt F26.o4 18 = some (some 55, .pick (.tmp 48) (.tmp 54) (.const (.bool false)), none)) rfl rfl (fun w' hS => val_pick_t rfl rfl) ?_
            exact Sch.nil (hcut _ _ _ (Stp.refl _ _ _) rfl (by rw [decide_eq_true (show mayE (l[i]'hil) R Kl from ⟨hA, (getD_in (by omega)).trans (Bool.eq_false_iff.2 hB), (getD_in (by omega)).trans (Bool.eq_false_iff.2 hD)⟩)]; rfl) (sub_skip rfl (sub_skip rfl (sub_skip rfl (sub_skip rfl (sub_skip rfl (sub_skip rfl (sub_skip rfl (sub_skip rfl (sub_skip rfl (sub_skip rfl (sub_skip rfl (sub_skip rfl (sub_skip rfl (sub_skip rfl (sub_skip rfl (sub_skip rfl (sub_skip rfl (sub_skip rfl (sub_skip rfl (Sub.refl _)))))))))))))))))))))
      · skip
        refine run_plain (id := 4) (ops := F26.o4) [(0, true), (1, false), (2, true), (3, true), (4, true), (5, true), (6, false), (7, true), (8, false), (9, true), (10, true), (11, true), (12, true), (13, true), (14, false), (15, true), (16, false), (17, true), (18, true)] (by kernel_rfl) (by kernel_rfl) ?_
        have h37 := RA.ew hx
        refine yS (by kernel_rfl : opAt F26.o4 0 = some (some 37, .fieldAddr 46 (.tmp 16) 2, none)) rfl rfl (fun w' hS => val_fieldAddr (off := 2) (by kernel_rfl) rfl) ?_
        refine lN (by kernel_rfl : opAt F26.o4 1 = some (some 38, .load 3 (.tmp 37), none)) rfl rfl trivial h37 (by kernel_rfl) rfl rfl ?_
        intro v38 g38
        first | (obtain rfl := rv_nat.1 g38) | (obtain rfl := rv_int.1 g38)
        refine yS (by kernel_rfl : opAt F26.o4 2 = some (some 39, .binOp .gtr 3 (.tmp 38) (.const (.int .i64 0)) 3, none)) rfl rfl (fun w' hS => val_F (val_gtr rfl rfl) hA) ?_
        refine yS (by kernel_rfl : opAt F26.o4 3 = some (some 40, .move (.tmp 39), none)) rfl rfl (fun w' hS => val_move rfl) ?_
        refine pS (by kernel_rfl : opAt F26.o4 4 = some (some 41, .move (.tmp 2), (some (3, true)))) rfl rfl ?_
        refine pS (by kernel_rfl : opAt F26.o4 5 = some (some 42, .fieldAddr 46 (.tmp 16) 0, (some (3, true)))) rfl rfl ?_
        refine pW (by kernel_rfl : opAt F26.o4 6 = some (some 43, .load 3 (.tmp 42), (some (3, true)))) rfl rfl trivial ?_
        refine pS (by kernel_rfl : opAt F26.o4 7 = some (some 44, .indexAddr 48 (.tmp 41) (.tmp 43), (some (3, true)))) rfl rfl ?_
        refine pW (by kernel_rfl : opAt F26.o4 8 = some (some 45, .load 4 (.tmp 44), (some (3, true)))) rfl rfl trivial ?_
        refine pS (by kernel_rfl : opAt F26.o4 9 = some (some 46, .unOp .not 4 (.tmp 45), (some (3, true)))) rfl rfl ?_
        refine yS (by kernel_rfl : opAt F26.o4 10 = some (some 47, .pick (.tmp 40) (.tmp 46) (.const (.bool false)), none)) rfl rfl (fun w' hS => val_pick_f rfl rfl) ?_
        refine yS (by kernel_rfl : opAt F26.o4 11 = some (some 48, .move (.tmp 47), none)) rfl rfl (fun w' hS => val_move rfl) ?_
        refine pS (by kernel_rfl : opAt F26.o4 12 = some (some 49, .move (.tmp 3), (some (11, true)))) rfl rfl ?_
        refine pS (by kernel_rfl : opAt F26.o4 13 = some (some 50, .fieldAddr 46 (.tmp 16) 1, (some (11, true)))) rfl rfl ?_
        refine pW (by kernel_rfl : opAt F26.o4 14 = some (some 51, .load 3 (.tmp 50), (some (11, true)))) rfl rfl trivial ?_
        refine pS (by kernel_rfl : opAt F26.o4 15 = some (some 52, .indexAddr 48 (.tmp 49) (.tmp 51), (some (11, true)))) rfl rfl ?_
        refine pW (by kernel_rfl : opAt F26.o4 16 = some (some 53, .load 4 (.tmp 52), (some (11, true)))) rfl rfl trivial ?_
        refine pS (by kernel_rfl : opAt F26.o4 17 = some (some 54, .unOp .not 4 (.tmp 53), (some (11, true)))) rfl rfl ?_
        refine yS (by kernel_rfl : opAt F26.o4 18 = some (some 55, .pick (.tmp 48) (.tmp 54) (.const (.bool false)), none)) rfl rfl (fun w' hS => val_pick_f rfl rfl) ?_
        exact Sch.nil (hcut _ _ _ (Stp.refl _ _ _) rfl (by rw [decide_eq_false (show ¬ mayE (l[i]'hil) R Kl from fun h => hA h.1)]) (sub_skip rfl (sub_skip rfl (sub_skip rfl (sub_skip rfl (sub_skip rfl (sub_skip rfl (sub_skip rfl (sub_skip rfl (sub_skip rfl (sub_skip rfl (sub_skip rfl (sub_skip rfl (sub_skip rfl (sub_skip rfl (sub_skip rfl (sub_skip rfl (sub_skip rfl (sub_skip rfl (sub_skip rfl (Sub.refl _)))))))))))))))))))))
    intro w6 hs
    replace hF := hF.st hs
    replace hT := hT.trans hs (by simp)
    replace he := he.st hs (by first | decide | (simp <;> omega))
    replace hr := hr.st hs (by first | decide | (simp <;> omega)) (by first | decide | (simp <;> omega))
    replace hk := hk.st hs (by first | decide | (simp <;> omega)) (by first | decide | (simp <;> omega))
    replace hc := hc.st hs (by first | decide | (simp <;> omega))
    replace hb := hb.st hs (by first | decide | (simp <;> omega))
    replace hbb := hbb.st hs (by first | decide | (simp <;> omega))
    replace hbm := hbm.st hs (by first | decide | (simp <;> omega))
    replace h35 := h35.st hs (by first | decide | (simp <;> omega))
    replace hx := hx.st hs (by first | decide | (simp <;> omega))
    refine run_if (x := F26.c18) (y := F26.c23) (o := .tmp 55) (by kernel_rfl) rfl (fun h55 => ?_) (fun h55 => ?_)
    · skip
      refine run_seq (x := F26.c19) (y := F26.c20) (by kernel_rfl) ?_
      refine run_draw (id := 5) (ops := F26.o5) [3, 4] (K.frz 7 Cw4) [(0, true), (1, true), (2, true), (3, true), (4, true), (5, true), (6, true), (7, false), (8, true), (9, false)] Try_mixed (by kernel_rfl) (by kernel_rfl) (by kernel_rfl) ?_
      intro w7 hs
      replace hF := hF.st hs
      replace hT := hT.trans hs (by simp)
      replace he := he.st hs (by first | decide | (simp <;> omega))
      replace hr := hr.st hs (by first | decide | (simp <;> omega)) (by first | decide | (simp <;> omega))
      replace hk := hk.st hs (by first | decide | (simp <;> omega)) (by first | decide | (simp <;> omega))
      replace hc := hc.st hs (by first | decide | (simp <;> omega))
      replace hb := hb.st hs (by first | decide | (simp <;> omega))
      replace hbb := hbb.st hs (by first | decide | (simp <;> omega))
      replace hbm := hbm.st hs (by first | decide | (simp <;> omega))
      replace h35 := h35.st hs (by first | decide | (simp <;> omega))
      replace hx := hx.st hs (by first | decide | (simp <;> omega))
      have hR := Stp.refl [3, 4] w7 (K.frz 7 Cw4)
      refine yS (by kernel_rfl : opAt F26.o5 0 = some (some 56, .move (.tmp 2), none)) rfl rfl (fun w' hS => val_move rfl) ?_
      have h57 := RA.ea hx
      refine yS (by kernel_rfl : opAt F26.o5 1 = some (some 57, .fieldAddr 46 (.tmp 16) 0, none)) rfl rfl (fun w' hS => val_fieldAddr (off := 0) (by kernel_rfl) rfl) ?_
      refine lS (by kernel_rfl : opAt F26.o5 2 = some (some 58, .load 3 (.tmp 57), none)) rfl rfl (fun w' hS => h57.stay hS (by first | decide | (simp <;> omega))) h57 (by kernel_rfl) rfl rfl ?_
      intro v58 g58
      first | (obtain rfl := rv_nat.1 g58) | (obtain rfl := rv_int.1 g58)
      refine yS (by kernel_rfl : opAt F26.o5 3 = some (some 59, .move (.tmp 3), none)) rfl rfl (fun w' hS => val_move rfl) ?_
      have h60 := RA.eb hx
      refine yS (by kernel_rfl : opAt F26.o5 4 = some (some 60, .fieldAddr 46 (.tmp 16) 1, none)) rfl rfl (fun w' hS => val_fieldAddr (off := 1) (by kernel_rfl) rfl) ?_
      refine lS (by kernel_rfl : opAt F26.o5 5 = some (some 61, .load 3 (.tmp 60), none)) rfl rfl (fun w' hS => h60.stay hS (by first | decide | (simp <;> omega))) h60 (by kernel_rfl) rfl rfl ?_
      intro v61 g61
      first | (obtain rfl := rv_nat.1 g61) | (obtain rfl := rv_int.1 g61)
      refine oI (e' := 4) (by kernel_rfl : opAt F26.o5 6 = some (some 62, .indexAddr 48 (.tmp 56) (.tmp 58), none)) rfl rfl hr rfl (by kernel_rfl) rfl (by omega) (by omega) ?_
      intro g62 hg62
      try simp only [Int.toNat_natCast]
      refine aN (by kernel_rfl : opAt F26.o5 7 = some (none, .store 4 (.tmp 62) (.const (.bool true)), none)) rfl (a_storeO hr hg62 (by omega) rfl rfl (by kernel_rfl) (rv_bool.2 rfl)) ?_
      rintro _ w8 ⟨rfl, hs, hr⟩
      refine ⟨(hR.trans hs (by simp)).ext, ?_⟩
      replace hF := hF.st hs
      replace hT := hT.trans hs (by simp)
      replace he := he.st hs (by first | decide | (simp <;> omega))
      replace hk := hk.st hs (by first | decide | (simp <;> omega)) (by first | decide | (simp <;> omega))
      replace hc := hc.st hs (by first | decide | (simp <;> omega))
      replace hb := hb.st hs (by first | decide | (simp <;> omega))
      replace hbb := hbb.st hs (by first | decide | (simp <;> omega))
      replace hbm := hbm.st hs (by first | decide | (simp <;> omega))
      replace h35 := h35.st hs (by first | decide | (simp <;> omega))
      replace hx := hx.st hs (by first | decide | (simp <;> omega))
      replace hR := hR.trans hs (by simp)
      replace h57 := h57.st hs (by first | decide | (simp <;> omega))
      replace h60 := h60.st hs (by first | decide | (simp <;> omega))
      refine oI (e' := 4) (by kernel_rfl : opAt F26.o5 8 = some (some 63, .indexAddr 48 (.tmp 59) (.tmp 61), none)) rfl rfl hk rfl (by kernel_rfl) rfl (by omega) (by omega) ?_
      intro g63 hg63
      try simp only [Int.toNat_natCast]
      refine Sch.free rfl ?_
      refine aN (by kernel_rfl : opAt F26.o5 9 = some (none, .store 4 (.tmp 63) (.const (.bool true)), none)) rfl (a_storeO hk hg63 (by omega) rfl rfl (by kernel_rfl) (rv_bool.2 rfl)) ?_
      rintro _ w9 ⟨rfl, hs, hk⟩
      refine ⟨trivial, ?_⟩
      replace hF := hF.st hs
      replace hT := hT.trans hs (by simp)
      replace he := he.st hs (by first | decide | (simp <;> omega))
      replace hr := hr.st hs (by first | decide | (simp <;> omega)) (by first | decide | (simp <;> omega))
      replace hc := hc.st hs (by first | decide | (simp <;> omega))
      replace hb := hb.st hs (by first | decide | (simp <;> omega))
      replace hbb := hbb.st hs (by first | decide | (simp <;> omega))
      replace hbm := hbm.st hs (by first | decide | (simp <;> omega))
      replace h35 := h35.st hs (by first | decide | (simp <;> omega))
      replace hx := hx.st hs (by first | decide | (simp <;> omega))
      replace h57 := h57.st hs (by first | decide | (simp <;> omega))
      replace h60 := h60.st hs (by first | decide | (simp <;> omega))
      refine Sch.nil ?_
      obtain ⟨R1, hR1⟩ : ∃ x, x = R.set (l[i]'hil).a.toNat true := ⟨_, rfl⟩
      obtain ⟨K1, hK1⟩ : ∃ x, x = Kl.set (l[i]'hil).b.toNat true := ⟨_, rfl⟩
      rw [← hR1] at hr
      rw [← hK1] at hk
      have hR1l : R1.length = N := by rw [hR1, List.length_set]; exact hRl
      have hK1l : K1.length = M := by rw [hK1, List.length_set]; exact hKl
      refine run_seq (x := F26.c21) (y := F26.c22) (by kernel_rfl) ?_
      refine run_draw (id := 6) (ops := F26.o6) [] (K.frz 7 Cw4) [(0, true), (1, true), (2, true), (3, true), (4, true), (5, true), (6, true), (7, true), (8, true), (9, true), (10, true), (11, true), (12, true), (13, true), (14, true), (15, true), (18, true), (19, true), (20, true), (21, true), (22, true), (23, true), (16, false), (17, false), (24, false)] Try_mixed (by kernel_rfl) (by kernel_rfl) (by kernel_rfl) ?_
      intro w10 hs
      replace hF := hF.st hs
      replace hT := hT.trans hs (by simp)
      replace he := he.st hs (by first | decide | (simp <;> omega))
      replace hr := hr.st hs (by first | decide | (simp <;> omega)) (by first | decide | (simp <;> omega))
      replace hk := hk.st hs (by first | decide | (simp <;> omega)) (by first | decide | (simp <;> omega))
      replace hc := hc.st hs (by first | decide | (simp <;> omega))
      replace hb := hb.st hs (by first | decide | (simp <;> omega))
      replace hbb := hbb.st hs (by first | decide | (simp <;> omega))
      replace hbm := hbm.st hs (by first | decide | (simp <;> omega))
      replace h35 := h35.st hs (by first | decide | (simp <;> omega))
      replace hx := hx.st hs (by first | decide | (simp <;> omega))
      replace h57 := h57.st hs (by first | decide | (simp <;> omega))
      replace h60 := h60.st hs (by first | decide | (simp <;> omega))
      have hR := Stp.refl [] w10 (K.frz 7 Cw4)
      refine yS (by kernel_rfl : opAt F26.o6 0 = some (some 64, .move (.tmp 0), none)) rfl rfl (fun w' hS => val_move rfl) ?_
      refine yS (by kernel_rfl : opAt F26.o6 1 = some (some 65, .move (.tmp 1), none)) rfl rfl (fun w' hS => val_move rfl) ?_
      refine yS (by kernel_rfl : opAt F26.o6 2 = some (some 66, .binOp .add 3 (.tmp 65) (.const (.int .i64 1)) 3, none)) rfl rfl (fun w' hS => val_addi rfl rfl (by omega) (by omega)) ?_
      rw [show (i : Int) + 1 = ((i + 1 : Nat) : Int) from by omega]
      refine yS (by kernel_rfl : opAt F26.o6 3 = some (some 67, .move (.tmp 2), none)) rfl rfl (fun w' hS => val_move rfl) ?_
      refine yS (by kernel_rfl : opAt F26.o6 4 = some (some 68, .move (.tmp 3), none)) rfl rfl (fun w' hS => val_move rfl) ?_
      refine yS (by kernel_rfl : opAt F26.o6 5 = some (some 69, .move (.tmp 4), none)) rfl rfl (fun w' hS => val_move rfl) ?_
      refine yS (by kernel_rfl : opAt F26.o6 6 = some (some 70, .move (.tmp 4), none)) rfl rfl (fun w' hS => val_move rfl) ?_
      refine yS (by kernel_rfl : opAt F26.o6 7 = some (some 71, .call { callee := .builtin .len, args := #[(.tmp 70)], argTypes := #[24] }, none)) rfl rfl (fun w' hS => hc.lenV rfl Try.underlying24 w' ) ?_
      refine yS (by kernel_rfl : opAt F26.o6 8 = some (some 72, .move (.tmp 4), none)) rfl rfl (fun w' hS => val_move rfl) ?_
      refine yS (by kernel_rfl : opAt F26.o6 9 = some (some 73, .call { callee := .builtin .len, args := #[(.tmp 72)], argTypes := #[24] }, none)) rfl rfl (fun w' hS => hc.lenV rfl Try.underlying24 w' ) ?_
      refine sFull (e' := 53) (by kernel_rfl : opAt F26.o6 10 = some (some 74, .slice 24 (.tmp 69) none (some (.tmp 71)) (some (.tmp 73)), none)) rfl rfl hc rfl (by kernel_rfl) rfl rfl ?_
      intro a74 c74 e74 h74
      have h75 := RA.ea hx
      refine yS (by kernel_rfl : opAt F26.o6 11 = some (some 75, .fieldAddr 46 (.tmp 16) 0, none)) rfl rfl (fun w' hS => val_fieldAddr (off := 0) (by kernel_rfl) rfl) ?_
      refine lS (by kernel_rfl : opAt F26.o6 12 = some (some 76, .load 3 (.tmp 75), none)) rfl rfl (fun w' hS => h75.stay hS (by first | decide | (simp <;> omega))) h75 (by kernel_rfl) rfl rfl ?_
      intro v76 g76
      first | (obtain rfl := rv_nat.1 g76) | (obtain rfl := rv_int.1 g76)
      have h77 := RA.eb hx
      refine yS (by kernel_rfl : opAt F26.o6 13 = some (some 77, .fieldAddr 46 (.tmp 16) 1, none)) rfl rfl (fun w' hS => val_fieldAddr (off := 1) (by kernel_rfl) rfl) ?_
      refine lS (by kernel_rfl : opAt F26.o6 14 = some (some 78, .load 3 (.tmp 77), none)) rfl rfl (fun w' hS => h77.stay hS (by first | decide | (simp <;> omega))) h77 (by kernel_rfl) rfl rfl ?_
      intro v78 g78
      first | (obtain rfl := rv_nat.1 g78) | (obtain rfl := rv_int.1 g78)
      refine yS (by kernel_rfl : opAt F26.o6 15 = some (some 79, .build 53 #[(0, (.tmp 76)), (1, (.tmp 78))], none)) rfl rfl (fun w' hS => val_build (zs := [.int .i64 0, .int .i64 0]) (ps := [(0, 1), (1, 1)]) (qs := [(0, [.int .i64 (l[i]'hil).a]), (1, [.int .i64 (l[i]'hil).b])]) (cs := [.int .i64 (l[i]'hil).a, .int .i64 (l[i]'hil).b]) (by kernel_rfl) (by kernel_rfl) (by exact ⟨rfl, ⟨_, rfl, rfl⟩, rfl, ⟨_, rfl, rfl⟩, trivial⟩) rfl) ?_
      refine yS (by kernel_rfl : opAt F26.o6 18 = some (some 82, .move (.tmp 5), none)) rfl rfl (fun w' hS => val_move rfl) ?_
      have h83 := RA.ew hx
      refine yS (by kernel_rfl : opAt F26.o6 19 = some (some 83, .fieldAddr 46 (.tmp 16) 2, none)) rfl rfl (fun w' hS => val_fieldAddr (off := 2) (by kernel_rfl) rfl) ?_
      refine lS (by kernel_rfl : opAt F26.o6 20 = some (some 84, .load 3 (.tmp 83), none)) rfl rfl (fun w' hS => h83.stay hS (by first | decide | (simp <;> omega))) h83 (by kernel_rfl) rfl rfl ?_
      intro v84 g84
      first | (obtain rfl := rv_nat.1 g84) | (obtain rfl := rv_int.1 g84)
      refine yS (by kernel_rfl : opAt F26.o6 21 = some (some 85, .binOp .add 3 (.tmp 82) (.tmp 84) 3, none)) rfl rfl (fun w' hS => val_addi rfl rfl (by omega) (by omega)) ?_
      refine yS (by kernel_rfl : opAt F26.o6 22 = some (some 86, .move (.tmp 6), none)) rfl rfl (fun w' hS => val_move rfl) ?_
      refine yS (by kernel_rfl : opAt F26.o6 23 = some (some 87, .move (.tmp 7), none)) rfl rfl (fun w' hS => val_move rfl) ?_
      refine aS (by kernel_rfl : opAt F26.o6 16 = some (some 80, .buildSlice 24 1 #[(0, (.tmp 79))], none)) rfl rfl (a_buildSlice (ys := ([(l[i]'hil).k] : List Couple)) (e := 53) (bytes := 16) hF (by kernel_rfl) rfl (by decide) (by decide) ⟨rfl, ⟨_, rfl, rv_couple.2 rfl⟩, trivial⟩) ?_
      rintro v80 w11 ⟨hs, g80, hF⟩
      refine ⟨(hR.trans hs (by simp)).ext, ?_⟩
      replace hT := hT.trans hs (by simp)
      replace he := he.st hs (by first | decide | (simp <;> omega))
      replace hr := hr.st hs (by first | decide | (simp <;> omega)) (by first | decide | (simp <;> omega))
      replace hk := hk.st hs (by first | decide | (simp <;> omega)) (by first | decide | (simp <;> omega))
      replace hc := hc.st hs (by first | decide | (simp <;> omega))
      replace hb := hb.st hs (by first | decide | (simp <;> omega))
      replace hbb := hbb.st hs (by first | decide | (simp <;> omega))
      replace hbm := hbm.st hs (by first | decide | (simp <;> omega))
      replace h35 := h35.st hs (by first | decide | (simp <;> omega))
      replace hx := hx.st hs (by first | decide | (simp <;> omega))
      replace h57 := h57.st hs (by first | decide | (simp <;> omega))
      replace h60 := h60.st hs (by first | decide | (simp <;> omega))
      replace hR := hR.trans hs (by simp)
      replace h74 := h74.st hs (by first | decide | (simp <;> omega))
      replace h75 := h75.st hs (by first | decide | (simp <;> omega))
      replace h77 := h77.st hs (by first | decide | (simp <;> omega))
      replace h83 := h83.st hs (by first | decide | (simp <;> omega))
      refine aS (by kernel_rfl : opAt F26.o6 17 = some (some 81, .call { callee := .builtin .append, args := #[(.tmp 74), (.tmp 80)], argTypes := #[24, 24] }, none)) rfl rfl (a_appendR (j := 7) (e := 53) (bytes := 16) hF (by decide) rfl rfl (by kernel_rfl) (by decide) h74 g80 (by simp) (fun e => by have := hnil e; rw [e74] at this; injection this) (by simp only [List.length_append, List.length_cons, List.length_nil, List.length_take, List.length_drop, List.length_map]; omega) (by simp only [List.length_append, List.length_cons, List.length_nil, List.length_take, List.length_drop, List.length_map]; omega)) ?_
      rintro v81 w12 ⟨Cw12, hs, hn, hF⟩
      refine ⟨(hR.trans hs (by simp)).ext, ?_⟩
      replace hT := hT.trans hs (by simp)
      replace he := he.st hs (by first | decide | (simp <;> omega))
      replace hr := hr.st hs (by first | decide | (simp <;> omega)) (by first | decide | (simp <;> omega))
      replace hk := hk.st hs (by first | decide | (simp <;> omega)) (by first | decide | (simp <;> omega))
      replace hc := hc.st hs (by first | decide | (simp <;> omega))
      replace hb := hb.st hs (by first | decide | (simp <;> omega))
      replace hbb := hbb.st hs (by first | decide | (simp <;> omega))
      replace hbm := hbm.st hs (by first | decide | (simp <;> omega))
      replace h35 := h35.st hs (by first | decide | (simp <;> omega))
      replace hx := hx.st hs (by first | decide | (simp <;> omega))
      replace h57 := h57.st hs (by first | decide | (simp <;> omega))
      replace h60 := h60.st hs (by first | decide | (simp <;> omega))
      replace hR := hR.trans hs (by simp)
      replace h74 := h74.st hs (by first | decide | (simp <;> omega))
      replace h75 := h75.st hs (by first | decide | (simp <;> omega))
      replace h77 := h77.st hs (by first | decide | (simp <;> omega))
      replace h83 := h83.st hs (by first | decide | (simp <;> omega))
      replace g80 := g80.st hs (by first | decide | (simp <;> omega))
      clear h74 g80
      refine Sch.free rfl ?_
      have hnl : (cs ++ [(l[i]'hil).k]).length ≤ i + 1 := (by simp only [List.length_append, List.length_cons, List.length_nil, List.length_take, List.length_drop, List.length_map]; omega)
      have hwp := h55.1
      replace hF := hF.frz 7
      replace hT := hT.frz (n := 7) (fun b => by first | exact colE_lt7 C b | exact frz_lt (by decide) _ b)
      replace he := he.frz 7
      replace hr := hr.frzK (n := 7) (by decide)
      replace hk := hk.frzK (n := 7) (by decide)
      replace hc := hc.frz 7
      replace hb := hb.frz 7
      replace hbb := hbb.frz (n := 7) (by decide)
      replace hbm := hbm.frz (n := 7) (by decide)
      replace h35 := h35.frz 7
      replace hx := hx.frz 7
      replace h57 := h57.frz 7
      replace h60 := h60.frz 7
      replace h75 := h75.frz 7
      replace h77 := h77.frz 7
      replace h83 := h83.frz 7
      have hn_ := hn.frz (n := 7) (by decide) (by omega)
      replace hn := hn_
      clear hn_
      refine cS (by kernel_rfl : opAt F26.o6 24 = some (some 88, .call { callee := .value (.func 26), args := #[(.tmp 64), (.tmp 66), (.tmp 67), (.tmp 68), (.tmp 81), (.tmp 85), (.tmp 86), (.tmp 87)], argTypes := #[23, 3, 48, 48, 24, 3, 49, 50] }, none)) rfl rfl (ent Try.call26 rfl) (IH _ _ _ _ _ _ _ _ _ _ (by omega) hF he hr hk hn hb hbb hbm (by omega) hnl (fun e => by simp at e) hR1l hK1l (by omega) (by omega)) ?_
      rintro vw13 w13 ⟨B1, vb1, hB1, rfl, hs, hr, hk, hb, hbb, hbm⟩
      refine ⟨trivial, ?_⟩
      replace hF := hF.st hs
      replace hT := hT.trans hs (by simp)
      replace he := he.st hs (by first | decide | (simp <;> omega))
      replace hc := hc.st hs (by first | decide | (simp <;> omega))
      replace h35 := h35.st hs (by first | decide | (simp <;> omega))
      replace hx := hx.st hs (by first | decide | (simp <;> omega))
      replace h57 := h57.st hs (by first | decide | (simp <;> omega))
      replace h60 := h60.st hs (by first | decide | (simp <;> omega))
      replace h75 := h75.st hs (by first | decide | (simp <;> omega))
      replace h77 := h77.st hs (by first | decide | (simp <;> omega))
      replace h83 := h83.st hs (by first | decide | (simp <;> omega))
      replace hn := hn.st hs (by first | decide | (simp <;> omega))
      refine Sch.nil ?_
      refine run_draw (id := 7) (ops := F26.o7) [3, 4] (K.frz 7 Cw12) [(0, true), (1, true), (2, true), (3, true), (4, true), (5, true), (6, true), (7, false), (8, true), (9, false)] Try_mixed (by kernel_rfl) (by kernel_rfl) (by kernel_rfl) ?_
      intro w14 hs
      replace hF := hF.st hs
      replace hT := hT.trans hs (by simp)
      replace he := he.st hs (by first | decide | (simp <;> omega))
      replace hr := hr.st hs (by first | decide | (simp <;> omega)) (by first | decide | (simp <;> omega))
      replace hk := hk.st hs (by first | decide | (simp <;> omega)) (by first | decide | (simp <;> omega))
      replace hc := hc.st hs (by first | decide | (simp <;> omega))
      replace hb := hb.st hs (by first | decide | (simp <;> omega))
      replace hbb := hbb.st hs (by first | decide | (simp <;> omega))
      replace hbm := hbm.st hs (by first | decide | (simp <;> omega))
      replace h35 := h35.st hs (by first | decide | (simp <;> omega))
      replace hx := hx.st hs (by first | decide | (simp <;> omega))
      replace h57 := h57.st hs (by first | decide | (simp <;> omega))
      replace h60 := h60.st hs (by first | decide | (simp <;> omega))
      replace h75 := h75.st hs (by first | decide | (simp <;> omega))
      replace h77 := h77.st hs (by first | decide | (simp <;> omega))
      replace h83 := h83.st hs (by first | decide | (simp <;> omega))
      replace hn := hn.st hs (by first | decide | (simp <;> omega))
      have hR := Stp.refl [3, 4] w14 (K.frz 7 Cw12)
      refine yS (by kernel_rfl : opAt F26.o7 0 = some (some 89, .move (.tmp 2), none)) rfl rfl (fun w' hS => val_move rfl) ?_
      have h90 := RA.ea hx
      refine yS (by kernel_rfl : opAt F26.o7 1 = some (some 90, .fieldAddr 46 (.tmp 16) 0, none)) rfl rfl (fun w' hS => val_fieldAddr (off := 0) (by kernel_rfl) rfl) ?_
      refine lS (by kernel_rfl : opAt F26.o7 2 = some (some 91, .load 3 (.tmp 90), none)) rfl rfl (fun w' hS => h90.stay hS (by first | decide | (simp <;> omega))) h90 (by kernel_rfl) rfl rfl ?_
      intro v91 g91
      first | (obtain rfl := rv_nat.1 g91) | (obtain rfl := rv_int.1 g91)
      refine yS (by kernel_rfl : opAt F26.o7 3 = some (some 92, .move (.tmp 3), none)) rfl rfl (fun w' hS => val_move rfl) ?_
      have h93 := RA.eb hx
      refine yS (by kernel_rfl : opAt F26.o7 4 = some (some 93, .fieldAddr 46 (.tmp 16) 1, none)) rfl rfl (fun w' hS => val_fieldAddr (off := 1) (by kernel_rfl) rfl) ?_
      refine lS (by kernel_rfl : opAt F26.o7 5 = some (some 94, .load 3 (.tmp 93), none)) rfl rfl (fun w' hS => h93.stay hS (by first | decide | (simp <;> omega))) h93 (by kernel_rfl) rfl rfl ?_
      intro v94 g94
      first | (obtain rfl := rv_nat.1 g94) | (obtain rfl := rv_int.1 g94)
      refine oI (e' := 4) (by kernel_rfl : opAt F26.o7 6 = some (some 95, .indexAddr 48 (.tmp 89) (.tmp 91), none)) rfl rfl hr rfl (by kernel_rfl) rfl (by omega) (by omega) ?_
      intro g95 hg95
      try simp only [Int.toNat_natCast]
      refine aN (by kernel_rfl : opAt F26.o7 7 = some (none, .store 4 (.tmp 95) (.const (.bool false)), none)) rfl (a_storeO hr hg95 (by omega) rfl rfl (by kernel_rfl) (x0 := false) (rv_bool.2 rfl)) ?_
      rintro _ w15 ⟨rfl, hs, hr⟩
      refine ⟨(hR.trans hs (by simp)).ext, ?_⟩
      replace hF := hF.st hs
      replace hT := hT.trans hs (by simp)
      replace he := he.st hs (by first | decide | (simp <;> omega))
      replace hk := hk.st hs (by first | decide | (simp <;> omega)) (by first | decide | (simp <;> omega))
      replace hc := hc.st hs (by first | decide | (simp <;> omega))
      replace hb := hb.st hs (by first | decide | (simp <;> omega))
      replace hbb := hbb.st hs (by first | decide | (simp <;> omega))
      replace hbm := hbm.st hs (by first | decide | (simp <;> omega))
      replace h35 := h35.st hs (by first | decide | (simp <;> omega))
      replace hx := hx.st hs (by first | decide | (simp <;> omega))
      replace h57 := h57.st hs (by first | decide | (simp <;> omega))
      replace h60 := h60.st hs (by first | decide | (simp <;> omega))
      replace h75 := h75.st hs (by first | decide | (simp <;> omega))
      replace h77 := h77.st hs (by first | decide | (simp <;> omega))
      replace h83 := h83.st hs (by first | decide | (simp <;> omega))
      replace hn := hn.st hs (by first | decide | (simp <;> omega))
      replace hR := hR.trans hs (by simp)
      replace h90 := h90.st hs (by first | decide | (simp <;> omega))
      replace h93 := h93.st hs (by first | decide | (simp <;> omega))
      refine oI (e' := 4) (by kernel_rfl : opAt F26.o7 8 = some (some 96, .indexAddr 48 (.tmp 92) (.tmp 94), none)) rfl rfl hk rfl (by kernel_rfl) rfl (by omega) (by omega) ?_
      intro g96 hg96
      try simp only [Int.toNat_natCast]
      refine Sch.free rfl ?_
      refine aN (by kernel_rfl : opAt F26.o7 9 = some (none, .store 4 (.tmp 96) (.const (.bool false)), none)) rfl (a_storeO hk hg96 (by omega) rfl rfl (by kernel_rfl) (x0 := false) (rv_bool.2 rfl)) ?_
      rintro _ w16 ⟨rfl, hs, hk⟩
      refine ⟨trivial, ?_⟩
      replace hF := hF.st hs
      replace hT := hT.trans hs (by simp)
      replace he := he.st hs (by first | decide | (simp <;> omega))
      replace hr := hr.st hs (by first | decide | (simp <;> omega)) (by first | decide | (simp <;> omega))
      replace hc := hc.st hs (by first | decide | (simp <;> omega))
      replace hb := hb.st hs (by first | decide | (simp <;> omega))
      replace hbb := hbb.st hs (by first | decide | (simp <;> omega))
      replace hbm := hbm.st hs (by first | decide | (simp <;> omega))
      replace h35 := h35.st hs (by first | decide | (simp <;> omega))
      replace hx := hx.st hs (by first | decide | (simp <;> omega))
      replace h57 := h57.st hs (by first | decide | (simp <;> omega))
      replace h60 := h60.st hs (by first | decide | (simp <;> omega))
      replace h75 := h75.st hs (by first | decide | (simp <;> omega))
      replace h77 := h77.st hs (by first | decide | (simp <;> omega))
      replace h83 := h83.st hs (by first | decide | (simp <;> omega))
      replace hn := hn.st hs (by first | decide | (simp <;> omega))
      replace h90 := h90.st hs (by first | decide | (simp <;> omega))
      replace h93 := h93.st hs (by first | decide | (simp <;> omega))
      refine Sch.nil ?_
      rw [hR1, set_back h55.2.1] at hr
      rw [hK1, set_back h55.2.2] at hk
      refine run_plain (id := 8) (ops := F26.o8) [(0, true), (1, true), (2, true), (3, true), (4, true), (5, true), (6, true), (7, true), (8, true), (9, false)] (by kernel_rfl) (by kernel_rfl) ?_
      refine yS (by kernel_rfl : opAt F26.o8 0 = some (some 97, .move (.tmp 0), none)) rfl rfl (fun w' hS => val_move rfl) ?_
      refine yS (by kernel_rfl : opAt F26.o8 1 = some (some 98, .move (.tmp 1), none)) rfl rfl (fun w' hS => val_move rfl) ?_
      refine yS (by kernel_rfl : opAt F26.o8 2 = some (some 99, .binOp .add 3 (.tmp 98) (.const (.int .i64 1)) 3, none)) rfl rfl (fun w' hS => val_addi rfl rfl (by omega) (by omega)) ?_
      rw [show (i : Int) + 1 = ((i + 1 : Nat) : Int) from by omega]
      refine yS (by kernel_rfl : opAt F26.o8 3 = some (some 100, .move (.tmp 2), none)) rfl rfl (fun w' hS => val_move rfl) ?_
      refine yS (by kernel_rfl : opAt F26.o8 4 = some (some 101, .move (.tmp 3), none)) rfl rfl (fun w' hS => val_move rfl) ?_
      refine yS (by kernel_rfl : opAt F26.o8 5 = some (some 102, .move (.tmp 4), none)) rfl rfl (fun w' hS => val_move rfl) ?_
      refine yS (by kernel_rfl : opAt F26.o8 6 = some (some 103, .move (.tmp 5), none)) rfl rfl (fun w' hS => val_move rfl) ?_
      refine yS (by kernel_rfl : opAt F26.o8 7 = some (some 104, .move (.tmp 6), none)) rfl rfl (fun w' hS => val_move rfl) ?_
      refine yS (by kernel_rfl : opAt F26.o8 8 = some (some 105, .move (.tmp 7), none)) rfl rfl (fun w' hS => val_move rfl) ?_
      refine cS (by kernel_rfl : opAt F26.o8 9 = some (some 106, .call { callee := .value (.func 26), args := #[(.tmp 97), (.tmp 99), (.tmp 100), (.tmp 101), (.tmp 102), (.tmp 103), (.tmp 104), (.tmp 105)], argTypes := #[23, 3, 48, 48, 24, 3, 49, 50] }, none)) rfl rfl (ent Try.call26 rfl) (IH _ _ _ _ _ _ _ _ _ _ (by omega) hF he hr hk hc hb hbb hbm (by omega) (by omega) hnil hRl hKl (by omega) (by omega)) ?_
      rintro vw17 w17 ⟨B2, vb2, hB2, rfl, hs, hr, hk, hb, hbb, hbm⟩
      refine ⟨trivial, ?_⟩
      replace hF := hF.st hs
      replace hT := hT.trans hs (by simp)
      replace he := he.st hs (by first | decide | (simp <;> omega))
      replace hc := hc.st hs (by first | decide | (simp <;> omega))
      replace h35 := h35.st hs (by first | decide | (simp <;> omega))
      replace hx := hx.st hs (by first | decide | (simp <;> omega))
      replace h57 := h57.st hs (by first | decide | (simp <;> omega))
      replace h60 := h60.st hs (by first | decide | (simp <;> omega))
      replace h75 := h75.st hs (by first | decide | (simp <;> omega))
      replace h77 := h77.st hs (by first | decide | (simp <;> omega))
      replace h83 := h83.st hs (by first | decide | (simp <;> omega))
      replace hn := hn.st hs (by first | decide | (simp <;> omega))
      replace h90 := h90.st hs (by first | decide | (simp <;> omega))
      replace h93 := h93.st hs (by first | decide | (simp <;> omega))
      refine Sch.nil ?_
      refine run_end0 Try.func26 rfl ?_
      refine ⟨B2, _, ?_, rfl, hT.outE, hr.back hr0 hT hF0, hk.back hk0 hT hF0, (hb.out hT hF0 (Mc_colE C)), hbb.back hbb0, hbm.back hbm0⟩
      rw [hdr]; unfold evS; rw [hB2]; congr 1
      rw [if_pos h55, hB1, hR1, hK1]
    · skip
      refine run_skip (by kernel_rfl) ?_
      refine run_plain (id := 8) (ops := F26.o8) [(0, true), (1, true), (2, true), (3, true), (4, true), (5, true), (6, true), (7, true), (8, true), (9, false)] (by kernel_rfl) (by kernel_rfl) ?_
      refine yS (by kernel_rfl : opAt F26.o8 0 = some (some 97, .move (.tmp 0), none)) rfl rfl (fun w' hS => val_move rfl) ?_
      refine yS (by kernel_rfl : opAt F26.o8 1 = some (some 98, .move (.tmp 1), none)) rfl rfl (fun w' hS => val_move rfl) ?_
      refine yS (by kernel_rfl : opAt F26.o8 2 = some (some 99, .binOp .add 3 (.tmp 98) (.const (.int .i64 1)) 3, none)) rfl rfl (fun w' hS => val_addi rfl rfl (by omega) (by omega)) ?_
      rw [show (i : Int) + 1 = ((i + 1 : Nat) : Int) from by omega]
      refine yS (by kernel_rfl : opAt F26.o8 3 = some (some 100, .move (.tmp 2), none)) rfl rfl (fun w' hS => val_move rfl) ?_
      refine yS (by kernel_rfl : opAt F26.o8 4 = some (some 101, .move (.tmp 3), none)) rfl rfl (fun w' hS => val_move rfl) ?_
      refine yS (by kernel_rfl : opAt F26.o8 5 = some (some 102, .move (.tmp 4), none)) rfl rfl (fun w' hS => val_move rfl) ?_
      refine yS (by kernel_rfl : opAt F26.o8 6 = some (some 103, .move (.tmp 5), none)) rfl rfl (fun w' hS => val_move rfl) ?_
      refine yS (by kernel_rfl : opAt F26.o8 7 = some (some 104, .move (.tmp 6), none)) rfl rfl (fun w' hS => val_move rfl) ?_
      refine yS (by kernel_rfl : opAt F26.o8 8 = some (some 105, .move (.tmp 7), none)) rfl rfl (fun w' hS => val_move rfl) ?_
      refine cS (by kernel_rfl : opAt F26.o8 9 = some (some 106, .call { callee := .value (.func 26), args := #[(.tmp 97), (.tmp 99), (.tmp 100), (.tmp 101), (.tmp 102), (.tmp 103), (.tmp 104), (.tmp 105)], argTypes := #[23, 3, 48, 48, 24, 3, 49, 50] }, none)) rfl rfl (ent Try.call26 rfl) (IH _ _ _ _ _ _ _ _ _ _ (by omega) hF he hr hk hc hb hbb hbm (by omega) (by omega) hnil hRl hKl (by omega) (by omega)) ?_
      rintro vw18 w18 ⟨B2, vb2, hB2, rfl, hs, hr, hk, hb, hbb, hbm⟩
      refine ⟨trivial, ?_⟩
      replace hF := hF.st hs
      replace hT := hT.trans hs (by simp)
      replace he := he.st hs (by first | decide | (simp <;> omega))
      replace hc := hc.st hs (by first | decide | (simp <;> omega))
      replace h35 := h35.st hs (by first | decide | (simp <;> omega))
      replace hx := hx.st hs (by first | decide | (simp <;> omega))
      refine Sch.nil ?_
      refine run_end0 Try.func26 rfl ?_
      refine ⟨B2, _, ?_, rfl, hT.outE, hr.back hr0 hT hF0, hk.back hk0 hT hF0, (hb.out hT hF0 (Mc_colE C)), hbb.back hbb0, hbm.back hbm0⟩
      rw [hdr]; unfold evS; rw [hB2]; congr 1
      rw [if_neg h55]
theorem every_all {N M : Nat} {l : List K.Edge} {vl vr vk : Value} {bb bm : Nat} (hV : VE N M l) (d : Nat) : ∀ (w₀ : World) (C : Nat → Nat) (i : Nat) (R Kl : List Bool) (cs : List Couple) (t : Int) (b : List Couple × Int) (vc vb : Value), l.length - i < d → Lim w₀ C → RV w₀ (Mc C) l vl → OwnL w₀ C 3 4 vr R → OwnL w₀ C 4 4 vk Kl → RV w₀ (Mc C) cs vc → RV w₀ (Mc C) b.1 vb → OwnB w₀ C 5 bb (.cells [vb].toArray 24) → OwnB w₀ C 6 bm (.cells [.int .i64 b.2].toArray 3) → i ≤ l.length → cs.length ≤ i → (cs = [] → vc = .slice none 0 0) → R.length = N → Kl.length = M → 0 ≤ t → t ≤ 65536 * i → Calls Try.prog 26 #[vl, .int .i64 i, vr, vk, vc, .int .i64 t, .pointer (some ⟨bb, 0, none⟩), .pointer (some ⟨bm, 0, none⟩)] w₀ (Ret fun v w' => ∃ (B : List Couple × Int) (vb' : Value), B = evS (l.drop i) R Kl cs t b ∧ v = .tuple #[] ∧ Stp [3, 4, 5, 6] w₀ C w' C ∧ OwnL w' C 3 4 vr R ∧ OwnL w' C 4 4 vk Kl ∧ RV w' (Mc C) B.1 vb' ∧ OwnB w' C 5 bb (.cells [vb'].toArray 24) ∧ OwnB w' C 6 bm (.cells [.int .i64 B.2].toArray 3)) := by
  induction d with
  | zero => intro w₀ C i R Kl cs t b vc vb h; omega
  | succ d ih => intro w₀ C i R Kl cs t b vc vb h hF he hr hk hc hb hbb hbm hi hcl hnil hRl hKl ht0 ht1; exact every_step hV ih (by omega) hF he hr hk hc hb hbb hbm hi hcl hnil hRl hKl ht0 ht1
/-- 'every'. -/
theorem every_ok {N M : Nat} {l : List K.Edge} {vl vr vk : Value} {bb bm : Nat} {w₀ : World} {C : Nat → Nat} {i : Nat} {R Kl : List Bool} {cs : List Couple} {t : Int} {b : List Couple × Int} {vc vb : Value} (hV : VE N M l) (hF : Lim w₀ C) (he : RV w₀ (Mc C) l vl) (hr : OwnL w₀ C 3 4 vr R) (hk : OwnL w₀ C 4 4 vk Kl) (hc : RV w₀ (Mc C) cs vc) (hb : RV w₀ (Mc C) b.1 vb) (hbb : OwnB w₀ C 5 bb (.cells [vb].toArray 24)) (hbm : OwnB w₀ C 6 bm (.cells [.int .i64 b.2].toArray 3)) (hi : i ≤ l.length) (hcl : cs.length ≤ i) (hnil : cs = [] → vc = .slice none 0 0) (hRl : R.length = N) (hKl : Kl.length = M) (ht0 : 0 ≤ t) (ht1 : t ≤ 65536 * i) : Calls Try.prog 26 #[vl, .int .i64 i, vr, vk, vc, .int .i64 t, .pointer (some ⟨bb, 0, none⟩), .pointer (some ⟨bm, 0, none⟩)] w₀ (Ret fun v w' => ∃ (B : List Couple × Int) (vb' : Value), B = evS (l.drop i) R Kl cs t b ∧ v = .tuple #[] ∧ Stp [3, 4, 5, 6] w₀ C w' C ∧ OwnL w' C 3 4 vr R ∧ OwnL w' C 4 4 vk Kl ∧ RV w' (Mc C) B.1 vb' ∧ OwnB w' C 5 bb (.cells [vb'].toArray 24) ∧ OwnB w' C 6 bm (.cells [.int .i64 B.2].toArray 3)) :=
  every_all hV _ w₀ C i R Kl cs t b vc vb (Nat.lt_succ_self _) hF he hr hk hc hb hbb hbm hi hcl hnil hRl hKl ht0 ht1
end Go.Proofs.Ytgooehopkmbkfaa
