/- Steps through functions of the program. -/
import Derived.Test.YtfmdkdfhnkennaaKC4
set_option linter.unusedVariables false
set_option linter.unusedSimpArgs false
set_option maxRecDepth 100000
set_option maxHeartbeats 400000
namespace Go.Proofs.Ytfmdkdfhnkennaa
open Go.K Go.K.Rep

namespace F39
noncomputable def c0 : Code := bodyOf Try.f39
noncomputable def c1 : Code := cl c0
noncomputable def o0 : Array Oper := rops c1
noncomputable def c2 : Code := cr c0
noncomputable def c3 : Code := cl c2
noncomputable def c4 : Code := cl c3
noncomputable def c5 : Code := cl c4
noncomputable def c6 : Code := cl c5
noncomputable def c7 : Code := cl c6
noncomputable def o1 : Array Oper := rops c7
noncomputable def c8 : Code := cr c6
noncomputable def c9 : Code := cl c8
noncomputable def c10 : Code := cr c8
noncomputable def c11 : Code := cr c5
noncomputable def c12 : Code := cl c11
noncomputable def c13 : Code := cl c12
noncomputable def o2 : Array Oper := rops c13
noncomputable def c14 : Code := cr c12
noncomputable def o3 : Array Oper := rops c14
noncomputable def c15 : Code := cr c2
noncomputable def c16 : Code := cl c15
noncomputable def o4 : Array Oper := rops c16
noncomputable def c17 : Code := cr c15
end F39
/-- 'root'. -/
theorem root_ok {w₀ : World} {C : Nat → Nat} {i b : Nat} {u₀ : List (Couple × Couple)} {ρ : Couple → Couple} {d : Couple → Nat} {r : Couple} (hF : Lim w₀ C) (hi : i ≠ 0) (hm : OwnM w₀ C i b kvC kvC u₀) (hf : Frst u₀ ρ d) (hr : ∃ v, mget u₀ r = some v) :
    Calls Try.prog 39 #[.map (some b), .agg #[.int .i64 r.a, .int .i64 r.b]] w₀ (Ret fun v w' => v = .agg (encR (ρ r)).toArray ∧ Stp [i] w₀ C w' C ∧ ∃ u, OwnM w' C i b kvC kvC u ∧ Frst u ρ d ∧ mget u (ρ r) = some (ρ r) ∧ (∀ s, (∃ v, mget u₀ s = some v) → ∃ v, mget u s = some v) ∧ ∀ s, mget u₀ s = some s → mget u s = some s) := by
  have hF0 := hF
  have hbc := hm.1
  replace hm := hm.col2 hi
  have hT := Stp.refl [2, 3, 4, 5, 6, 7, 8, 9] w₀ (col2 C i)
  replace hF := hF.col2 i
  refine calls_start (c := F39.c0) (N := 21) [.map (some b), .agg #[.int .i64 r.a, .int .i64 r.b]] Try.func39 (by kernel_rfl) (by kernel_rfl) (by kernel_rfl) ?_
  show Run _ _ _ _ [(0, .map (some b)), (1, .agg #[.int .i64 r.a, .int .i64 r.b])] _ _
  refine run_seq (x := F39.c1) (y := F39.c2) (by kernel_rfl) ?_
  refine run_plain (id := 0) (ops := F39.o0) [(0, false), (1, false)] (by kernel_rfl) (by kernel_rfl) ?_
  refine aS (by kernel_rfl : opAt F39.o0 0 = some (some 3, .box 25 (.tmp 1), none)) rfl rfl (a_box (cs := encR r) hF 3 rfl rfl) ?_
  rintro _ w1 ⟨Cw1, bw1, rfl, hs, hx, hF⟩
  refine ⟨trivial, ?_⟩
  replace hT := hT.trans hs (by simp)
  replace hm := hm.st hs (by first | decide | (simp <;> omega))
  refine aS (by kernel_rfl : opAt F39.o0 1 = some (some 4, .alloc 25, none)) rfl rfl (a_alloc (cs := [.int .i64 0, .int .i64 0]) hF 4 (by kernel_rfl)) ?_
  rintro _ w2 ⟨Cw2, bw2, rfl, hs, hy, hF⟩
  refine ⟨trivial, ?_⟩
  replace hT := hT.trans hs (by simp)
  replace hm := hm.st hs (by first | decide | (simp <;> omega))
  replace hx := hx.st hs (by first | decide | (simp <;> omega))
  refine Sch.nil ?_
  refine run_seq (x := F39.c3) (y := F39.c15) (by kernel_rfl) ?_
  refine run_block (x := F39.c4) (id := 0) (by kernel_rfl) ?_
  
  refine run_loop (ι := Couple × (List (Couple × Couple)) × (Nat → Nat)) (I := fun x w => Frst x.2.1 ρ d ∧ (∃ v, mget x.2.1 x.1 = some v) ∧ ρ x.1 = ρ r ∧ (∀ s, (∃ v, mget u₀ s = some v) → ∃ v, mget x.2.1 s = some v) ∧ (∀ s, mget u₀ s = some s → mget x.2.1 s = some s) ∧ Lim w x.2.2 ∧ Stp [2, 3, 4, 5, 6, 7, 8, 9] w₀ (col2 C i) w x.2.2 ∧ OwnB w x.2.2 3 bw1 (.cells (encR x.1).toArray 25) ∧ OwnB w x.2.2 4 bw2 (.cells [.int .i64 0, .int .i64 0].toArray 25) ∧ OwnM w x.2.2 2 b kvC kvC x.2.1) (e := fun x => [(0, .map (some b)), (3, .pointer (some ⟨bw1, 0, none⟩)), (4, .pointer (some ⟨bw2, 0, none⟩))]) (m := fun x => d x.1) (x₀ := (r, u₀, Cw2)) (body := F39.c5) (by kernel_rfl) (sub_cons 0 rfl rfl (sub_cons 3 rfl rfl (sub_cons 4 rfl rfl (sub_nil _)))) ?_ ?_
  · exact ⟨hf, hr, rfl, fun s h => h, fun s h => h, hF, hT, hx, hy, hm⟩
  intro ⟨c, u, C1⟩ w3 hI next
  obtain ⟨hf, hc, hρ, hdom, hfx, hF, hT, hx, hy, hm⟩ := hI
  try simp only at hf hc hρ hdom hfx hF hT hx hy hm
  have next1 := next
  clear next
  show Run _ _ _ _ [(0, .map (some b)), (3, .pointer (some ⟨bw1, 0, none⟩)), (4, .pointer (some ⟨bw2, 0, none⟩))] _ _
  obtain ⟨v, hv⟩ := hc
  obtain ⟨⟨v2, hv2⟩, hρv, hdv, hsf⟩ := hf c v hv
  refine run_seq (x := F39.c6) (y := F39.c11) (by kernel_rfl) ?_
  refine run_seq (x := F39.c7) (y := F39.c8) (by kernel_rfl) ?_
  refine run_draw (id := 1) (ops := F39.o1) [] (C1) [(0, true), (1, true), (2, true), (3, true), (4, true)] Try_mixed (by kernel_rfl) (by kernel_rfl) (by kernel_rfl) ?_
  intro w4 hs
  replace hF := hF.st hs
  replace hT := hT.trans hs (by simp)
  replace hx := hx.st hs (by first | decide | (simp <;> omega))
  replace hy := hy.st hs (by first | decide | (simp <;> omega))
  replace hm := hm.st hs (by first | decide | (simp <;> omega))
  refine yS (by kernel_rfl : opAt F39.o1 0 = some (some 5, .move (.tmp 0), none)) rfl rfl (fun w' hS => val_move rfl) ?_
  refine yS (by kernel_rfl : opAt F39.o1 1 = some (some 6, .load 25 (.tmp 3), none)) rfl rfl (fun w' hS => val_loadOwnAgg (n := 2) (vs := encR c) (hx.stay hS (by decide)) (by kernel_rfl) (by kernel_rfl) rfl rfl rfl) ?_
  refine yS (by kernel_rfl : opAt F39.o1 2 = some (some 7, .lookup 67 (.tmp 5) (.tmp 6) false, none)) rfl rfl (fun w' hS => val_is ((hm.stay hS (by decide)).lookup (z0 := (⟨0, 0⟩ : Couple)) Try.underlying67 (keyOK_couple Try.underlying25 (by decide) (by decide) (by kernel_rfl) Try.underlying3) Try.zeroValue25 rfl rfl) (show _ = kvC v from by rw [hv]; rfl)) ?_
  refine yS (by kernel_rfl : opAt F39.o1 3 = some (some 8, .load 25 (.tmp 3), none)) rfl rfl (fun w' hS => val_loadOwnAgg (n := 2) (vs := encR c) (hx.stay hS (by decide)) (by kernel_rfl) (by kernel_rfl) rfl rfl rfl) ?_
  refine yS (by kernel_rfl : opAt F39.o1 4 = some (some 9, .binOp .neq 25 (.tmp 7) (.tmp 8) 25, none)) rfl rfl (fun w' hS => val_neC (a := v) (b := c) Try.underlying25 (by decide) (by decide) (by kernel_rfl) Try.underlying3 rfl rfl) ?_
  refine Sch.nil ?_
  refine run_if (x := F39.c9) (y := F39.c10) (o := .tmp 9) (by kernel_rfl) rfl (fun h9 => ?_) (fun h9 => ?_)
  · skip
    refine run_skip (by kernel_rfl) ?_
    refine run_block (x := F39.c12) (id := 1) (by kernel_rfl) ?_
    refine run_seq (x := F39.c13) (y := F39.c14) (by kernel_rfl) ?_
    refine run_draw (id := 2) (ops := F39.o2) [] (C1) [(0, true), (1, true), (2, true), (3, true), (4, true), (5, true), (6, true), (7, false)] Try_mixed (by kernel_rfl) (by kernel_rfl) (by kernel_rfl) ?_
    intro w5 hs
    replace hF := hF.st hs
    replace hT := hT.trans hs (by simp)
    replace hx := hx.st hs (by first | decide | (simp <;> omega))
    replace hy := hy.st hs (by first | decide | (simp <;> omega))
    replace hm := hm.st hs (by first | decide | (simp <;> omega))
    have hR := Stp.refl [] w5 (C1)
    refine yS (by kernel_rfl : opAt F39.o2 0 = some (some 10, .move (.tmp 0), none)) rfl rfl (fun w' hS => val_move rfl) ?_
    refine yS (by kernel_rfl : opAt F39.o2 1 = some (some 11, .load 25 (.tmp 3), none)) rfl rfl (fun w' hS => val_loadOwnAgg (n := 2) (vs := encR c) (hx.stay hS (by decide)) (by kernel_rfl) (by kernel_rfl) rfl rfl rfl) ?_
    refine yS (by kernel_rfl : opAt F39.o2 2 = some (some 12, .move (.tmp 0), none)) rfl rfl (fun w' hS => val_move rfl) ?_
    refine yS (by kernel_rfl : opAt F39.o2 3 = some (some 13, .move (.tmp 0), none)) rfl rfl (fun w' hS => val_move rfl) ?_
    refine yS (by kernel_rfl : opAt F39.o2 4 = some (some 14, .load 25 (.tmp 3), none)) rfl rfl (fun w' hS => val_loadOwnAgg (n := 2) (vs := encR c) (hx.stay hS (by decide)) (by kernel_rfl) (by kernel_rfl) rfl rfl rfl) ?_
    refine yS (by kernel_rfl : opAt F39.o2 5 = some (some 15, .lookup 67 (.tmp 13) (.tmp 14) false, none)) rfl rfl (fun w' hS => val_is ((hm.stay hS (by decide)).lookup (z0 := (⟨0, 0⟩ : Couple)) Try.underlying67 (keyOK_couple Try.underlying25 (by decide) (by decide) (by kernel_rfl) Try.underlying3) Try.zeroValue25 rfl rfl) (show _ = kvC v from by rw [hv]; rfl)) ?_
    refine yS (by kernel_rfl : opAt F39.o2 6 = some (some 16, .lookup 67 (.tmp 12) (.tmp 15) false, none)) rfl rfl (fun w' hS => val_is ((hm.stay hS (by decide)).lookup (z0 := (⟨0, 0⟩ : Couple)) Try.underlying67 (keyOK_couple Try.underlying25 (by decide) (by decide) (by kernel_rfl) Try.underlying3) Try.zeroValue25 rfl rfl) (show _ = kvC v2 from by rw [hv2]; rfl)) ?_
    refine Sch.free rfl ?_
    refine aN (by kernel_rfl : opAt F39.o2 7 = some (none, .mapUpdate 67 (.tmp 10) (.tmp 11) (.tmp 16), none)) rfl (a_mapUpdate (k := c) (u := v2) hm Try.underlying67 (keyOK_couple Try.underlying25 (by decide) (by decide) (by kernel_rfl) Try.underlying3) rfl rfl rfl) ?_
    rintro _ w6 ⟨rfl, hs, hm⟩
    refine ⟨trivial, ?_⟩
    replace hF := hF.st hs
    replace hT := hT.trans hs (by simp)
    replace hx := hx.st hs (by first | decide | (simp <;> omega))
    replace hy := hy.st hs (by first | decide | (simp <;> omega))
    refine Sch.nil ?_
    refine run_plain (id := 3) (ops := F39.o3) [(0, true), (1, false), (2, false), (3, false)] (by kernel_rfl) (by kernel_rfl) ?_
    refine yS (by kernel_rfl : opAt F39.o3 0 = some (some 17, .move (.tmp 0), none)) rfl rfl (fun w' hS => val_move rfl) ?_
    refine nS (by kernel_rfl : opAt F39.o3 1 = some (some 18, .load 25 (.tmp 3), none)) rfl rfl trivial (val_loadOwnAgg (n := 2) (vs := encR c) hx.at_ (by kernel_rfl) (by kernel_rfl) rfl rfl rfl) ?_
    refine nS (by kernel_rfl : opAt F39.o3 2 = some (some 19, .lookup 67 (.tmp 17) (.tmp 18) false, none)) rfl rfl trivial (val_is (hm.lookup (z0 := (⟨0, 0⟩ : Couple)) Try.underlying67 (keyOK_couple Try.underlying25 (by decide) (by decide) (by kernel_rfl) Try.underlying3) Try.zeroValue25 rfl rfl) (show _ = kvC v2 from by rw [mget_mput, if_pos rfl]; rfl)) ?_
    refine aN (by kernel_rfl : opAt F39.o3 3 = some (none, .store 25 (.tmp 3) (.tmp 19), none)) rfl (a_storeAll (vs := encR v2) (n := 2) rfl rfl (by kernel_rfl) rfl rfl (by intro u hu; simp only [encR, List.mem_cons, List.not_mem_nil, or_false] at hu; rcases hu with rfl | rfl <;> rfl) hx rfl) ?_
    rintro _ w7 ⟨rfl, hs, hx⟩
    refine ⟨trivial, ?_⟩
    replace hF := hF.st hs
    replace hT := hT.trans hs (by simp)
    replace hy := hy.st hs (by first | decide | (simp <;> omega))
    replace hm := hm.st hs (by first | decide | (simp <;> omega))
    refine Sch.nil ?_
    refine run_inBlock ?_
    refine kp (sub_cons 0 rfl rfl (sub_cons 3 rfl rfl (sub_cons 4 rfl rfl (sub_nil _)))) (next1 (v2, mput u c v2, C1) _ ⟨(hf.halve hv hv2 h9), (by
        obtain ⟨⟨v3, hv3⟩, _⟩ := hf v v2 hv2
        rw [mget_mput]; split
        · exact ⟨_, rfl⟩
        · exact ⟨v3, hv3⟩), ((hf v v2 hv2).2.1.trans (hρv.trans hρ)), (fun s hs => by
        obtain ⟨x, hx⟩ := hdom s hs
        rw [mget_mput]; split
        · exact ⟨_, rfl⟩
        · exact ⟨x, hx⟩), (fun s hs => by
        rw [mget_mput, if_neg]
        · exact hfx s hs
        · intro e; subst e; have := hfx _ hs; rw [hv] at this; exact h9 (Option.some.inj this)), hF, hT, hx, hy, hm⟩ (by
        simp only
        have a1 := hdv h9
        by_cases e : v2 = v
        · rw [e]; exact a1
        · have := (hf v v2 hv2).2.2.1 e; omega))
  · skip
    obtain rfl : v = c := Classical.not_not.1 h9
    have hfix : ρ r = v := by rw [← hρ]; exact hf.idem hv
    refine run_exit (id := 0) (by kernel_rfl) rfl ?_
    refine run_seq (x := F39.c16) (y := F39.c17) (by kernel_rfl) ?_
    refine run_plain (id := 4) (ops := F39.o4) [(0, false), (1, false)] (by kernel_rfl) (by kernel_rfl) ?_
    refine nS (by kernel_rfl : opAt F39.o4 0 = some (some 20, .load 25 (.tmp 3), none)) rfl rfl trivial (val_loadOwnAgg (n := 2) (vs := encR v) hx.at_ (by kernel_rfl) (by kernel_rfl) rfl rfl rfl) ?_
    refine aN (by kernel_rfl : opAt F39.o4 1 = some (none, .store 25 (.tmp 4) (.tmp 20), none)) rfl (a_storeAll (vs := encR v) (n := 2) rfl rfl (by kernel_rfl) rfl rfl (by intro u hu; simp only [encR, List.mem_cons, List.not_mem_nil, or_false] at hu; rcases hu with rfl | rfl <;> rfl) hy rfl) ?_
    rintro _ w8 ⟨rfl, hs, hy⟩
    refine ⟨trivial, ?_⟩
    replace hF := hF.st hs
    replace hT := hT.trans hs (by simp)
    replace hx := hx.st hs (by first | decide | (simp <;> omega))
    replace hm := hm.st hs (by first | decide | (simp <;> omega))
    refine Sch.nil ?_
    refine run_retC1 (by kernel_rfl) Try.func39 Try.results39 rfl hy.at_ (by kernel_rfl) (by kernel_rfl) rfl ?_
    exact ⟨by rw [hfix], hT.out2 (by decide), u, hm.outM hbc, hf, by rw [hfix]; exact hv, hdom, hfx⟩
namespace F38
noncomputable def c0 : Code := bodyOf Try.f38
noncomputable def c1 : Code := cl c0
noncomputable def o0 : Array Oper := rops c1
noncomputable def c2 : Code := cr c0
noncomputable def c3 : Code := cl c2
noncomputable def o1 : Array Oper := rops c3
noncomputable def c4 : Code := cr c2
noncomputable def c5 : Code := cl c4
noncomputable def c6 : Code := cl c5
noncomputable def o2 : Array Oper := rops c6
noncomputable def c7 : Code := cr c5
noncomputable def c8 : Code := cl c7
noncomputable def c9 : Code := cl c8
noncomputable def c10 : Code := cl c9
noncomputable def o3 : Array Oper := rops c10
noncomputable def c11 : Code := cr c9
noncomputable def c12 : Code := cl c11
noncomputable def c13 : Code := cl c12
noncomputable def c14 : Code := cr c12
noncomputable def c15 : Code := cr c11
noncomputable def c16 : Code := cl c15
noncomputable def c17 : Code := cl c16
noncomputable def c18 : Code := cl c17
noncomputable def o4 : Array Oper := rops c18
noncomputable def c19 : Code := cr c17
noncomputable def o5 : Array Oper := rops c19
noncomputable def c20 : Code := cr c15
noncomputable def o6 : Array Oper := rops c20
noncomputable def c21 : Code := cr c4
noncomputable def c22 : Code := cl c21
noncomputable def c23 : Code := cl c22
noncomputable def o7 : Array Oper := rops c23
noncomputable def c24 : Code := cr c22
noncomputable def c25 : Code := cl c24
noncomputable def c26 : Code := cl c25
noncomputable def c27 : Code := cl c26
noncomputable def o8 : Array Oper := rops c27
noncomputable def c28 : Code := cr c26
noncomputable def c29 : Code := cl c28
noncomputable def c30 : Code := cl c29
noncomputable def c31 : Code := cr c29
noncomputable def c32 : Code := cr c28
noncomputable def c33 : Code := cl c32
noncomputable def c34 : Code := cl c33
noncomputable def c35 : Code := cl c34
noncomputable def o9 : Array Oper := rops c35
noncomputable def c36 : Code := cr c34
noncomputable def o10 : Array Oper := rops c36
noncomputable def c37 : Code := cr c32
noncomputable def o11 : Array Oper := rops c37
noncomputable def c38 : Code := cr c21
noncomputable def c39 : Code := cl c38
noncomputable def o12 : Array Oper := rops c39
noncomputable def c40 : Code := cr c38
end F38
/-- 'grown'. -/
theorem grown_ok {w₀ : World} {C : Nat → Nat} {l : List Bond} {vl : Value} (hF : Lim w₀ C) (hl : RV w₀ (Mc C) l vl) (hlen : l.length ≤ 100000) (j : Nat) (hj : j ≠ 0) :
    Calls Try.prog 38 #[vl] w₀ (Ret fun v w' => ∃ C' b u d, v = .map (some b) ∧ Stp [] w₀ C w' C' ∧ Lim w' C' ∧ OwnM w' C' j b kvC kvC u ∧ Frst u (rhoS l) d ∧ Dom u (refsS l)) := by
  have hF0 := hF
  have hT := Stp.refl [2, 3, 4, 5, 6, 7, 8, 9] w₀ (col1 C)
  replace hF := hF.col1
  replace hl : RV w₀ (Mc (col1 C)) l vl := by rw [Mc_col1]; exact hl
  refine calls_start (c := F38.c0) (N := 37) [vl] Try.func38 (by kernel_rfl) (by kernel_rfl) (by kernel_rfl) ?_
  show Run _ _ _ _ [(0, vl)] _ _
  refine run_seq (x := F38.c1) (y := F38.c2) (by kernel_rfl) ?_
  refine run_plain (id := 0) (ops := F38.o0) [(0, true)] (by kernel_rfl) (by kernel_rfl) ?_
  refine yS (by kernel_rfl : opAt F38.o0 0 = some (some 2, .assign (.const (.map none)), none)) rfl rfl (fun w' hS => val_assign rfl) ?_
  refine Sch.nil ?_
  refine run_seq (x := F38.c3) (y := F38.c4) (by kernel_rfl) ?_
  refine run_plain (id := 1) (ops := F38.o1) [(0, false), (1, true)] (by kernel_rfl) (by kernel_rfl) ?_
  refine aS (by kernel_rfl : opAt F38.o1 0 = some (some 8, .makeMap 67 none, none)) rfl rfl (a_makeMap hF 3 kvC kvC) ?_
  rintro _ wm ⟨Cm, bm, rfl, hs, hm, hF⟩
  refine ⟨trivial, ?_⟩
  replace hT := hT.trans hs (by simp)
  replace hl := hl.st hs (by first | decide | (simp <;> omega))
  refine yS (by kernel_rfl : opAt F38.o1 1 = some (some 3, .assign (.tmp 8), none)) rfl rfl (fun w' hS => val_assign rfl) ?_
  refine Sch.nil ?_
  refine run_seq (x := F38.c5) (y := F38.c21) (by kernel_rfl) ?_
  refine run_seq (x := F38.c6) (y := F38.c7) (by kernel_rfl) ?_
  refine run_plain (id := 2) (ops := F38.o2) [(0, true), (1, false), (2, true), (3, true)] (by kernel_rfl) (by kernel_rfl) ?_
  refine yS (by kernel_rfl : opAt F38.o2 0 = some (some 9, .move (.tmp 0), none)) rfl rfl (fun w' hS => val_move rfl) ?_
  refine cS (by kernel_rfl : opAt F38.o2 1 = some (some 10, .call { callee := .value (.func 17), args := #[(.tmp 9)], argTypes := #[23] }, none)) rfl rfl (ent Try.call17 rfl) (refs_ok hF hl hlen) ?_
  rintro vR w1 ⟨hs, hrs⟩
  refine ⟨trivial, ?_⟩
  replace hF := hF.st hs
  replace hT := hT.trans hs (by simp)
  replace hl := hl.st hs (by first | decide | (simp <;> omega))
  replace hm := hm.st hs (by first | decide | (simp <;> omega))
  refine yS (by kernel_rfl : opAt F38.o2 2 = some (some 11, .call { callee := .builtin .len, args := #[(.tmp 10)], argTypes := #[38] }, none)) rfl rfl (fun w' hS => hrs.lenV rfl Try.underlying38 w' ) ?_
  refine yS (by kernel_rfl : opAt F38.o2 3 = some (some 12, .move (.const (.int .i64 0)), none)) rfl rfl (fun w' hS => val_move rfl) ?_
  refine Sch.nil ?_
  refine run_block (x := F38.c8) (id := 0) (by kernel_rfl) ?_
  
  refine run_loop (ι := Nat × (List (Couple × Couple)) × (Nat → Nat)) (I := fun x w => x.1 ≤ (refsS l).length ∧ Frst x.2.1 id (fun _ => 0) ∧ Dom x.2.1 ((refsS l).take x.1) ∧ Lim w x.2.2 ∧ Stp [2, 3, 4, 5, 6, 7, 8, 9] w₀ (col1 C) w x.2.2 ∧ RV w (Mc x.2.2) l vl ∧ RV w (Mc x.2.2) (refsS l) vR ∧ OwnM w x.2.2 3 bm kvC kvC x.2.1) (e := fun x => [(0, vl), (3, .map (some bm)), (10, vR), (11, .int .i64 (refsS l).length), (12, .int .i64 x.1)]) (m := fun x => (refsS l).length - x.1) (x₀ := (0, [], Cm)) (body := F38.c9) (by kernel_rfl) (sub_cons 0 rfl rfl (sub_cons 3 rfl rfl (sub_cons 10 rfl rfl (sub_cons 11 rfl rfl (sub_cons 12 rfl rfl (sub_nil _)))))) ?_ ?_
  · exact ⟨Nat.zero_le _, fun r v h => by simp [mget] at h, fun r hr => by simp at hr, hF, hT, hl, hrs, hm⟩
  intro ⟨k, u, C1⟩ w2 hI next
  obtain ⟨hk, hf, hdom, hF, hT, hl, hrs, hm⟩ := hI
  try simp only at hk hf hdom hF hT hl hrs hm
  have next1 := next
  clear next
  show Run _ _ _ _ [(0, vl), (3, .map (some bm)), (10, vR), (11, .int .i64 (refsS l).length), (12, .int .i64 k)] _ _
  have hrl := hrs.le
  refine run_seq (x := F38.c10) (y := F38.c11) (by kernel_rfl) ?_
  refine run_plain (id := 3) (ops := F38.o3) [(0, true)] (by kernel_rfl) (by kernel_rfl) ?_
  refine yS (by kernel_rfl : opAt F38.o3 0 = some (some 13, .binOp .lss 3 (.tmp 12) (.tmp 11) 3, none)) rfl rfl (fun w' hS => val_lss rfl rfl) ?_
  refine Sch.nil ?_
  refine run_seq (x := F38.c12) (y := F38.c15) (by kernel_rfl) ?_
  refine run_if (x := F38.c13) (y := F38.c14) (o := .tmp 13) (by kernel_rfl) rfl (fun h13 => ?_) (fun h13 => ?_)
  · skip
    have hkl : k < (refsS l).length := by omega
    refine run_skip (by kernel_rfl) ?_
    refine run_seq (x := F38.c16) (y := F38.c20) (by kernel_rfl) ?_
    refine run_block (x := F38.c17) (id := 1) (by kernel_rfl) ?_
    refine run_seq (x := F38.c18) (y := F38.c19) (by kernel_rfl) ?_
    refine run_plain (id := 4) (ops := F38.o4) [(0, true), (1, false), (2, false), (3, false)] (by kernel_rfl) (by kernel_rfl) ?_
    refine iS (e := 25) (by kernel_rfl : opAt F38.o4 0 = some (some 14, .indexAddr 38 (.tmp 10) (.tmp 12), none)) rfl rfl hrs rfl (by kernel_rfl) rfl (by omega) (by omega) ?_
    intro b14 o14 h14
    try simp only [Int.toNat_natCast] at h14
    refine lNA (by kernel_rfl : opAt F38.o4 1 = some (some 15, .load 25 (.tmp 14), none)) rfl rfl trivial h14 (by kernel_rfl) (by kernel_rfl) rfl rfl ?_
    intro v15 g15
    obtain rfl := rv_couple.1 g15
    refine aS (by kernel_rfl : opAt F38.o4 2 = some (some 5, .alloc 25, none)) rfl rfl (a_alloc (cs := [.int .i64 0, .int .i64 0]) hF 4 (by kernel_rfl)) ?_
    rintro _ w3 ⟨Cw3, bw3, rfl, hs, hx, hF⟩
    refine ⟨trivial, ?_⟩
    replace hT := hT.trans hs (by simp)
    replace hl := hl.st hs (by first | decide | (simp <;> omega))
    replace hrs := hrs.st hs (by first | decide | (simp <;> omega))
    replace hm := hm.st hs (by first | decide | (simp <;> omega))
    replace h14 := h14.st hs (by first | decide | (simp <;> omega))
    refine aN (by kernel_rfl : opAt F38.o4 3 = some (none, .store 25 (.tmp 5) (.tmp 15), none)) rfl (a_storeAll (vs := encR ((refsS l)[k]'hkl)) (n := 2) rfl rfl (by kernel_rfl) rfl rfl (by intro u hu; simp only [encR, List.mem_cons, List.not_mem_nil, or_false] at hu; rcases hu with rfl | rfl <;> rfl) hx rfl) ?_
    rintro _ w4 ⟨rfl, hs, hx⟩
    refine ⟨trivial, ?_⟩
    replace hF := hF.st hs
    replace hT := hT.trans hs (by simp)
    replace hl := hl.st hs (by first | decide | (simp <;> omega))
    replace hrs := hrs.st hs (by first | decide | (simp <;> omega))
    replace hm := hm.st hs (by first | decide | (simp <;> omega))
    replace h14 := h14.st hs (by first | decide | (simp <;> omega))
    refine Sch.nil ?_
    refine run_plain (id := 5) (ops := F38.o5) [(0, true), (1, false), (2, false), (3, false)] (by kernel_rfl) (by kernel_rfl) ?_
    refine yS (by kernel_rfl : opAt F38.o5 0 = some (some 16, .move (.tmp 3), none)) rfl rfl (fun w' hS => val_move rfl) ?_
    refine nS (by kernel_rfl : opAt F38.o5 1 = some (some 17, .load 25 (.tmp 5), none)) rfl rfl trivial (val_loadOwnAgg (n := 2) (vs := encR ((refsS l)[k]'hkl)) hx.at_ (by kernel_rfl) (by kernel_rfl) rfl rfl rfl) ?_
    refine nS (by kernel_rfl : opAt F38.o5 2 = some (some 18, .load 25 (.tmp 5), none)) rfl rfl trivial (val_loadOwnAgg (n := 2) (vs := encR ((refsS l)[k]'hkl)) hx.at_ (by kernel_rfl) (by kernel_rfl) rfl rfl rfl) ?_
    refine aN (by kernel_rfl : opAt F38.o5 3 = some (none, .mapUpdate 67 (.tmp 16) (.tmp 17) (.tmp 18), none)) rfl (a_mapUpdate (k := (refsS l)[k]'hkl) (u := (refsS l)[k]'hkl) hm Try.underlying67 (keyOK_couple Try.underlying25 (by decide) (by decide) (by kernel_rfl) Try.underlying3) rfl rfl rfl) ?_
    rintro _ w5 ⟨rfl, hs, hm⟩
    refine ⟨trivial, ?_⟩
    replace hF := hF.st hs
    replace hT := hT.trans hs (by simp)
    replace hl := hl.st hs (by first | decide | (simp <;> omega))
    replace hrs := hrs.st hs (by first | decide | (simp <;> omega))
    replace h14 := h14.st hs (by first | decide | (simp <;> omega))
    replace hx := hx.st hs (by first | decide | (simp <;> omega))
    refine Sch.nil ?_
    refine run_inBlock ?_
    refine run_plain (id := 6) (ops := F38.o6) [(0, true), (1, true)] (by kernel_rfl) (by kernel_rfl) ?_
    refine yS (by kernel_rfl : opAt F38.o6 0 = some (some 19, .binOp .add 3 (.tmp 12) (.const (.int .i64 1)) 3, none)) rfl rfl (fun w' hS => val_addi rfl rfl (by omega) (by omega)) ?_
    refine yS (by kernel_rfl : opAt F38.o6 1 = some (some 12, .move (.tmp 19), none)) rfl rfl (fun w' hS => val_move rfl) ?_
    refine Sch.nil ?_
    refine kp (sub_cons 0 rfl rfl (sub_cons 3 rfl rfl (sub_cons 10 rfl rfl (sub_cons 11 rfl rfl (sub_cons 12 rfl (eq_int (by simp)) (sub_nil _)))))) (next1 (k + 1, mput u ((refsS l)[k]'hkl) ((refsS l)[k]'hkl), Cw3) _ ⟨(by first | omega | (simp only; omega)), (hf.self _), (by simp only; rw [List.take_succ_eq_append_getElem hkl]; exact hdom.putIn _ _), hF, hT, hl, hrs, hm⟩ (by first | omega | (simp only; omega)))
  · skip
    have hkl : k = (refsS l).length := by omega
    subst hkl
    rw [List.take_length] at hdom
    refine run_exit (id := 0) (by kernel_rfl) rfl ?_
    refine run_seq (x := F38.c22) (y := F38.c38) (by kernel_rfl) ?_
    refine run_seq (x := F38.c23) (y := F38.c24) (by kernel_rfl) ?_
    refine run_plain (id := 7) (ops := F38.o7) [(0, true), (1, true), (2, true)] (by kernel_rfl) (by kernel_rfl) ?_
    refine yS (by kernel_rfl : opAt F38.o7 0 = some (some 20, .move (.tmp 0), none)) rfl rfl (fun w' hS => val_move rfl) ?_
    refine yS (by kernel_rfl : opAt F38.o7 1 = some (some 21, .call { callee := .builtin .len, args := #[(.tmp 20)], argTypes := #[23] }, none)) rfl rfl (fun w' hS => hl.lenV rfl Try.underlying23 w' ) ?_
    refine yS (by kernel_rfl : opAt F38.o7 2 = some (some 22, .move (.const (.int .i64 0)), none)) rfl rfl (fun w' hS => val_move rfl) ?_
    refine Sch.nil ?_
    refine run_block (x := F38.c25) (id := 2) (by kernel_rfl) ?_
    
    refine run_loop (ι := Nat × (List (Couple × Couple)) × (Nat → Nat)) (I := fun x w => x.1 ≤ l.length ∧ (∃ d, Frst x.2.1 (rhoS (l.take x.1)) d) ∧ Dom x.2.1 (refsS l) ∧ Lim w x.2.2 ∧ Stp [2, 3, 4, 5, 6, 7, 8, 9] w₀ (col1 C) w x.2.2 ∧ RV w (Mc x.2.2) l vl ∧ OwnM w x.2.2 3 bm kvC kvC x.2.1) (e := fun x => [(3, .map (some bm)), (20, vl), (21, .int .i64 l.length), (22, .int .i64 x.1)]) (m := fun x => l.length - x.1) (x₀ := (0, u, C1)) (body := F38.c26) (by kernel_rfl) (sub_cons 3 rfl rfl (sub_cons 20 rfl rfl (sub_cons 21 rfl rfl (sub_cons 22 rfl rfl (sub_nil _))))) ?_ ?_
    · exact ⟨Nat.zero_le _, ⟨_, hf⟩, hdom, hF, hT, hl, hm⟩
    intro ⟨k, u, C1⟩ w6 hI next
    obtain ⟨hk, hf, hdom, hF, hT, hl, hm⟩ := hI
    try simp only at hk hf hdom hF hT hl hm
    have next2 := next
    clear next
    show Run _ _ _ _ [(3, .map (some bm)), (20, vl), (21, .int .i64 l.length), (22, .int .i64 k)] _ _
    have hll := hl.le
    obtain ⟨dd, hf⟩ := hf
    refine run_seq (x := F38.c27) (y := F38.c28) (by kernel_rfl) ?_
    refine run_plain (id := 8) (ops := F38.o8) [(0, true)] (by kernel_rfl) (by kernel_rfl) ?_
    refine yS (by kernel_rfl : opAt F38.o8 0 = some (some 23, .binOp .lss 3 (.tmp 22) (.tmp 21) 3, none)) rfl rfl (fun w' hS => val_lss rfl rfl) ?_
    refine Sch.nil ?_
    refine run_seq (x := F38.c29) (y := F38.c32) (by kernel_rfl) ?_
    refine run_if (x := F38.c30) (y := F38.c31) (o := .tmp 23) (by kernel_rfl) rfl (fun h23 => ?_) (fun h23 => ?_)
    · skip
      have hkl : k < l.length := by omega
      have hinA := hdom (l[k]).A (mem_refsS.2 ⟨_, List.getElem_mem hkl, .inl rfl⟩)
      have hinB := hdom (l[k]).B (mem_refsS.2 ⟨_, List.getElem_mem hkl, .inr rfl⟩)
      refine run_skip (by kernel_rfl) ?_
      refine run_seq (x := F38.c33) (y := F38.c37) (by kernel_rfl) ?_
      refine run_block (x := F38.c34) (id := 3) (by kernel_rfl) ?_
      refine run_seq (x := F38.c35) (y := F38.c36) (by kernel_rfl) ?_
      refine run_plain (id := 9) (ops := F38.o9) [(0, true), (1, false), (2, false), (3, false)] (by kernel_rfl) (by kernel_rfl) ?_
      refine iS (e := 50) (by kernel_rfl : opAt F38.o9 0 = some (some 24, .indexAddr 23 (.tmp 20) (.tmp 22), none)) rfl rfl hl rfl (by kernel_rfl) rfl (by omega) (by omega) ?_
      intro b24 o24 h24
      try simp only [Int.toNat_natCast] at h24
      refine lNA (by kernel_rfl : opAt F38.o9 1 = some (some 25, .load 50 (.tmp 24), none)) rfl rfl trivial h24 (by kernel_rfl) (by kernel_rfl) rfl rfl ?_
      intro v25 g25
      obtain rfl := rv_bond.1 g25
      refine aS (by kernel_rfl : opAt F38.o9 2 = some (some 7, .alloc 50, none)) rfl rfl (a_alloc (cs := [.int .i64 0, .int .i64 0, .int .i64 0, .int .i64 0, .int .i64 0]) hF 4 (by kernel_rfl)) ?_
      rintro _ w7 ⟨Cw7, bw7, rfl, hs, hy, hF⟩
      refine ⟨trivial, ?_⟩
      replace hT := hT.trans hs (by simp)
      replace hl := hl.st hs (by first | decide | (simp <;> omega))
      replace hm := hm.st hs (by first | decide | (simp <;> omega))
      replace h24 := h24.st hs (by first | decide | (simp <;> omega))
      refine aN (by kernel_rfl : opAt F38.o9 3 = some (none, .store 50 (.tmp 7) (.tmp 25), none)) rfl (a_storeAll (vs := encB (l[k]'hkl)) (n := 5) rfl rfl (by kernel_rfl) rfl rfl (by intro u hu; simp only [encB, List.mem_cons, List.not_mem_nil, or_false] at hu; rcases hu with rfl | rfl | rfl | rfl | rfl <;> rfl) hy rfl) ?_
      rintro _ w8 ⟨rfl, hs, hy⟩
      refine ⟨trivial, ?_⟩
      replace hF := hF.st hs
      replace hT := hT.trans hs (by simp)
      replace hl := hl.st hs (by first | decide | (simp <;> omega))
      replace hm := hm.st hs (by first | decide | (simp <;> omega))
      replace h24 := h24.st hs (by first | decide | (simp <;> omega))
      refine Sch.nil ?_
      refine run_draw (id := 10) (ops := F38.o10) [3] (Cw7) [(0, true), (1, true), (2, true), (3, true), (5, true), (6, true), (7, true), (4, false), (8, false), (9, false)] Try_mixed (by kernel_rfl) (by kernel_rfl) (by kernel_rfl) ?_
      intro w9 hs
      replace hF := hF.st hs
      replace hT := hT.trans hs (by simp)
      replace hl := hl.st hs (by first | decide | (simp <;> omega))
      replace hm := hm.st hs (by first | decide | (simp <;> omega))
      replace h24 := h24.st hs (by first | decide | (simp <;> omega))
      replace hy := hy.st hs (by first | decide | (simp <;> omega))
      have hR := Stp.refl [3] w9 (Cw7)
      refine yS (by kernel_rfl : opAt F38.o10 0 = some (some 26, .move (.tmp 3), none)) rfl rfl (fun w' hS => val_move rfl) ?_
      refine yS (by kernel_rfl : opAt F38.o10 1 = some (some 27, .move (.tmp 3), none)) rfl rfl (fun w' hS => val_move rfl) ?_
      refine yS (by kernel_rfl : opAt F38.o10 2 = some (some 28, .fieldAddr 50 (.tmp 7) 0, none)) rfl rfl (fun w' hS => val_fieldAddr (off := 0) (by kernel_rfl) rfl) ?_
      refine yS (by kernel_rfl : opAt F38.o10 3 = some (some 29, .load 25 (.tmp 28), none)) rfl rfl (fun w' hS => val_loadOwnAgg (n := 2) (vs := encR (l[k]'hkl).A) (hy.stay hS (by decide)) (by kernel_rfl) (by kernel_rfl) rfl rfl rfl) ?_
      refine yS (by kernel_rfl : opAt F38.o10 5 = some (some 31, .move (.tmp 3), none)) rfl rfl (fun w' hS => val_move rfl) ?_
      refine yS (by kernel_rfl : opAt F38.o10 6 = some (some 32, .fieldAddr 50 (.tmp 7) 1, none)) rfl rfl (fun w' hS => val_fieldAddr (off := 2) (by kernel_rfl) rfl) ?_
      refine yS (by kernel_rfl : opAt F38.o10 7 = some (some 33, .load 25 (.tmp 32), none)) rfl rfl (fun w' hS => val_loadOwnAgg (n := 2) (vs := encR (l[k]'hkl).B) (hy.stay hS (by decide)) (by kernel_rfl) (by kernel_rfl) rfl rfl rfl) ?_
      refine cS (by kernel_rfl : opAt F38.o10 4 = some (some 30, .call { callee := .value (.func 39), args := #[(.tmp 27), (.tmp 29)], argTypes := #[67, 25] }, none)) rfl rfl (ent Try.call39 rfl) (root_ok (r := (l[k]'hkl).A) hF (by decide) hm hf hinA) ?_
      rintro vw10 w10 ⟨rfl, hs, ua, hm, hf, hra, hda, _⟩
      refine ⟨(hR.trans hs (by simp)).ext, ?_⟩
      replace hF := hF.st hs
      replace hT := hT.trans hs (by simp)
      replace hl := hl.st hs (by first | decide | (simp <;> omega))
      replace h24 := h24.st hs (by first | decide | (simp <;> omega))
      replace hy := hy.st hs (by first | decide | (simp <;> omega))
      replace hR := hR.trans hs (by simp)
      refine cS (by kernel_rfl : opAt F38.o10 8 = some (some 34, .call { callee := .value (.func 39), args := #[(.tmp 31), (.tmp 33)], argTypes := #[67, 25] }, none)) rfl rfl (ent Try.call39 rfl) (root_ok (r := (l[k]'hkl).B) hF (by decide) hm hf (hda _ hinB)) ?_
      rintro vw11 w11 ⟨rfl, hs, ub, hm, hf, hrb, hdb, hxb⟩
      refine ⟨(hR.trans hs (by simp)).ext, ?_⟩
      replace hF := hF.st hs
      replace hT := hT.trans hs (by simp)
      replace hl := hl.st hs (by first | decide | (simp <;> omega))
      replace h24 := h24.st hs (by first | decide | (simp <;> omega))
      replace hy := hy.st hs (by first | decide | (simp <;> omega))
      replace hR := hR.trans hs (by simp)
      refine Sch.free rfl ?_
      have hra2 := hxb _ hra
      refine aN (by kernel_rfl : opAt F38.o10 9 = some (none, .mapUpdate 67 (.tmp 26) (.tmp 30) (.tmp 34), none)) rfl (a_mapUpdate (k := rhoS (l.take k) (l[k]'hkl).A) (u := rhoS (l.take k) (l[k]'hkl).B) hm Try.underlying67 (keyOK_couple Try.underlying25 (by decide) (by decide) (by kernel_rfl) Try.underlying3) rfl rfl rfl) ?_
      rintro _ w12 ⟨rfl, hs, hm⟩
      refine ⟨trivial, ?_⟩
      replace hF := hF.st hs
      replace hT := hT.trans hs (by simp)
      replace hl := hl.st hs (by first | decide | (simp <;> omega))
      replace h24 := h24.st hs (by first | decide | (simp <;> omega))
      replace hy := hy.st hs (by first | decide | (simp <;> omega))
      refine Sch.nil ?_
      refine run_inBlock ?_
      refine run_plain (id := 11) (ops := F38.o11) [(0, true), (1, true)] (by kernel_rfl) (by kernel_rfl) ?_
      refine yS (by kernel_rfl : opAt F38.o11 0 = some (some 35, .binOp .add 3 (.tmp 22) (.const (.int .i64 1)) 3, none)) rfl rfl (fun w' hS => val_addi rfl rfl (by omega) (by omega)) ?_
      refine yS (by kernel_rfl : opAt F38.o11 1 = some (some 22, .move (.tmp 35), none)) rfl rfl (fun w' hS => val_move rfl) ?_
      refine Sch.nil ?_
      refine kp (sub_cons 3 rfl rfl (sub_cons 20 rfl rfl (sub_cons 21 rfl rfl (sub_cons 22 rfl (eq_int (by simp)) (sub_nil _))))) (next2 (k + 1, mput ub (rhoS (l.take k) (l[k]'hkl).A) (rhoS (l.take k) (l[k]'hkl).B), Cw7) _ ⟨(by first | omega | (simp only; omega)), (by simp only; rw [List.take_succ_eq_append_getElem hkl, rhoS_snoc]; exact hf.join hra2 hrb), (Dom.put (fun s hs => hdb _ (hda _ (hdom s hs))) _ _), hF, hT, hl, hm⟩ (by first | omega | (simp only; omega)))
    · skip
      have hkl : k = l.length := by omega
      subst hkl
      rw [List.take_length] at hf
      refine run_exit (id := 2) (by kernel_rfl) rfl ?_
      refine run_seq (x := F38.c39) (y := F38.c40) (by kernel_rfl) ?_
      refine run_plain (id := 12) (ops := F38.o12) [(0, true), (1, true)] (by kernel_rfl) (by kernel_rfl) ?_
      refine yS (by kernel_rfl : opAt F38.o12 0 = some (some 36, .move (.tmp 3), none)) rfl rfl (fun w' hS => val_move rfl) ?_
      refine yS (by kernel_rfl : opAt F38.o12 1 = some (some 2, .assign (.tmp 36), none)) rfl rfl (fun w' hS => val_assign rfl) ?_
      refine Sch.nil ?_
      refine run_ret1 (by kernel_rfl) Try.func38 Try.results38 rfl ?_
      obtain ⟨Cg, hcg, hmg, hFg⟩ := hm.give hT hF0 (fun b _ => col1_lt C (by decide) b) j
      exact ⟨Cg, bm, u, dd, rfl, (hT.out1 (by decide)).give hcg, hFg, hmg, hf, hdom⟩
end Go.Proofs.Ytfmdkdfhnkennaa

