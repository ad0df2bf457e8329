/- Steps through functions of the program. -/
import Derived.Test.YtgooehopkmbkfaaJU5
import Derived.Test.YtgooehopkmbkfaaL2
set_option linter.unusedVariables false
set_option linter.unusedSimpArgs false
set_option maxRecDepth 100000
set_option maxHeartbeats 4000000
namespace Go.Proofs.Ytgooehopkmbkfaa
open Go.K Go.K.Rep

namespace F40
noncomputable def c0 : Code := bodyOf Try.f40
noncomputable def c1 : Code := cl c0
noncomputable def o0 : Array Oper := rops c1
noncomputable def c2 : Code := cr c0
noncomputable def c3 : Code := cl c2
noncomputable def o1 : Array Oper := rops c3
noncomputable def c4 : Code := cr c2
noncomputable def c5 : Code := cl c4
noncomputable def o2 : Array Oper := rops c5
noncomputable def c6 : Code := cr c4
noncomputable def c7 : Code := cl c6
noncomputable def c8 : Code := cl c7
noncomputable def o3 : Array Oper := rops c8
noncomputable def c9 : Code := cr c7
noncomputable def c10 : Code := cl c9
noncomputable def c11 : Code := cl c10
noncomputable def c12 : Code := cl c11
noncomputable def o4 : Array Oper := rops c12
noncomputable def c13 : Code := cr c11
noncomputable def c14 : Code := cl c13
noncomputable def c15 : Code := cl c14
noncomputable def c16 : Code := cr c14
noncomputable def c17 : Code := cr c13
noncomputable def c18 : Code := cl c17
noncomputable def c19 : Code := cl c18
noncomputable def c20 : Code := cl c19
noncomputable def o5 : Array Oper := rops c20
noncomputable def c21 : Code := cr c19
noncomputable def c22 : Code := cl c21
noncomputable def o6 : Array Oper := rops c22
noncomputable def c23 : Code := cr c21
noncomputable def c24 : Code := cl c23
noncomputable def c25 : Code := cl c24
noncomputable def o7 : Array Oper := rops c25
noncomputable def c26 : Code := cr c24
noncomputable def c27 : Code := cl c26
noncomputable def c28 : Code := cl c27
noncomputable def o8 : Array Oper := rops c28
noncomputable def c29 : Code := cr c27
noncomputable def c30 : Code := cr c26
noncomputable def c31 : Code := cr c23
noncomputable def c32 : Code := cl c31
noncomputable def o9 : Array Oper := rops c32
noncomputable def c33 : Code := cr c31
noncomputable def o10 : Array Oper := rops c33
noncomputable def c34 : Code := cr c17
noncomputable def o11 : Array Oper := rops c34
noncomputable def c35 : Code := cr c6
noncomputable def c36 : Code := cl c35
noncomputable def o12 : Array Oper := rops c36
noncomputable def c37 : Code := cr c35
end F40
/-- 'chosen'. -/
theorem chosen_ok {w₀ : World} {C : Nat → Nat} {n m : Int} {l : List K.Edge} {cs : List Couple} {vl vc : Value} (hF : Lim w₀ C) (hV : VE n m l) (hl : RV w₀ (Mc C) l vl) (hc : RV w₀ (Mc C) cs vc) (hcl : cs.length ≤ 1000000) :
    Calls Try.prog 40 #[vl, vc] w₀ (Ret fun v w' => ∃ (t : Int) (b : Bool), v = .tuple #[.int .i64 t, .bool b] ∧ Stp [] w₀ C w' C ∧ (b = true ↔ ChO l cs) ∧ (b = true → t = totL l cs cs.length)) := by
  have hF0 := hF
  have hT := Stp.refl [2, 3, 4, 5, 6, 7, 8, 9] w₀ (col1 C)
  replace hF := hF.col1
  replace hl : RV w₀ (Mc (col1 C)) l vl := by rw [Mc_col1]; exact hl
  replace hc : RV w₀ (Mc (col1 C)) cs vc := by rw [Mc_col1]; exact hc
  refine calls_start (c := F40.c0) (N := 73) [vl, vc] Try.func40 (by kernel_rfl) (by kernel_rfl) (by kernel_rfl) ?_
  show Run _ _ _ _ [(0, vl), (1, vc)] _ _
  refine run_seq (x := F40.c1) (y := F40.c2) (by kernel_rfl) ?_
  refine run_plain (id := 0) (ops := F40.o0) [(0, true), (1, true)] (by kernel_rfl) (by kernel_rfl) ?_
  refine yS (by kernel_rfl : opAt F40.o0 0 = some (some 4, .assign (.const (.int .i64 0)), none)) rfl rfl (fun w' hS => val_assign rfl) ?_
  refine yS (by kernel_rfl : opAt F40.o0 1 = some (some 5, .assign (.const (.bool false)), none)) rfl rfl (fun w' hS => val_assign rfl) ?_
  refine Sch.nil ?_
  refine run_seq (x := F40.c3) (y := F40.c4) (by kernel_rfl) ?_
  refine run_plain (id := 1) (ops := F40.o1) [(0, true)] (by kernel_rfl) (by kernel_rfl) ?_
  refine yS (by kernel_rfl : opAt F40.o1 0 = some (some 6, .assign (.const (.int .i64 0)), none)) rfl rfl (fun w' hS => val_assign rfl) ?_
  refine Sch.nil ?_
  refine run_seq (x := F40.c5) (y := F40.c6) (by kernel_rfl) ?_
  refine run_plain (id := 2) (ops := F40.o2) [(0, false), (1, true)] (by kernel_rfl) (by kernel_rfl) ?_
  refine aS (by kernel_rfl : opAt F40.o2 0 = some (some 12, .makeMap 87 none, none)) rfl rfl (a_makeMap hF 3 kvI vvB) ?_
  rintro _ wm ⟨Cm, bm, rfl, hs, hm, hF⟩
  refine ⟨trivial, ?_⟩
  replace hT := hT.trans hs (by simp)
  replace hl := hl.st hs (by first | decide | (simp <;> omega))
  replace hc := hc.st hs (by first | decide | (simp <;> omega))
  refine yS (by kernel_rfl : opAt F40.o2 1 = some (some 7, .assign (.tmp 12), none)) rfl rfl (fun w' hS => val_assign rfl) ?_
  refine Sch.nil ?_
  refine run_seq (x := F40.c7) (y := F40.c35) (by kernel_rfl) ?_
  refine run_seq (x := F40.c8) (y := F40.c9) (by kernel_rfl) ?_
  refine run_plain (id := 3) (ops := F40.o3) [(0, true), (1, true), (2, true)] (by kernel_rfl) (by kernel_rfl) ?_
  refine yS (by kernel_rfl : opAt F40.o3 0 = some (some 13, .move (.tmp 1), none)) rfl rfl (fun w' hS => val_move rfl) ?_
  refine yS (by kernel_rfl : opAt F40.o3 1 = some (some 14, .call { callee := .builtin .len, args := #[(.tmp 13)], argTypes := #[24] }, none)) rfl rfl (fun w' hS => hc.lenV rfl Try.underlying24 w' ) ?_
  refine yS (by kernel_rfl : opAt F40.o3 2 = some (some 15, .move (.const (.int .i64 0)), none)) rfl rfl (fun w' hS => val_move rfl) ?_
  refine Sch.nil ?_
  refine run_block (x := F40.c10) (id := 0) (by kernel_rfl) ?_
  
  refine run_loop (ι := Nat × (List (Int × Bool)) × (Nat → Nat)) (I := fun x w => x.1 ≤ cs.length ∧ (∀ q, q < x.1 → okC l cs q) ∧ UsM x.2.1 cs x.1 ∧ 0 ≤ totL l cs x.1 ∧ totL l cs x.1 ≤ 65536 * x.1 ∧ Lim w x.2.2 ∧ Stp [2, 3, 4, 5, 6, 7, 8, 9] w₀ (col1 C) w x.2.2 ∧ RV w (Mc x.2.2) l vl ∧ RV w (Mc x.2.2) cs vc ∧ OwnM w x.2.2 3 bm kvI vvB x.2.1) (e := fun x => [(0, vl), (1, vc), (6, .int .i64 (totL l cs x.1)), (7, .map (some bm)), (13, vc), (14, .int .i64 cs.length), (15, .int .i64 x.1)]) (m := fun x => cs.length - x.1) (x₀ := (0, [], Cm)) (body := F40.c11) (by kernel_rfl) (sub_cons 0 rfl rfl (sub_cons 1 rfl rfl (sub_cons 6 rfl rfl (sub_cons 7 rfl rfl (sub_cons 13 rfl rfl (sub_cons 14 rfl rfl (sub_cons 15 rfl rfl (sub_nil _)))))))) ?_ ?_
  · exact ⟨Nat.zero_le _, (fun q hq => by simp only at hq; omega), UsM.start, (Int.le_refl 0), (Int.le_refl 0), hF, hT, hl, hc, hm⟩
  intro ⟨k, um, C1⟩ w1 hI next
  obtain ⟨hk, h0, hu, ht1, ht2, hF, hT, hl, hc, hm⟩ := hI
  try simp only at hk h0 hu ht1 ht2 hF hT hl hc hm
  have next1 := next
  clear next
  show Run _ _ _ _ [(0, vl), (1, vc), (6, .int .i64 (totL l cs k)), (7, .map (some bm)), (13, vc), (14, .int .i64 cs.length), (15, .int .i64 k)] _ _
  have hlen := hV.len
  have hle := hc.le
  refine run_seq (x := F40.c12) (y := F40.c13) (by kernel_rfl) ?_
  refine run_plain (id := 4) (ops := F40.o4) [(0, true)] (by kernel_rfl) (by kernel_rfl) ?_
  refine yS (by kernel_rfl : opAt F40.o4 0 = some (some 16, .binOp .lss 3 (.tmp 15) (.tmp 14) 3, none)) rfl rfl (fun w' hS => val_lss rfl rfl) ?_
  refine Sch.nil ?_
  refine run_seq (x := F40.c14) (y := F40.c17) (by kernel_rfl) ?_
  refine run_if (x := F40.c15) (y := F40.c16) (o := .tmp 16) (by kernel_rfl) rfl (fun h16 => ?_) (fun h16 => ?_)
  · skip
    have hkl : k < cs.length := by omega
    have hcx : cs[k]! = cs[k]'hkl := getElem!_pos _ _ _
    refine run_skip (by kernel_rfl) ?_
    refine run_seq (x := F40.c18) (y := F40.c34) (by kernel_rfl) ?_
    refine run_block (x := F40.c19) (id := 1) (by kernel_rfl) ?_
    refine run_seq (x := F40.c20) (y := F40.c21) (by kernel_rfl) ?_
    refine run_plain (id := 5) (ops := F40.o5) [(0, true), (1, true), (2, false), (3, false), (4, true), (5, false)] (by kernel_rfl) (by kernel_rfl) ?_
    refine yS (by kernel_rfl : opAt F40.o5 0 = some (some 17, .move (.tmp 15), none)) rfl rfl (fun w' hS => val_move rfl) ?_
    refine iS (e := 53) (by kernel_rfl : opAt F40.o5 1 = some (some 18, .indexAddr 24 (.tmp 13) (.tmp 15), none)) rfl rfl hc rfl (by kernel_rfl) rfl (by omega) (by omega) ?_
    intro b18 o18 h18
    try simp only [Int.toNat_natCast] at h18
    refine lNA (by kernel_rfl : opAt F40.o5 2 = some (some 19, .load 53 (.tmp 18), none)) rfl rfl trivial h18 (by kernel_rfl) (by kernel_rfl) rfl rfl ?_
    intro v19 g19
    obtain rfl := rv_couple.1 g19
    refine aS (by kernel_rfl : opAt F40.o5 3 = some (some 9, .alloc 53, none)) rfl rfl (a_alloc (cs := [.int .i64 0, .int .i64 0]) hF 4 (by kernel_rfl)) ?_
    rintro _ w2 ⟨Cw2, bw2, rfl, hs, hx, hF⟩
    refine ⟨trivial, ?_⟩
    replace hT := hT.trans hs (by simp)
    replace hl := hl.st hs (by first | decide | (simp <;> omega))
    replace hc := hc.st hs (by first | decide | (simp <;> omega))
    replace hm := hm.st hs (by first | decide | (simp <;> omega))
    replace h18 := h18.st hs (by first | decide | (simp <;> omega))
    refine yS (by kernel_rfl : opAt F40.o5 4 = some (some 8, .assign (.tmp 17), none)) rfl rfl (fun w' hS => val_assign rfl) ?_
    refine aN (by kernel_rfl : opAt F40.o5 5 = some (none, .store 53 (.tmp 9) (.tmp 19), none)) rfl (a_storeAll (vs := encR (cs[k]'hkl)) (n := 2) rfl rfl (by kernel_rfl) rfl rfl (by intro u hu; simp only [encR, List.mem_cons, List.not_mem_nil, or_false] at hu; rcases hu with rfl | rfl <;> rfl) hx rfl) ?_
    rintro _ w3 ⟨rfl, hs, hx⟩
    refine ⟨trivial, ?_⟩
    replace hF := hF.st hs
    replace hT := hT.trans hs (by simp)
    replace hl := hl.st hs (by first | decide | (simp <;> omega))
    replace hc := hc.st hs (by first | decide | (simp <;> omega))
    replace hm := hm.st hs (by first | decide | (simp <;> omega))
    replace h18 := h18.st hs (by first | decide | (simp <;> omega))
    refine Sch.nil ?_
    refine run_seq (x := F40.c22) (y := F40.c23) (by kernel_rfl) ?_
    refine run_plain (id := 6) (ops := F40.o6) [(0, true), (1, true), (2, false), (3, true), (4, false), (5, true), (6, false), (7, true), (8, true), (9, true), (10, true), (11, true)] (by kernel_rfl) (by kernel_rfl) ?_
    refine yS (by kernel_rfl : opAt F40.o6 0 = some (some 21, .move (.tmp 0), none)) rfl rfl (fun w' hS => val_move rfl) ?_
    refine yS (by kernel_rfl : opAt F40.o6 1 = some (some 22, .fieldAddr 53 (.tmp 9) 0, none)) rfl rfl (fun w' hS => val_fieldAddr (off := 0) (by kernel_rfl) rfl) ?_
    refine nS (by kernel_rfl : opAt F40.o6 2 = some (some 23, .load 3 (.tmp 22), none)) rfl rfl trivial (val_loadOwn hx.at_ (by kernel_rfl) rfl rfl) ?_
    refine yS (by kernel_rfl : opAt F40.o6 3 = some (some 24, .fieldAddr 53 (.tmp 9) 1, none)) rfl rfl (fun w' hS => val_fieldAddr (off := 1) (by kernel_rfl) rfl) ?_
    refine nS (by kernel_rfl : opAt F40.o6 4 = some (some 25, .load 3 (.tmp 24), none)) rfl rfl trivial (val_loadOwn hx.at_ (by kernel_rfl) rfl rfl) ?_
    refine yS (by kernel_rfl : opAt F40.o6 5 = some (some 26, .build 46 #[(0, (.tmp 23)), (1, (.tmp 25))], none)) rfl rfl (fun w' hS => val_build (zs := [.int .i64 0, .int .i64 0, .int .i64 0]) (ps := [(0, 1), (1, 1), (2, 1)]) (qs := [(0, [.int .i64 (cs[k]'hkl).a]), (1, [.int .i64 (cs[k]'hkl).b])]) (cs := [.int .i64 (cs[k]'hkl).a, .int .i64 (cs[k]'hkl).b, .int .i64 0]) (by kernel_rfl) (by kernel_rfl) (by exact ⟨rfl, ⟨_, rfl, rfl⟩, rfl, ⟨_, rfl, rfl⟩, trivial⟩) rfl) ?_
    refine cS (by kernel_rfl : opAt F40.o6 6 = some (some 27, .call { callee := .value (.func 53), args := #[(.tmp 21), (.tmp 26), (.func 31)], argTypes := #[23, 46, 61] }, none)) rfl rfl (ent Try.call53 rfl) (bsearch_ok (y := ⟨(cs[k]'hkl).a, (cs[k]'hkl).b, 0⟩) hF hl hV.ord (by omega)) ?_
    rintro vw4 w4 ⟨kk, bb, rfl, hs, hb1, hb2⟩
    refine ⟨trivial, ?_⟩
    replace hF := hF.st hs
    replace hT := hT.trans hs (by simp)
    replace hl := hl.st hs (by first | decide | (simp <;> omega))
    replace hc := hc.st hs (by first | decide | (simp <;> omega))
    replace hm := hm.st hs (by first | decide | (simp <;> omega))
    replace h18 := h18.st hs (by first | decide | (simp <;> omega))
    replace hx := hx.st hs (by first | decide | (simp <;> omega))
    refine yS (by kernel_rfl : opAt F40.o6 7 = some (some 20, .move (.tmp 27), none)) rfl rfl (fun w' hS => val_move rfl) ?_
    refine yS (by kernel_rfl : opAt F40.o6 8 = some (some 28, .extract (.tmp 20) 0, none)) rfl rfl (fun w' hS => val_extract rfl rfl) ?_
    refine yS (by kernel_rfl : opAt F40.o6 9 = some (some 29, .extract (.tmp 20) 1, none)) rfl rfl (fun w' hS => val_extract rfl rfl) ?_
    refine yS (by kernel_rfl : opAt F40.o6 10 = some (some 10, .assign (.tmp 28), none)) rfl rfl (fun w' hS => val_assign rfl) ?_
    refine yS (by kernel_rfl : opAt F40.o6 11 = some (some 11, .assign (.tmp 29), none)) rfl rfl (fun w' hS => val_assign rfl) ?_
    refine Sch.nil ?_
    refine run_seq (x := F40.c24) (y := F40.c31) (by kernel_rfl) ?_
    refine run_seq (x := F40.c25) (y := F40.c26) (by kernel_rfl) ?_
    refine run_cut 60 (decide (¬ okC l cs k)) (Cw2) ?_ ?_
    · intro hcut
      by_cases hA : bb = true
      · skip
        obtain ⟨hkk, hke⟩ := hb1 hA
        by_cases hB : (l[kk]'hkk).w ≤ 0
        · skip
          refine run_draw (id := 7) (ops := F40.o7) [] (Cw2) [(0, true), (1, true), (2, true), (3, true), (4, true), (5, true), (6, true), (7, true), (8, true), (9, true), (10, true), (11, true), (12, true), (13, true), (14, true), (15, true), (16, true), (17, true), (18, true), (19, true), (20, true), (21, true), (22, true), (23, true), (24, true), (25, true), (26, true), (27, true), (28, true), (29, true), (30, true)] Try_mixed (by kernel_rfl) (by kernel_rfl) (by kernel_rfl) ?_
          intro w5 hs
          replace hF := hF.st hs
          replace hT := hT.trans hs (by simp)
          replace hl := hl.st hs (by first | decide | (simp <;> omega))
          replace hc := hc.st hs (by first | decide | (simp <;> omega))
          replace hm := hm.st hs (by first | decide | (simp <;> omega))
          replace h18 := h18.st hs (by first | decide | (simp <;> omega))
          replace hx := hx.st hs (by first | decide | (simp <;> omega))
          have hcs := hs
          refine yS (by kernel_rfl : opAt F40.o7 0 = some (some 30, .move (.tmp 11), none)) rfl rfl (fun w' hS => val_is (val_move rfl) (show _ = Value.bool true from congrArg Value.bool (hA))) ?_
          refine yS (by kernel_rfl : opAt F40.o7 1 = some (some 31, .unOp .not 4 (.tmp 30), none)) rfl rfl (fun w' hS => val_not rfl) ?_
          refine yS (by kernel_rfl : opAt F40.o7 2 = some (some 32, .move (.tmp 31), none)) rfl rfl (fun w' hS => val_move rfl) ?_
          refine yS (by kernel_rfl : opAt F40.o7 3 = some (some 33, .move (.tmp 0), (some (2, false)))) rfl rfl (fun w' hS => val_move rfl) ?_
          refine yS (by kernel_rfl : opAt F40.o7 4 = some (some 34, .move (.tmp 10), (some (2, false)))) rfl rfl (fun w' hS => val_move rfl) ?_
          refine iS (e := 46) (by kernel_rfl : opAt F40.o7 5 = some (some 35, .indexAddr 23 (.tmp 33) (.tmp 34), (some (2, false)))) rfl rfl hl rfl (by kernel_rfl) rfl (by omega) (by omega) ?_
          intro b35 o35 h35
          try simp only [Int.toNat_natCast] at h35
          have h36 := RA.ew h35
          refine yS (by kernel_rfl : opAt F40.o7 6 = some (some 36, .fieldAddr 46 (.tmp 35) 2, (some (2, false)))) rfl rfl (fun w' hS => val_fieldAddr (off := 2) (by kernel_rfl) rfl) ?_
          refine lS (by kernel_rfl : opAt F40.o7 7 = some (some 37, .load 3 (.tmp 36), (some (2, false)))) rfl rfl (fun w' hS => h36.stay hS (by first | decide | (simp <;> omega))) h36 (by kernel_rfl) rfl rfl ?_
          intro v37 g37
          first | (obtain rfl := rv_nat.1 g37) | (obtain rfl := rv_int.1 g37)
          refine yS (by kernel_rfl : opAt F40.o7 8 = some (some 38, .binOp .leq 3 (.tmp 37) (.const (.int .i64 0)) 3, (some (2, false)))) rfl rfl (fun w' hS => val_T (val_leq rfl rfl) hB) ?_
          refine yS (by kernel_rfl : opAt F40.o7 9 = some (some 39, .pick (.tmp 32) (.const (.bool true)) (.tmp 38), none)) rfl rfl (fun w' hS => val_pick_f rfl rfl) ?_
          refine yS (by kernel_rfl : opAt F40.o7 10 = some (some 40, .move (.tmp 39), none)) rfl rfl (fun w' hS => val_move rfl) ?_
          refine pS (by kernel_rfl : opAt F40.o7 11 = some (some 41, .move (.tmp 7), (some (10, false)))) rfl rfl ?_
          refine pS (by kernel_rfl : opAt F40.o7 12 = some (some 42, .fieldAddr 53 (.tmp 9) 1, (some (10, false)))) rfl rfl ?_
          refine pS (by kernel_rfl : opAt F40.o7 13 = some (some 43, .load 3 (.tmp 42), (some (10, false)))) rfl rfl ?_
          refine pS (by kernel_rfl : opAt F40.o7 14 = some (some 44, .lookup 87 (.tmp 41) (.tmp 43) false, (some (10, false)))) rfl rfl ?_
          refine yS (by kernel_rfl : opAt F40.o7 15 = some (some 45, .pick (.tmp 40) (.const (.bool true)) (.tmp 44), none)) rfl rfl (fun w' hS => val_pick_t rfl rfl) ?_
          refine yS (by kernel_rfl : opAt F40.o7 16 = some (some 46, .move (.tmp 45), none)) rfl rfl (fun w' hS => val_move rfl) ?_
          refine pS (by kernel_rfl : opAt F40.o7 17 = some (some 47, .move (.tmp 8), (some (16, false)))) rfl rfl ?_
          refine pS (by kernel_rfl : opAt F40.o7 18 = some (some 48, .binOp .gtr 3 (.tmp 47) (.const (.int .i64 0)) 3, (some (16, false)))) rfl rfl ?_
          refine pS (by kernel_rfl : opAt F40.o7 19 = some (some 49, .move (.tmp 48), (some (16, false)))) rfl rfl ?_
          refine pS (by kernel_rfl : opAt F40.o7 20 = some (some 50, .move (.tmp 1), (some (19, true)))) rfl rfl ?_
          refine pS (by kernel_rfl : opAt F40.o7 21 = some (some 51, .move (.tmp 8), (some (19, true)))) rfl rfl ?_
          refine pS (by kernel_rfl : opAt F40.o7 22 = some (some 52, .binOp .sub 3 (.tmp 51) (.const (.int .i64 1)) 3, (some (19, true)))) rfl rfl ?_
          refine pS (by kernel_rfl : opAt F40.o7 23 = some (some 53, .indexAddr 24 (.tmp 50) (.tmp 52), (some (19, true)))) rfl rfl ?_
          refine pS (by kernel_rfl : opAt F40.o7 24 = some (some 54, .fieldAddr 53 (.tmp 53) 0, (some (19, true)))) rfl rfl ?_
          refine pS (by kernel_rfl : opAt F40.o7 25 = some (some 55, .load 3 (.tmp 54), (some (19, true)))) rfl rfl ?_
          refine pS (by kernel_rfl : opAt F40.o7 26 = some (some 56, .fieldAddr 53 (.tmp 9) 0, (some (19, true)))) rfl rfl ?_
          refine pS (by kernel_rfl : opAt F40.o7 27 = some (some 57, .load 3 (.tmp 56), (some (19, true)))) rfl rfl ?_
          refine pS (by kernel_rfl : opAt F40.o7 28 = some (some 58, .binOp .geq 3 (.tmp 55) (.tmp 57) 3, (some (19, true)))) rfl rfl ?_
          refine pS (by kernel_rfl : opAt F40.o7 29 = some (some 59, .pick (.tmp 49) (.tmp 58) (.const (.bool false)), (some (16, false)))) rfl rfl ?_
          refine yS (by kernel_rfl : opAt F40.o7 30 = some (some 60, .pick (.tmp 46) (.const (.bool true)) (.tmp 59), none)) rfl rfl (fun w' hS => val_pick_t rfl rfl) ?_
          exact Sch.nil (hcut _ _ _ hcs rfl (by rw [decide_eq_true (show ¬ okC l cs k from okC.no2 hV.ord hcx (List.getElem_mem hkk) hke hB)]) (sub_skip rfl (sub_skip rfl (sub_skip rfl (sub_skip rfl (sub_skip rfl (sub_skip rfl (sub_skip rfl (sub_skip rfl (sub_skip rfl (sub_skip rfl (sub_skip rfl (sub_skip rfl (sub_skip rfl (sub_skip rfl (sub_skip rfl (sub_skip rfl (sub_skip rfl (sub_skip rfl (sub_skip rfl (sub_skip rfl (sub_skip rfl (sub_skip rfl (sub_skip rfl (sub_skip rfl (sub_skip rfl (sub_skip rfl (sub_skip rfl (sub_skip rfl (sub_skip rfl (sub_skip rfl (sub_skip rfl (Sub.refl _)))))))))))))))))))))))))))))))))
        · skip
          by_cases hC : (mget um (cs[k]'hkl).b).getD false = true
          · skip
            refine run_draw (id := 7) (ops := F40.o7) [] (Cw2) [(0, true), (1, true), (2, true), (3, true), (4, true), (5, true), (6, true), (7, true), (8, true), (9, true), (10, true), (11, true), (12, true), (13, true), (14, true), (15, true), (16, true), (17, true), (18, true), (19, true), (20, true), (21, true), (22, true), (23, true), (24, true), (25, true), (26, true), (27, true), (28, true), (29, true), (30, true)] Try_mixed (by kernel_rfl) (by kernel_rfl) (by kernel_rfl) ?_
            intro w6 hs
            replace hF := hF.st hs
            replace hT := hT.trans hs (by simp)
            replace hl := hl.st hs (by first | decide | (simp <;> omega))
            replace hc := hc.st hs (by first | decide | (simp <;> omega))
            replace hm := hm.st hs (by first | decide | (simp <;> omega))
            replace h18 := h18.st hs (by first | decide | (simp <;> omega))
            replace hx := hx.st hs (by first | decide | (simp <;> omega))
            have hcs := hs
            refine yS (by kernel_rfl : opAt F40.o7 0 = some (some 30, .move (.tmp 11), none)) rfl rfl (fun w' hS => val_is (val_move rfl) (show _ = Value.bool true from congrArg Value.bool (hA))) ?_
            refine yS (by kernel_rfl : opAt F40.o7 1 = some (some 31, .unOp .not 4 (.tmp 30), none)) rfl rfl (fun w' hS => val_not rfl) ?_
            refine yS (by kernel_rfl : opAt F40.o7 2 = some (some 32, .move (.tmp 31), none)) rfl rfl (fun w' hS => val_move rfl) ?_
            refine yS (by kernel_rfl : opAt F40.o7 3 = some (some 33, .move (.tmp 0), (some (2, false)))) rfl rfl (fun w' hS => val_move rfl) ?_
            refine yS (by kernel_rfl : opAt F40.o7 4 = some (some 34, .move (.tmp 10), (some (2, false)))) rfl rfl (fun w' hS => val_move rfl) ?_
            refine iS (e := 46) (by kernel_rfl : opAt F40.o7 5 = some (some 35, .indexAddr 23 (.tmp 33) (.tmp 34), (some (2, false)))) rfl rfl hl rfl (by kernel_rfl) rfl (by omega) (by omega) ?_
            intro b35 o35 h35
            try simp only [Int.toNat_natCast] at h35
            have h36 := RA.ew h35
            refine yS (by kernel_rfl : opAt F40.o7 6 = some (some 36, .fieldAddr 46 (.tmp 35) 2, (some (2, false)))) rfl rfl (fun w' hS => val_fieldAddr (off := 2) (by kernel_rfl) rfl) ?_
            refine lS (by kernel_rfl : opAt F40.o7 7 = some (some 37, .load 3 (.tmp 36), (some (2, false)))) rfl rfl (fun w' hS => h36.stay hS (by first | decide | (simp <;> omega))) h36 (by kernel_rfl) rfl rfl ?_
            intro v37 g37
            first | (obtain rfl := rv_nat.1 g37) | (obtain rfl := rv_int.1 g37)
            refine yS (by kernel_rfl : opAt F40.o7 8 = some (some 38, .binOp .leq 3 (.tmp 37) (.const (.int .i64 0)) 3, (some (2, false)))) rfl rfl (fun w' hS => val_F (val_leq rfl rfl) hB) ?_
            refine yS (by kernel_rfl : opAt F40.o7 9 = some (some 39, .pick (.tmp 32) (.const (.bool true)) (.tmp 38), none)) rfl rfl (fun w' hS => val_pick_f rfl rfl) ?_
            refine yS (by kernel_rfl : opAt F40.o7 10 = some (some 40, .move (.tmp 39), none)) rfl rfl (fun w' hS => val_move rfl) ?_
            refine yS (by kernel_rfl : opAt F40.o7 11 = some (some 41, .move (.tmp 7), (some (10, false)))) rfl rfl (fun w' hS => val_move rfl) ?_
            refine yS (by kernel_rfl : opAt F40.o7 12 = some (some 42, .fieldAddr 53 (.tmp 9) 1, (some (10, false)))) rfl rfl (fun w' hS => val_fieldAddr (off := 1) (by kernel_rfl) rfl) ?_
            refine yS (by kernel_rfl : opAt F40.o7 13 = some (some 43, .load 3 (.tmp 42), (some (10, false)))) rfl rfl (fun w' hS => val_loadOwn (hx.stay hS (by decide)) (by kernel_rfl) rfl rfl) ?_
            refine yS (by kernel_rfl : opAt F40.o7 14 = some (some 44, .lookup 87 (.tmp 41) (.tmp 43) false, (some (10, false)))) rfl rfl (fun w' hS => (hm.stay hS (by decide)).lookup (z0 := false) (k := (cs[k]'hkl).b) Try.underlying87 (keyOK_int Try.underlying3) Try.zeroValue4 rfl rfl) ?_
            rw [hC]
            refine yS (by kernel_rfl : opAt F40.o7 15 = some (some 45, .pick (.tmp 40) (.const (.bool true)) (.tmp 44), none)) rfl rfl (fun w' hS => val_pick_f rfl rfl) ?_
            refine yS (by kernel_rfl : opAt F40.o7 16 = some (some 46, .move (.tmp 45), none)) rfl rfl (fun w' hS => val_move rfl) ?_
            refine pS (by kernel_rfl : opAt F40.o7 17 = some (some 47, .move (.tmp 8), (some (16, false)))) rfl rfl ?_
            refine pS (by kernel_rfl : opAt F40.o7 18 = some (some 48, .binOp .gtr 3 (.tmp 47) (.const (.int .i64 0)) 3, (some (16, false)))) rfl rfl ?_
            refine pS (by kernel_rfl : opAt F40.o7 19 = some (some 49, .move (.tmp 48), (some (16, false)))) rfl rfl ?_
            refine pS (by kernel_rfl : opAt F40.o7 20 = some (some 50, .move (.tmp 1), (some (19, true)))) rfl rfl ?_
            refine pS (by kernel_rfl : opAt F40.o7 21 = some (some 51, .move (.tmp 8), (some (19, true)))) rfl rfl ?_
            refine pS (by kernel_rfl : opAt F40.o7 22 = some (some 52, .binOp .sub 3 (.tmp 51) (.const (.int .i64 1)) 3, (some (19, true)))) rfl rfl ?_
            refine pS (by kernel_rfl : opAt F40.o7 23 = some (some 53, .indexAddr 24 (.tmp 50) (.tmp 52), (some (19, true)))) rfl rfl ?_
            refine pS (by kernel_rfl : opAt F40.o7 24 = some (some 54, .fieldAddr 53 (.tmp 53) 0, (some (19, true)))) rfl rfl ?_
            refine pS (by kernel_rfl : opAt F40.o7 25 = some (some 55, .load 3 (.tmp 54), (some (19, true)))) rfl rfl ?_
            refine pS (by kernel_rfl : opAt F40.o7 26 = some (some 56, .fieldAddr 53 (.tmp 9) 0, (some (19, true)))) rfl rfl ?_
            refine pS (by kernel_rfl : opAt F40.o7 27 = some (some 57, .load 3 (.tmp 56), (some (19, true)))) rfl rfl ?_
            refine pS (by kernel_rfl : opAt F40.o7 28 = some (some 58, .binOp .geq 3 (.tmp 55) (.tmp 57) 3, (some (19, true)))) rfl rfl ?_
            refine pS (by kernel_rfl : opAt F40.o7 29 = some (some 59, .pick (.tmp 49) (.tmp 58) (.const (.bool false)), (some (16, false)))) rfl rfl ?_
            refine yS (by kernel_rfl : opAt F40.o7 30 = some (some 60, .pick (.tmp 46) (.const (.bool true)) (.tmp 59), none)) rfl rfl (fun w' hS => val_pick_t rfl rfl) ?_
            exact Sch.nil (hcut _ _ _ hcs rfl (by rw [decide_eq_true (show ¬ okC l cs k from okC.no3 hcx hu hC)]) (sub_skip rfl (sub_skip rfl (sub_skip rfl (sub_skip rfl (sub_skip rfl (sub_skip rfl (sub_skip rfl (sub_skip rfl (sub_skip rfl (sub_skip rfl (sub_skip rfl (sub_skip rfl (sub_skip rfl (sub_skip rfl (sub_skip rfl (sub_skip rfl (sub_skip rfl (sub_skip rfl (sub_skip rfl (sub_skip rfl (sub_skip rfl (sub_skip rfl (sub_skip rfl (sub_skip rfl (sub_skip rfl (sub_skip rfl (sub_skip rfl (sub_skip rfl (sub_skip rfl (sub_skip rfl (sub_skip rfl (Sub.refl _)))))))))))))))))))))))))))))))))
          · skip
            have hlast := okC.last hcx (List.getElem_mem hkk) hke hB hu (Bool.eq_false_iff.2 hC)
            by_cases hD : (0 : Int) < k
            · skip
              refine run_draw (id := 7) (ops := F40.o7) [] (Cw2) [(0, true), (1, true), (2, true), (3, true), (4, true), (5, true), (6, true), (7, true), (8, true), (9, true), (10, true), (11, true), (12, true), (13, true), (14, true), (15, true), (16, true), (17, true), (18, true), (19, true), (20, true), (21, true), (22, true), (23, true), (24, true), (25, true), (26, true), (27, true), (28, true), (29, true), (30, true)] Try_mixed (by kernel_rfl) (by kernel_rfl) (by kernel_rfl) ?_
              intro w7 hs
              replace hF := hF.st hs
              replace hT := hT.trans hs (by simp)
              replace hl := hl.st hs (by first | decide | (simp <;> omega))
              replace hc := hc.st hs (by first | decide | (simp <;> omega))
              replace hm := hm.st hs (by first | decide | (simp <;> omega))
              replace h18 := h18.st hs (by first | decide | (simp <;> omega))
              replace hx := hx.st hs (by first | decide | (simp <;> omega))
              have hcs := hs
              refine yS (by kernel_rfl : opAt F40.o7 0 = some (some 30, .move (.tmp 11), none)) rfl rfl (fun w' hS => val_is (val_move rfl) (show _ = Value.bool true from congrArg Value.bool (hA))) ?_
              refine yS (by kernel_rfl : opAt F40.o7 1 = some (some 31, .unOp .not 4 (.tmp 30), none)) rfl rfl (fun w' hS => val_not rfl) ?_
              refine yS (by kernel_rfl : opAt F40.o7 2 = some (some 32, .move (.tmp 31), none)) rfl rfl (fun w' hS => val_move rfl) ?_
              refine yS (by kernel_rfl : opAt F40.o7 3 = some (some 33, .move (.tmp 0), (some (2, false)))) rfl rfl (fun w' hS => val_move rfl) ?_
              refine yS (by kernel_rfl : opAt F40.o7 4 = some (some 34, .move (.tmp 10), (some (2, false)))) rfl rfl (fun w' hS => val_move rfl) ?_
              refine iS (e := 46) (by kernel_rfl : opAt F40.o7 5 = some (some 35, .indexAddr 23 (.tmp 33) (.tmp 34), (some (2, false)))) rfl rfl hl rfl (by kernel_rfl) rfl (by omega) (by omega) ?_
              intro b35 o35 h35
              try simp only [Int.toNat_natCast] at h35
              have h36 := RA.ew h35
              refine yS (by kernel_rfl : opAt F40.o7 6 = some (some 36, .fieldAddr 46 (.tmp 35) 2, (some (2, false)))) rfl rfl (fun w' hS => val_fieldAddr (off := 2) (by kernel_rfl) rfl) ?_
              refine lS (by kernel_rfl : opAt F40.o7 7 = some (some 37, .load 3 (.tmp 36), (some (2, false)))) rfl rfl (fun w' hS => h36.stay hS (by first | decide | (simp <;> omega))) h36 (by kernel_rfl) rfl rfl ?_
              intro v37 g37
              first | (obtain rfl := rv_nat.1 g37) | (obtain rfl := rv_int.1 g37)
              refine yS (by kernel_rfl : opAt F40.o7 8 = some (some 38, .binOp .leq 3 (.tmp 37) (.const (.int .i64 0)) 3, (some (2, false)))) rfl rfl (fun w' hS => val_F (val_leq rfl rfl) hB) ?_
              refine yS (by kernel_rfl : opAt F40.o7 9 = some (some 39, .pick (.tmp 32) (.const (.bool true)) (.tmp 38), none)) rfl rfl (fun w' hS => val_pick_f rfl rfl) ?_
              refine yS (by kernel_rfl : opAt F40.o7 10 = some (some 40, .move (.tmp 39), none)) rfl rfl (fun w' hS => val_move rfl) ?_
              refine yS (by kernel_rfl : opAt F40.o7 11 = some (some 41, .move (.tmp 7), (some (10, false)))) rfl rfl (fun w' hS => val_move rfl) ?_
              refine yS (by kernel_rfl : opAt F40.o7 12 = some (some 42, .fieldAddr 53 (.tmp 9) 1, (some (10, false)))) rfl rfl (fun w' hS => val_fieldAddr (off := 1) (by kernel_rfl) rfl) ?_
              refine yS (by kernel_rfl : opAt F40.o7 13 = some (some 43, .load 3 (.tmp 42), (some (10, false)))) rfl rfl (fun w' hS => val_loadOwn (hx.stay hS (by decide)) (by kernel_rfl) rfl rfl) ?_
              refine yS (by kernel_rfl : opAt F40.o7 14 = some (some 44, .lookup 87 (.tmp 41) (.tmp 43) false, (some (10, false)))) rfl rfl (fun w' hS => (hm.stay hS (by decide)).lookup (z0 := false) (k := (cs[k]'hkl).b) Try.underlying87 (keyOK_int Try.underlying3) Try.zeroValue4 rfl rfl) ?_
              rw [Bool.eq_false_iff.2 hC]
              refine yS (by kernel_rfl : opAt F40.o7 15 = some (some 45, .pick (.tmp 40) (.const (.bool true)) (.tmp 44), none)) rfl rfl (fun w' hS => val_pick_f rfl rfl) ?_
              refine yS (by kernel_rfl : opAt F40.o7 16 = some (some 46, .move (.tmp 45), none)) rfl rfl (fun w' hS => val_move rfl) ?_
              refine yS (by kernel_rfl : opAt F40.o7 17 = some (some 47, .move (.tmp 8), (some (16, false)))) rfl rfl (fun w' hS => val_move rfl) ?_
              refine yS (by kernel_rfl : opAt F40.o7 18 = some (some 48, .binOp .gtr 3 (.tmp 47) (.const (.int .i64 0)) 3, (some (16, false)))) rfl rfl (fun w' hS => val_T (val_gtr rfl rfl) hD) ?_
              refine yS (by kernel_rfl : opAt F40.o7 19 = some (some 49, .move (.tmp 48), (some (16, false)))) rfl rfl (fun w' hS => val_move rfl) ?_
              refine yS (by kernel_rfl : opAt F40.o7 20 = some (some 50, .move (.tmp 1), (some (19, true)))) rfl rfl (fun w' hS => val_move rfl) ?_
              refine yS (by kernel_rfl : opAt F40.o7 21 = some (some 51, .move (.tmp 8), (some (19, true)))) rfl rfl (fun w' hS => val_move rfl) ?_
              refine yS (by kernel_rfl : opAt F40.o7 22 = some (some 52, .binOp .sub 3 (.tmp 51) (.const (.int .i64 1)) 3, (some (19, true)))) rfl rfl (fun w' hS => val_subi rfl rfl (by omega) (by omega)) ?_
              refine iS (e := 53) (by kernel_rfl : opAt F40.o7 23 = some (some 53, .indexAddr 24 (.tmp 50) (.tmp 52), (some (19, true)))) rfl rfl hc rfl (by kernel_rfl) rfl (by omega) (by omega) ?_
              intro b53 o53 h53
              try simp only [Int.toNat_natCast] at h53
              have h54 := RA.ca h53
              refine yS (by kernel_rfl : opAt F40.o7 24 = some (some 54, .fieldAddr 53 (.tmp 53) 0, (some (19, true)))) rfl rfl (fun w' hS => val_fieldAddr (off := 0) (by kernel_rfl) rfl) ?_
              refine lS (by kernel_rfl : opAt F40.o7 25 = some (some 55, .load 3 (.tmp 54), (some (19, true)))) rfl rfl (fun w' hS => h54.stay hS (by first | decide | (simp <;> omega))) h54 (by kernel_rfl) rfl rfl ?_
              intro v55 g55
              first | (obtain rfl := rv_nat.1 g55) | (obtain rfl := rv_int.1 g55)
              refine yS (by kernel_rfl : opAt F40.o7 26 = some (some 56, .fieldAddr 53 (.tmp 9) 0, (some (19, true)))) rfl rfl (fun w' hS => val_fieldAddr (off := 0) (by kernel_rfl) rfl) ?_
              refine yS (by kernel_rfl : opAt F40.o7 27 = some (some 57, .load 3 (.tmp 56), (some (19, true)))) rfl rfl (fun w' hS => val_loadOwn (hx.stay hS (by decide)) (by kernel_rfl) rfl rfl) ?_
              refine yS (by kernel_rfl : opAt F40.o7 28 = some (some 58, .binOp .geq 3 (.tmp 55) (.tmp 57) 3, (some (19, true)))) rfl rfl (fun w' hS => val_geq rfl rfl) ?_
              refine yS (by kernel_rfl : opAt F40.o7 29 = some (some 59, .pick (.tmp 49) (.tmp 58) (.const (.bool false)), (some (16, false)))) rfl rfl (fun w' hS => val_pick_t rfl rfl) ?_
              refine yS (by kernel_rfl : opAt F40.o7 30 = some (some 60, .pick (.tmp 46) (.const (.bool true)) (.tmp 59), none)) rfl rfl (fun w' hS => val_pick_f rfl rfl) ?_
              exact Sch.nil (hcut _ _ _ hcs rfl (by
  congr 1; apply decide_eq_decide.2; rw [hlast, getElem!_pos cs (k - 1) (by omega)]
  have e1 : ((k : Int) - 1).toNat = k - 1 := by omega
  simp only [e1]; omega) (sub_skip rfl (sub_skip rfl (sub_skip rfl (sub_skip rfl (sub_skip rfl (sub_skip rfl (sub_skip rfl (sub_skip rfl (sub_skip rfl (sub_skip rfl (sub_skip rfl (sub_skip rfl (sub_skip rfl (sub_skip rfl (sub_skip rfl (sub_skip rfl (sub_skip rfl (sub_skip rfl (sub_skip rfl (sub_skip rfl (sub_skip rfl (sub_skip rfl (sub_skip rfl (sub_skip rfl (sub_skip rfl (sub_skip rfl (sub_skip rfl (sub_skip rfl (sub_skip rfl (sub_skip rfl (sub_skip rfl (Sub.refl _)))))))))))))))))))))))))))))))))
            · skip
              refine run_draw (id := 7) (ops := F40.o7) [] (Cw2) [(0, true), (1, true), (2, true), (3, true), (4, true), (5, true), (6, true), (7, true), (8, true), (9, true), (10, true), (11, true), (12, true), (13, true), (14, true), (15, true), (16, true), (17, true), (18, true), (19, true), (20, true), (21, true), (22, true), (23, true), (24, true), (25, true), (26, true), (27, true), (28, true), (29, true), (30, true)] Try_mixed (by kernel_rfl) (by kernel_rfl) (by kernel_rfl) ?_
              intro w8 hs
              replace hF := hF.st hs
              replace hT := hT.trans hs (by simp)
              replace hl := hl.st hs (by first | decide | (simp <;> omega))
              replace hc := hc.st hs (by first | decide | (simp <;> omega))
              replace hm := hm.st hs (by first | decide | (simp <;> omega))
              replace h18 := h18.st hs (by first | decide | (simp <;> omega))
              replace hx := hx.st hs (by first | decide | (simp <;> omega))
              have hcs := hs
              refine yS (by kernel_rfl : opAt F40.o7 0 = some (some 30, .move (.tmp 11), none)) rfl rfl (fun w' hS => val_is (val_move rfl) (show _ = Value.bool true from congrArg Value.bool (hA))) ?_
              refine yS (by kernel_rfl : opAt F40.o7 1 = some (some 31, .unOp .not 4 (.tmp 30), none)) rfl rfl (fun w' hS => val_not rfl) ?_
              refine yS (by kernel_rfl : opAt F40.o7 2 = some (some 32, .move (.tmp 31), none)) rfl rfl (fun w' hS => val_move rfl) ?_
              refine yS (by kernel_rfl : opAt F40.o7 3 = some (some 33, .move (.tmp 0), (some (2, false)))) rfl rfl (fun w' hS => val_move rfl) ?_
              refine yS (by kernel_rfl : opAt F40.o7 4 = some (some 34, .move (.tmp 10), (some (2, false)))) rfl rfl (fun w' hS => val_move rfl) ?_
              refine iS (e := 46) (by kernel_rfl : opAt F40.o7 5 = some (some 35, .indexAddr 23 (.tmp 33) (.tmp 34), (some (2, false)))) rfl rfl hl rfl (by kernel_rfl) rfl (by omega) (by omega) ?_
              intro b35 o35 h35
              try simp only [Int.toNat_natCast] at h35
              have h36 := RA.ew h35
              refine yS (by kernel_rfl : opAt F40.o7 6 = some (some 36, .fieldAddr 46 (.tmp 35) 2, (some (2, false)))) rfl rfl (fun w' hS => val_fieldAddr (off := 2) (by kernel_rfl) rfl) ?_
              refine lS (by kernel_rfl : opAt F40.o7 7 = some (some 37, .load 3 (.tmp 36), (some (2, false)))) rfl rfl (fun w' hS => h36.stay hS (by first | decide | (simp <;> omega))) h36 (by kernel_rfl) rfl rfl ?_
              intro v37 g37
              first | (obtain rfl := rv_nat.1 g37) | (obtain rfl := rv_int.1 g37)
              refine yS (by kernel_rfl : opAt F40.o7 8 = some (some 38, .binOp .leq 3 (.tmp 37) (.const (.int .i64 0)) 3, (some (2, false)))) rfl rfl (fun w' hS => val_F (val_leq rfl rfl) hB) ?_
              refine yS (by kernel_rfl : opAt F40.o7 9 = some (some 39, .pick (.tmp 32) (.const (.bool true)) (.tmp 38), none)) rfl rfl (fun w' hS => val_pick_f rfl rfl) ?_
              refine yS (by kernel_rfl : opAt F40.o7 10 = some (some 40, .move (.tmp 39), none)) rfl rfl (fun w' hS => val_move rfl) ?_
              refine yS (by kernel_rfl : opAt F40.o7 11 = some (some 41, .move (.tmp 7), (some (10, false)))) rfl rfl (fun w' hS => val_move rfl) ?_
              refine yS (by kernel_rfl : opAt F40.o7 12 = some (some 42, .fieldAddr 53 (.tmp 9) 1, (some (10, false)))) rfl rfl (fun w' hS => val_fieldAddr (off := 1) (by kernel_rfl) rfl) ?_
              refine yS (by kernel_rfl : opAt F40.o7 13 = some (some 43, .load 3 (.tmp 42), (some (10, false)))) rfl rfl (fun w' hS => val_loadOwn (hx.stay hS (by decide)) (by kernel_rfl) rfl rfl) ?_
              refine yS (by kernel_rfl : opAt F40.o7 14 = some (some 44, .lookup 87 (.tmp 41) (.tmp 43) false, (some (10, false)))) rfl rfl (fun w' hS => (hm.stay hS (by decide)).lookup (z0 := false) (k := (cs[k]'hkl).b) Try.underlying87 (keyOK_int Try.underlying3) Try.zeroValue4 rfl rfl) ?_
              rw [Bool.eq_false_iff.2 hC]
              refine yS (by kernel_rfl : opAt F40.o7 15 = some (some 45, .pick (.tmp 40) (.const (.bool true)) (.tmp 44), none)) rfl rfl (fun w' hS => val_pick_f rfl rfl) ?_
              refine yS (by kernel_rfl : opAt F40.o7 16 = some (some 46, .move (.tmp 45), none)) rfl rfl (fun w' hS => val_move rfl) ?_
              refine yS (by kernel_rfl : opAt F40.o7 17 = some (some 47, .move (.tmp 8), (some (16, false)))) rfl rfl (fun w' hS => val_move rfl) ?_
              refine yS (by kernel_rfl : opAt F40.o7 18 = some (some 48, .binOp .gtr 3 (.tmp 47) (.const (.int .i64 0)) 3, (some (16, false)))) rfl rfl (fun w' hS => val_F (val_gtr rfl rfl) hD) ?_
              refine yS (by kernel_rfl : opAt F40.o7 19 = some (some 49, .move (.tmp 48), (some (16, false)))) rfl rfl (fun w' hS => val_move rfl) ?_
              refine pS (by kernel_rfl : opAt F40.o7 20 = some (some 50, .move (.tmp 1), (some (19, true)))) rfl rfl ?_
              refine pS (by kernel_rfl : opAt F40.o7 21 = some (some 51, .move (.tmp 8), (some (19, true)))) rfl rfl ?_
              refine pS (by kernel_rfl : opAt F40.o7 22 = some (some 52, .binOp .sub 3 (.tmp 51) (.const (.int .i64 1)) 3, (some (19, true)))) rfl rfl ?_
              refine pS (by kernel_rfl : opAt F40.o7 23 = some (some 53, .indexAddr 24 (.tmp 50) (.tmp 52), (some (19, true)))) rfl rfl ?_
              refine pS (by kernel_rfl : opAt F40.o7 24 = some (some 54, .fieldAddr 53 (.tmp 53) 0, (some (19, true)))) rfl rfl ?_
              refine pS (by kernel_rfl : opAt F40.o7 25 = some (some 55, .load 3 (.tmp 54), (some (19, true)))) rfl rfl ?_
              refine pS (by kernel_rfl : opAt F40.o7 26 = some (some 56, .fieldAddr 53 (.tmp 9) 0, (some (19, true)))) rfl rfl ?_
              refine pS (by kernel_rfl : opAt F40.o7 27 = some (some 57, .load 3 (.tmp 56), (some (19, true)))) rfl rfl ?_
              refine pS (by kernel_rfl : opAt F40.o7 28 = some (some 58, .binOp .geq 3 (.tmp 55) (.tmp 57) 3, (some (19, true)))) rfl rfl ?_
              refine yS (by kernel_rfl : opAt F40.o7 29 = some (some 59, .pick (.tmp 49) (.tmp 58) (.const (.bool false)), (some (16, false)))) rfl rfl (fun w' hS => val_pick_f rfl rfl) ?_
              refine yS (by kernel_rfl : opAt F40.o7 30 = some (some 60, .pick (.tmp 46) (.const (.bool true)) (.tmp 59), none)) rfl rfl (fun w' hS => val_pick_f rfl rfl) ?_
              exact Sch.nil (hcut _ _ _ hcs rfl (by rw [decide_eq_false (fun e => e (hlast.2 (fun h => by omega)))]) (sub_skip rfl (sub_skip rfl (sub_skip rfl (sub_skip rfl (sub_skip rfl (sub_skip rfl (sub_skip rfl (sub_skip rfl (sub_skip rfl (sub_skip rfl (sub_skip rfl (sub_skip rfl (sub_skip rfl (sub_skip rfl (sub_skip rfl (sub_skip rfl (sub_skip rfl (sub_skip rfl (sub_skip rfl (sub_skip rfl (sub_skip rfl (sub_skip rfl (sub_skip rfl (sub_skip rfl (sub_skip rfl (sub_skip rfl (sub_skip rfl (sub_skip rfl (sub_skip rfl (sub_skip rfl (sub_skip rfl (Sub.refl _)))))))))))))))))))))))))))))))))
      · skip
        refine run_draw (id := 7) (ops := F40.o7) [] (Cw2) [(0, true), (1, true), (2, true), (3, true), (4, true), (5, true), (6, true), (7, true), (8, true), (9, true), (10, true), (11, true), (12, true), (13, true), (14, true), (15, true), (16, true), (17, true), (18, true), (19, true), (20, true), (21, true), (22, true), (23, true), (24, true), (25, true), (26, true), (27, true), (28, true), (29, true), (30, true)] Try_mixed (by kernel_rfl) (by kernel_rfl) (by kernel_rfl) ?_
        intro w9 hs
        replace hF := hF.st hs
        replace hT := hT.trans hs (by simp)
        replace hl := hl.st hs (by first | decide | (simp <;> omega))
        replace hc := hc.st hs (by first | decide | (simp <;> omega))
        replace hm := hm.st hs (by first | decide | (simp <;> omega))
        replace h18 := h18.st hs (by first | decide | (simp <;> omega))
        replace hx := hx.st hs (by first | decide | (simp <;> omega))
        have hcs := hs
        refine yS (by kernel_rfl : opAt F40.o7 0 = some (some 30, .move (.tmp 11), none)) rfl rfl (fun w' hS => val_is (val_move rfl) (show _ = Value.bool false from congrArg Value.bool (Bool.eq_false_iff.2 hA))) ?_
        refine yS (by kernel_rfl : opAt F40.o7 1 = some (some 31, .unOp .not 4 (.tmp 30), none)) rfl rfl (fun w' hS => val_not rfl) ?_
        refine yS (by kernel_rfl : opAt F40.o7 2 = some (some 32, .move (.tmp 31), none)) rfl rfl (fun w' hS => val_move rfl) ?_
        refine pS (by kernel_rfl : opAt F40.o7 3 = some (some 33, .move (.tmp 0), (some (2, false)))) rfl rfl ?_
        refine pS (by kernel_rfl : opAt F40.o7 4 = some (some 34, .move (.tmp 10), (some (2, false)))) rfl rfl ?_
        refine pS (by kernel_rfl : opAt F40.o7 5 = some (some 35, .indexAddr 23 (.tmp 33) (.tmp 34), (some (2, false)))) rfl rfl ?_
        refine pS (by kernel_rfl : opAt F40.o7 6 = some (some 36, .fieldAddr 46 (.tmp 35) 2, (some (2, false)))) rfl rfl ?_
        refine pS (by kernel_rfl : opAt F40.o7 7 = some (some 37, .load 3 (.tmp 36), (some (2, false)))) rfl rfl ?_
        refine pS (by kernel_rfl : opAt F40.o7 8 = some (some 38, .binOp .leq 3 (.tmp 37) (.const (.int .i64 0)) 3, (some (2, false)))) rfl rfl ?_
        refine yS (by kernel_rfl : opAt F40.o7 9 = some (some 39, .pick (.tmp 32) (.const (.bool true)) (.tmp 38), none)) rfl rfl (fun w' hS => val_pick_t rfl rfl) ?_
        refine yS (by kernel_rfl : opAt F40.o7 10 = some (some 40, .move (.tmp 39), none)) rfl rfl (fun w' hS => val_move rfl) ?_
        refine pS (by kernel_rfl : opAt F40.o7 11 = some (some 41, .move (.tmp 7), (some (10, false)))) rfl rfl ?_
        refine pS (by kernel_rfl : opAt F40.o7 12 = some (some 42, .fieldAddr 53 (.tmp 9) 1, (some (10, false)))) rfl rfl ?_
        refine pS (by kernel_rfl : opAt F40.o7 13 = some (some 43, .load 3 (.tmp 42), (some (10, false)))) rfl rfl ?_
        refine pS (by kernel_rfl : opAt F40.o7 14 = some (some 44, .lookup 87 (.tmp 41) (.tmp 43) false, (some (10, false)))) rfl rfl ?_
        refine yS (by kernel_rfl : opAt F40.o7 15 = some (some 45, .pick (.tmp 40) (.const (.bool true)) (.tmp 44), none)) rfl rfl (fun w' hS => val_pick_t rfl rfl) ?_
        refine yS (by kernel_rfl : opAt F40.o7 16 = some (some 46, .move (.tmp 45), none)) rfl rfl (fun w' hS => val_move rfl) ?_
        refine pS (by kernel_rfl : opAt F40.o7 17 = some (some 47, .move (.tmp 8), (some (16, false)))) rfl rfl ?_
        refine pS (by kernel_rfl : opAt F40.o7 18 = some (some 48, .binOp .gtr 3 (.tmp 47) (.const (.int .i64 0)) 3, (some (16, false)))) rfl rfl ?_
        refine pS (by kernel_rfl : opAt F40.o7 19 = some (some 49, .move (.tmp 48), (some (16, false)))) rfl rfl ?_
        refine pS (by kernel_rfl : opAt F40.o7 20 = some (some 50, .move (.tmp 1), (some (19, true)))) rfl rfl ?_
        refine pS (by kernel_rfl : opAt F40.o7 21 = some (some 51, .move (.tmp 8), (some (19, true)))) rfl rfl ?_
        refine pS (by kernel_rfl : opAt F40.o7 22 = some (some 52, .binOp .sub 3 (.tmp 51) (.const (.int .i64 1)) 3, (some (19, true)))) rfl rfl ?_
        refine pS (by kernel_rfl : opAt F40.o7 23 = some (some 53, .indexAddr 24 (.tmp 50) (.tmp 52), (some (19, true)))) rfl rfl ?_
        refine pS (by kernel_rfl : opAt F40.o7 24 = some (some 54, .fieldAddr 53 (.tmp 53) 0, (some (19, true)))) rfl rfl ?_
        refine pS (by kernel_rfl : opAt F40.o7 25 = some (some 55, .load 3 (.tmp 54), (some (19, true)))) rfl rfl ?_
        refine pS (by kernel_rfl : opAt F40.o7 26 = some (some 56, .fieldAddr 53 (.tmp 9) 0, (some (19, true)))) rfl rfl ?_
        refine pS (by kernel_rfl : opAt F40.o7 27 = some (some 57, .load 3 (.tmp 56), (some (19, true)))) rfl rfl ?_
        refine pS (by kernel_rfl : opAt F40.o7 28 = some (some 58, .binOp .geq 3 (.tmp 55) (.tmp 57) 3, (some (19, true)))) rfl rfl ?_
        refine pS (by kernel_rfl : opAt F40.o7 29 = some (some 59, .pick (.tmp 49) (.tmp 58) (.const (.bool false)), (some (16, false)))) rfl rfl ?_
        refine yS (by kernel_rfl : opAt F40.o7 30 = some (some 60, .pick (.tmp 46) (.const (.bool true)) (.tmp 59), none)) rfl rfl (fun w' hS => val_pick_t rfl rfl) ?_
        exact Sch.nil (hcut _ _ _ hcs rfl (by rw [decide_eq_true (show ¬ okC l cs k from okC.no1 hcx (hb2 (Bool.eq_false_iff.2 hA)))]) (sub_skip rfl (sub_skip rfl (sub_skip rfl (sub_skip rfl (sub_skip rfl (sub_skip rfl (sub_skip rfl (sub_skip rfl (sub_skip rfl (sub_skip rfl (sub_skip rfl (sub_skip rfl (sub_skip rfl (sub_skip rfl (sub_skip rfl (sub_skip rfl (sub_skip rfl (sub_skip rfl (sub_skip rfl (sub_skip rfl (sub_skip rfl (sub_skip rfl (sub_skip rfl (sub_skip rfl (sub_skip rfl (sub_skip rfl (sub_skip rfl (sub_skip rfl (sub_skip rfl (sub_skip rfl (sub_skip rfl (Sub.refl _)))))))))))))))))))))))))))))))))
    intro w10 hs
    replace hF := hF.st hs
    replace hT := hT.trans hs (by simp)
    replace hl := hl.st hs (by first | decide | (simp <;> omega))
    replace hc := hc.st hs (by first | decide | (simp <;> omega))
    replace hm := hm.st hs (by first | decide | (simp <;> omega))
    replace h18 := h18.st hs (by first | decide | (simp <;> omega))
    replace hx := hx.st hs (by first | decide | (simp <;> omega))
    refine run_if (x := F40.c27) (y := F40.c30) (o := .tmp 60) (by kernel_rfl) rfl (fun h60 => ?_) (fun h60 => ?_)
    · skip
      refine run_seq (x := F40.c28) (y := F40.c29) (by kernel_rfl) ?_
      refine run_plain (id := 8) (ops := F40.o8) [(0, true), (1, true)] (by kernel_rfl) (by kernel_rfl) ?_
      refine yS (by kernel_rfl : opAt F40.o8 0 = some (some 4, .assign (.const (.int .i64 0)), none)) rfl rfl (fun w' hS => val_assign rfl) ?_
      refine yS (by kernel_rfl : opAt F40.o8 1 = some (some 5, .assign (.const (.bool false)), none)) rfl rfl (fun w' hS => val_assign rfl) ?_
      refine Sch.nil ?_
      refine run_ret2 (by kernel_rfl) Try.func40 Try.results40 rfl rfl ?_
      exact ⟨_, false, rfl, hT.out1 (by decide), ⟨fun e => (by cases e), fun e => absurd (e k hkl) h60⟩, fun e => (by cases e)⟩
    · skip
      have hok : okC l cs k := Classical.not_not.1 h60
      have hbt : bb = true := by
        cases e : bb with
        | true => rfl
        | false => exact absurd hok (okC.no1 hcx (hb2 e))
      obtain ⟨hkk, hke⟩ := hb1 hbt
      have hwp : 0 < (l[kk]'hkk).w := by
        rcases Int.lt_or_le 0 (l[kk]'hkk).w with h | h
        · exact h
        · exact absurd hok (okC.no2 hV.ord hcx (List.getElem_mem hkk) hke h)
      have hwo := (hV.ok _ (List.getElem_mem hkk)).2
      have hts : totL l cs (k + 1) = totL l cs k + (l[kk]'hkk).w := by
        show totL l cs k + edW l cs[k]!.a.toNat cs[k]!.b.toNat = _
        rw [hcx, show (cs[k]'hkl).a = (l[kk]'hkk).a from by have := congrArg Couple.a hke; exact this.symm, show (cs[k]'hkl).b = (l[kk]'hkk).b from by have := congrArg Couple.b hke; exact this.symm, hV.at_ (List.getElem_mem hkk)]
      refine run_skip (by kernel_rfl) ?_
      refine run_seq (x := F40.c32) (y := F40.c33) (by kernel_rfl) ?_
      refine run_plain (id := 9) (ops := F40.o9) [(0, true), (1, true), (2, false), (3, false)] (by kernel_rfl) (by kernel_rfl) ?_
      refine yS (by kernel_rfl : opAt F40.o9 0 = some (some 61, .move (.tmp 7), none)) rfl rfl (fun w' hS => val_move rfl) ?_
      refine yS (by kernel_rfl : opAt F40.o9 1 = some (some 62, .fieldAddr 53 (.tmp 9) 1, none)) rfl rfl (fun w' hS => val_fieldAddr (off := 1) (by kernel_rfl) rfl) ?_
      refine nS (by kernel_rfl : opAt F40.o9 2 = some (some 63, .load 3 (.tmp 62), none)) rfl rfl trivial (val_loadOwn hx.at_ (by kernel_rfl) rfl rfl) ?_
      refine aN (by kernel_rfl : opAt F40.o9 3 = some (none, .mapUpdate 87 (.tmp 61) (.tmp 63) (.const (.bool true)), none)) rfl (a_mapUpdate (k := (cs[k]'hkl).b) (u := true) hm Try.underlying87 (keyOK_int Try.underlying3) rfl rfl rfl) ?_
      rintro _ w11 ⟨rfl, hs, hm⟩
      refine ⟨trivial, ?_⟩
      replace hF := hF.st hs
      replace hT := hT.trans hs (by simp)
      replace hl := hl.st hs (by first | decide | (simp <;> omega))
      replace hc := hc.st hs (by first | decide | (simp <;> omega))
      replace h18 := h18.st hs (by first | decide | (simp <;> omega))
      replace hx := hx.st hs (by first | decide | (simp <;> omega))
      refine Sch.nil ?_
      refine run_plain (id := 10) (ops := F40.o10) [(0, true), (1, true), (2, true), (3, true), (4, true), (5, false), (6, true), (7, true)] (by kernel_rfl) (by kernel_rfl) ?_
      refine yS (by kernel_rfl : opAt F40.o10 0 = some (some 64, .move (.tmp 6), none)) rfl rfl (fun w' hS => val_move rfl) ?_
      refine yS (by kernel_rfl : opAt F40.o10 1 = some (some 65, .move (.tmp 0), none)) rfl rfl (fun w' hS => val_move rfl) ?_
      refine yS (by kernel_rfl : opAt F40.o10 2 = some (some 66, .move (.tmp 10), none)) rfl rfl (fun w' hS => val_move rfl) ?_
      refine iS (e := 46) (by kernel_rfl : opAt F40.o10 3 = some (some 67, .indexAddr 23 (.tmp 65) (.tmp 66), none)) rfl rfl hl rfl (by kernel_rfl) rfl (by omega) (by omega) ?_
      intro b67 o67 h67
      try simp only [Int.toNat_natCast] at h67
      have h68 := RA.ew h67
      refine yS (by kernel_rfl : opAt F40.o10 4 = some (some 68, .fieldAddr 46 (.tmp 67) 2, none)) rfl rfl (fun w' hS => val_fieldAddr (off := 2) (by kernel_rfl) rfl) ?_
      refine lN (by kernel_rfl : opAt F40.o10 5 = some (some 69, .load 3 (.tmp 68), none)) rfl rfl trivial h68 (by kernel_rfl) rfl rfl ?_
      intro v69 g69
      first | (obtain rfl := rv_nat.1 g69) | (obtain rfl := rv_int.1 g69)
      refine yS (by kernel_rfl : opAt F40.o10 6 = some (some 70, .binOp .add 3 (.tmp 64) (.tmp 69) 3, none)) rfl rfl (fun w' hS => val_addi rfl rfl (by omega) (by omega)) ?_
      refine yS (by kernel_rfl : opAt F40.o10 7 = some (some 6, .assign (.tmp 70), none)) rfl rfl (fun w' hS => val_assign rfl) ?_
      refine Sch.nil ?_
      rw [← hts]
      refine run_inBlock ?_
      refine run_plain (id := 11) (ops := F40.o11) [(0, true), (1, true)] (by kernel_rfl) (by kernel_rfl) ?_
      refine yS (by kernel_rfl : opAt F40.o11 0 = some (some 71, .binOp .add 3 (.tmp 15) (.const (.int .i64 1)) 3, none)) rfl rfl (fun w' hS => val_addi rfl rfl (by omega) (by omega)) ?_
      refine yS (by kernel_rfl : opAt F40.o11 1 = some (some 15, .move (.tmp 71), none)) rfl rfl (fun w' hS => val_move rfl) ?_
      refine Sch.nil ?_
      refine kp (sub_cons 0 rfl rfl (sub_cons 1 rfl rfl (sub_cons 6 rfl rfl (sub_cons 7 rfl rfl (sub_cons 13 rfl rfl (sub_cons 14 rfl rfl (sub_cons 15 rfl (eq_int (by simp)) (sub_nil _)))))))) (next1 (k + 1, mput um (cs[k]'hkl).b true, Cw2) _ ⟨(by first | omega | (simp only; omega)), (fun q hq => by
          simp only at hq
          by_cases e : q = k
          · subst e; exact hok
          · exact h0 q (by omega)), (hu.put (by rw [hcx])), (by simp only; omega), (by simp only; omega), hF, hT, hl, hc, hm⟩ (by first | omega | (simp only; omega)))
  · skip
    have hkl : k = cs.length := by omega
    rw [hkl]
    rw [hkl] at h0
    refine run_exit (id := 0) (by kernel_rfl) rfl ?_
    refine run_seq (x := F40.c36) (y := F40.c37) (by kernel_rfl) ?_
    refine run_plain (id := 12) (ops := F40.o12) [(0, true), (1, true), (2, true)] (by kernel_rfl) (by kernel_rfl) ?_
    refine yS (by kernel_rfl : opAt F40.o12 0 = some (some 72, .move (.tmp 6), none)) rfl rfl (fun w' hS => val_move rfl) ?_
    refine yS (by kernel_rfl : opAt F40.o12 1 = some (some 4, .assign (.tmp 72), none)) rfl rfl (fun w' hS => val_assign rfl) ?_
    refine yS (by kernel_rfl : opAt F40.o12 2 = some (some 5, .assign (.const (.bool true)), none)) rfl rfl (fun w' hS => val_assign rfl) ?_
    refine Sch.nil ?_
    refine run_ret2 (by kernel_rfl) Try.func40 Try.results40 rfl rfl ?_
    exact ⟨_, true, rfl, hT.out1 (by decide), ⟨fun _ => h0, fun _ => rfl⟩, fun _ => rfl⟩
end Go.Proofs.Ytgooehopkmbkfaa
