/- Steps through functions of the program. -/
import Derived.Test.YtbdlkdiadplmcaaJX2
import Derived.Test.YtbdlkdiadplmcaaL1
import Derived.Test.YtbdlkdiadplmcaaShelf
set_option linter.unusedVariables false
set_option linter.unusedSimpArgs false
set_option maxRecDepth 100000
set_option maxHeartbeats 4000000
namespace Go.Proofs.Ytbdlkdiadplmcaa
open Go.K Go.K.Rep

theorem sortGrp_ok {w : World} {C : Nat → Nat} {cl : List Bits} {v : Value} (hF : Lim w C) (ho : OwnL w C 3 69 v (grpsOf cl cl.length)) (hlen : (grpsOf cl cl.length).length ≤ 140737488355328) :
    Calls Try.prog 34 #[v, .func (.func 35) #[] #[]] w (Ret fun u w' => Stp [3] w C w' C ∧ OwnL w' C 3 69 v (grpsOf cl cl.length) ∧ Lim w' C) := by
  refine (sort_id (cf := fun x y : Grp => cmpI (x.mem.headD 0) (y.mem.headD 0)) Go.Proofs.Try.sortGroup (fun w => Try.isAgg69 w) (fun w => Try.sizeOf69 w) (by decide) rfl grps_asc (fun x _ => cmpI_zero.2 rfl) (fun args w => Try.call35 args w)
    (fun W hs hl x hx y hy vx vy h1 h2 => ?_) (by decide) hF ho hlen).mono ?_
  · obtain ⟨u, m, rfl, _, hm⟩ := rv_grp.1 h1
    obtain ⟨u2, m2, rfl, _, hm2⟩ := rv_grp.1 h2
    exact grpCmp_ok hl hm hm2 (grps_pos hx) (grps_pos hy)
  · rintro e w' ⟨u, rfl, _, h1, h2, h3⟩
    exact ⟨u, rfl, h1, h2, h3⟩

namespace F11
noncomputable def c0 : Code := bodyOf Try.f11
noncomputable def c1 : Code := cl c0
noncomputable def o0 : Array Oper := rops c1
noncomputable def c2 : Code := cr c0
noncomputable def c3 : Code := cl c2
noncomputable def o1 : Array Oper := rops c3
noncomputable def c4 : Code := cr c2
noncomputable def c5 : Code := cl c4
noncomputable def c6 : Code := cl c5
noncomputable def o2 : Array Oper := rops c6
noncomputable def c7 : Code := cr c5
noncomputable def c8 : Code := cl c7
noncomputable def c9 : Code := cl c8
noncomputable def c10 : Code := cl c9
noncomputable def o3 : Array Oper := rops c10
noncomputable def c11 : Code := cr c9
noncomputable def c12 : Code := cl c11
noncomputable def c13 : Code := cl c12
noncomputable def c14 : Code := cr c12
noncomputable def c15 : Code := cr c11
noncomputable def c16 : Code := cl c15
noncomputable def c17 : Code := cl c16
noncomputable def c18 : Code := cl c17
noncomputable def o4 : Array Oper := rops c18
noncomputable def c19 : Code := cr c17
noncomputable def c20 : Code := cl c19
noncomputable def c21 : Code := cl c20
noncomputable def o5 : Array Oper := rops c21
noncomputable def c22 : Code := cr c20
noncomputable def c23 : Code := cl c22
noncomputable def c24 : Code := cr c22
noncomputable def c25 : Code := cr c19
noncomputable def c26 : Code := cl c25
noncomputable def o6 : Array Oper := rops c26
noncomputable def c27 : Code := cr c25
noncomputable def c28 : Code := cl c27
noncomputable def c29 : Code := cl c28
noncomputable def o7 : Array Oper := rops c29
noncomputable def c30 : Code := cr c28
noncomputable def c31 : Code := cl c30
noncomputable def c32 : Code := cl c31
noncomputable def o8 : Array Oper := rops c32
noncomputable def c33 : Code := cr c31
noncomputable def o9 : Array Oper := rops c33
noncomputable def c34 : Code := cr c30
noncomputable def c35 : Code := cr c27
noncomputable def o10 : Array Oper := rops c35
noncomputable def c36 : Code := cr c15
noncomputable def o11 : Array Oper := rops c36
noncomputable def c37 : Code := cr c4
noncomputable def c38 : Code := cl c37
noncomputable def o12 : Array Oper := rops c38
noncomputable def c39 : Code := cr c37
noncomputable def c40 : Code := cl c39
noncomputable def o13 : Array Oper := rops c40
noncomputable def c41 : Code := cr c39
noncomputable def c42 : Code := cl c41
noncomputable def c43 : Code := cl c42
noncomputable def o14 : Array Oper := rops c43
noncomputable def c44 : Code := cr c42
noncomputable def c45 : Code := cl c44
noncomputable def c46 : Code := cl c45
noncomputable def c47 : Code := cl c46
noncomputable def o15 : Array Oper := rops c47
noncomputable def c48 : Code := cr c46
noncomputable def c49 : Code := cl c48
noncomputable def c50 : Code := cl c49
noncomputable def c51 : Code := cr c49
noncomputable def c52 : Code := cr c48
noncomputable def c53 : Code := cl c52
noncomputable def c54 : Code := cl c53
noncomputable def c55 : Code := cl c54
noncomputable def o16 : Array Oper := rops c55
noncomputable def c56 : Code := cr c54
noncomputable def o17 : Array Oper := rops c56
noncomputable def c57 : Code := cr c52
noncomputable def o18 : Array Oper := rops c57
noncomputable def c58 : Code := cr c41
noncomputable def c59 : Code := cl c58
noncomputable def o19 : Array Oper := rops c59
noncomputable def c60 : Code := cr c58
end F11
/-- 'Groups'. -/
theorem groups_ok {w₀ : World} {C : Nat → Nat} {cl : List Bits} {vc : Value} (hF : Lim w₀ C) (hc : RV w₀ (Mc C) cl vc) (hlen : cl.length ≤ 1000) : Calls Try.prog 11 #[vc] w₀ (Ret fun v w' => Stp [] w₀ C w' C ∧ RV w' (Mc C) (grpsOf cl cl.length) v) := by
  have hF0 := hF
  have hT := Stp.refl [2, 3, 4, 5, 6, 7, 8, 9] w₀ (col1 C)
  replace hF := hF.col1
  replace hc : RV w₀ (Mc (col1 C)) cl vc := by rw [Mc_col1]; exact hc
  refine calls_start (c := F11.c0) (N := 68) [vc] Try.func11 (by kernel_rfl) (by kernel_rfl) (by kernel_rfl) ?_
  show Run _ _ _ _ [(0, vc)] _ _
  refine run_seq (x := F11.c1) (y := F11.c2) (by kernel_rfl) ?_
  refine run_plain (id := 0) (ops := F11.o0) [(0, true)] (by kernel_rfl) (by kernel_rfl) ?_
  refine yS (by kernel_rfl : opAt F11.o0 0 = some (some 2, .assign (.const (.slice none 0 0)), none)) rfl rfl (fun w' hS => val_assign rfl) ?_
  refine Sch.nil ?_
  refine run_seq (x := F11.c3) (y := F11.c4) (by kernel_rfl) ?_
  refine run_plain (id := 1) (ops := F11.o1) [(0, true)] (by kernel_rfl) (by kernel_rfl) ?_
  refine yS (by kernel_rfl : opAt F11.o1 0 = some (some 3, .assign (.const (.slice none 0 0)), none)) rfl rfl (fun w' hS => val_assign rfl) ?_
  refine Sch.nil ?_
  refine run_seq (x := F11.c5) (y := F11.c37) (by kernel_rfl) ?_
  refine run_seq (x := F11.c6) (y := F11.c7) (by kernel_rfl) ?_
  refine run_plain (id := 2) (ops := F11.o2) [(0, true), (1, true), (2, true)] (by kernel_rfl) (by kernel_rfl) ?_
  refine yS (by kernel_rfl : opAt F11.o2 0 = some (some 10, .move (.tmp 0), none)) rfl rfl (fun w' hS => val_move rfl) ?_
  refine yS (by kernel_rfl : opAt F11.o2 1 = some (some 11, .call { callee := .builtin .len, args := #[(.tmp 10)], argTypes := #[27] }, none)) rfl rfl (fun w' hS => hc.lenV rfl Try.underlying27 w' ) ?_
  refine yS (by kernel_rfl : opAt F11.o2 2 = some (some 12, .move (.const (.int .i64 0)), none)) rfl rfl (fun w' hS => val_move rfl) ?_
  refine Sch.nil ?_
  refine run_block (x := F11.c8) (id := 0) (by kernel_rfl) ?_
  replace hT : Stp ([2, 3, 4, 5, 6, 7, 8, 9] ++ List.range' 10 (cl.length + 1)) w₀ (col1 C) _ _ := hT.mono (by intro c hc; exact List.mem_append_left _ hc)
  refine run_loop (ι := Nat × Value × (Nat → Value) × (Nat → Value) × (Nat → Nat)) (I := fun x w => x.1 ≤ cl.length ∧ Lim w x.2.2.2.2 ∧ Stp ([2, 3, 4, 5, 6, 7, 8, 9] ++ List.range' 10 (cl.length + 1)) w₀ (col1 C) w x.2.2.2.2 ∧ RV w (Mc x.2.2.2.2) cl vc ∧ OwnL w x.2.2.2.2 3 69 x.2.1 (gvs cl x.1 x.2.2.1 x.2.2.2.1) ∧ (∀ g, g < (fsts cl x.1).length → RV w (Mc x.2.2.2.2) (atB cl ((fsts cl x.1).getD g 0)).words (x.2.2.1 g)) ∧ (∀ g, g < (fsts cl x.1).length → OwnL w x.2.2.2.2 (10 + g) 3 (x.2.2.2.1 g) (ints (mems cl x.1 g)))) (e := fun x => [(3, x.2.1), (10, vc), (11, .int .i64 cl.length), (12, .int .i64 x.1)]) (m := fun x => cl.length - x.1) (x₀ := (0, .slice none 0 0, fun _ => .slice none 0 0, fun _ => .slice none 0 0, col1 C)) (body := F11.c9) (by kernel_rfl) (sub_cons 3 rfl rfl (sub_cons 10 rfl rfl (sub_cons 11 rfl rfl (sub_cons 12 rfl rfl (sub_nil _))))) ?_ ?_
  · exact ⟨Nat.zero_le _, hF, hT, hc, gvs_start, fun g hg => (fsts_no hg).elim, fun g hg => (fsts_no hg).elim⟩
  intro ⟨i, vo, wf, mf, C1⟩ w1 hI next
  obtain ⟨hi, hF, hT, hc, ho, hwd, hin⟩ := hI
  try simp only at hi hF hT hc ho hwd hin
  have next1 := next
  clear next
  show Run _ _ _ _ [(3, vo), (10, vc), (11, .int .i64 cl.length), (12, .int .i64 i)] _ _
  have hfl := fsts_le (cl := cl) (k := i)
  have hgl := gvs_len (cl := cl) (k := i) (wf := wf) (mf := mf)
  refine run_seq (x := F11.c10) (y := F11.c11) (by kernel_rfl) ?_
  refine run_plain (id := 3) (ops := F11.o3) [(0, true)] (by kernel_rfl) (by kernel_rfl) ?_
  refine yS (by kernel_rfl : opAt F11.o3 0 = some (some 13, .binOp .lss 3 (.tmp 12) (.tmp 11) 3, none)) rfl rfl (fun w' hS => val_lss rfl rfl) ?_
  refine Sch.nil ?_
  refine run_seq (x := F11.c12) (y := F11.c15) (by kernel_rfl) ?_
  refine run_if (x := F11.c13) (y := F11.c14) (o := .tmp 13) (by kernel_rfl) rfl (fun h13 => ?_) (fun h13 => ?_)
  · skip
    have hil : i < cl.length := by omega
    have hat : atB cl i = cl[i] := getDi _
    refine run_skip (by kernel_rfl) ?_
    refine run_seq (x := F11.c16) (y := F11.c36) (by kernel_rfl) ?_
    refine run_block (x := F11.c17) (id := 1) (by kernel_rfl) ?_
    refine run_seq (x := F11.c18) (y := F11.c19) (by kernel_rfl) ?_
    refine run_plain (id := 4) (ops := F11.o4) [(0, true), (1, true), (2, false), (3, false), (4, true), (5, false)] (by kernel_rfl) (by kernel_rfl) ?_
    refine yS (by kernel_rfl : opAt F11.o4 0 = some (some 14, .move (.tmp 12), none)) rfl rfl (fun w' hS => val_move rfl) ?_
    refine iS (e := 33) (by kernel_rfl : opAt F11.o4 1 = some (some 15, .indexAddr 27 (.tmp 10) (.tmp 12), none)) rfl rfl hc rfl (by kernel_rfl) rfl (by omega) (by omega) ?_
    intro b15 o15 h15
    try simp only [Int.toNat_natCast] at h15
    refine lNA (by kernel_rfl : opAt F11.o4 2 = some (some 16, .load 33 (.tmp 15), none)) rfl rfl trivial h15 (by kernel_rfl) (by kernel_rfl) rfl rfl ?_
    intro v16 g16
    obtain ⟨u, rfl, hwx⟩ := rv_bits.1 g16
    clear g16
    refine aS (by kernel_rfl : opAt F11.o4 3 = some (some 5, .alloc 33, none)) rfl rfl (a_alloc (cs := [.int .i64 0, .slice none 0 0]) hF 4 (by kernel_rfl)) ?_
    rintro _ w2 ⟨Cw2, bw2, rfl, hs, hb, hF⟩
    refine ⟨trivial, ?_⟩
    replace hT := hT.trans hs (by simp)
    replace hc := hc.st hs (by first | decide | (simp <;> omega))
    replace ho := ho.st hs (by first | decide | (simp <;> omega)) (by first | decide | (simp <;> omega))
    replace hwd := fun k hk => (hwd k hk).st hs (by first | decide | (simp <;> omega))
    replace hin := fun k hk => (hin k hk).st hs (by simp <;> omega) (by simp <;> omega)
    replace h15 := h15.st hs (by first | decide | (simp <;> omega))
    replace hwx := hwx.st hs (by first | decide | (simp <;> omega))
    refine yS (by kernel_rfl : opAt F11.o4 4 = some (some 4, .assign (.tmp 14), none)) rfl rfl (fun w' hS => val_assign rfl) ?_
    refine aN (by kernel_rfl : opAt F11.o4 5 = some (none, .store 33 (.tmp 5) (.tmp 16), none)) rfl (a_storeAll (vs := [.int .i64 (cl[i]'hil).len, u]) (n := 2) rfl rfl (by kernel_rfl) rfl rfl (by intro z hz; simp only [List.mem_cons, List.not_mem_nil, or_false] at hz; rcases hz with rfl | rfl <;> first | rfl | exact (hwx.one rfl).2) hb rfl) ?_
    rintro _ w3 ⟨rfl, hs, hb⟩
    refine ⟨trivial, ?_⟩
    replace hF := hF.st hs
    replace hT := hT.trans hs (by simp)
    replace hc := hc.st hs (by first | decide | (simp <;> omega))
    replace ho := ho.st hs (by first | decide | (simp <;> omega)) (by first | decide | (simp <;> omega))
    replace hwd := fun k hk => (hwd k hk).st hs (by first | decide | (simp <;> omega))
    replace hin := fun k hk => (hin k hk).st hs (by simp <;> omega) (by simp <;> omega)
    replace h15 := h15.st hs (by first | decide | (simp <;> omega))
    replace hwx := hwx.st hs (by first | decide | (simp <;> omega))
    refine Sch.nil ?_
    refine run_seq (x := F11.c20) (y := F11.c25) (by kernel_rfl) ?_
    refine run_seq (x := F11.c21) (y := F11.c22) (by kernel_rfl) ?_
    refine run_plain (id := 5) (ops := F11.o5) [(0, false), (1, false), (2, true)] (by kernel_rfl) (by kernel_rfl) ?_
    refine nS (by kernel_rfl : opAt F11.o5 0 = some (some 17, .load 33 (.tmp 5), none)) rfl rfl trivial (val_loadOwnAgg (n := 2) (vs := [.int .i64 (cl[i]'hil).len, u]) hb.at_ (by kernel_rfl) (by kernel_rfl) rfl rfl rfl) ?_
    refine cS (by kernel_rfl : opAt F11.o5 1 = some (some 18, .call { callee := .value (.func 29), args := #[(.tmp 17)], argTypes := #[33] }, none)) rfl rfl (ent Try.call29 rfl) (valid_ok hF hwx) ?_
    rintro vw4 w4 ⟨rfl, hs⟩
    refine ⟨trivial, ?_⟩
    replace hF := hF.st hs
    replace hT := hT.trans hs (by simp)
    replace hc := hc.st hs (by first | decide | (simp <;> omega))
    replace ho := ho.st hs (by first | decide | (simp <;> omega)) (by first | decide | (simp <;> omega))
    replace hwd := fun k hk => (hwd k hk).st hs (by first | decide | (simp <;> omega))
    replace hin := fun k hk => (hin k hk).st hs (by simp <;> omega) (by simp <;> omega)
    replace h15 := h15.st hs (by first | decide | (simp <;> omega))
    replace hwx := hwx.st hs (by first | decide | (simp <;> omega))
    replace hb := hb.st hs (by first | decide | (simp <;> omega))
    refine yS (by kernel_rfl : opAt F11.o5 2 = some (some 19, .unOp .not 4 (.tmp 18), none)) rfl rfl (fun w' hS => val_not rfl) ?_
    refine Sch.nil ?_
    refine run_cond (x := F11.c23) (y := F11.c24) (o := .tmp 19) (by kernel_rfl) rfl (fun h19 => ?_) (fun h19 => ?_)
    · skip
      have hv : validB (atB cl i) = false := by rw [hat]; simpa using h19
      have hvi := fsts_skip hv
      refine run_exit (id := 1) (by kernel_rfl) rfl ?_
      refine run_plain (id := 11) (ops := F11.o11) [(0, true), (1, true)] (by kernel_rfl) (by kernel_rfl) ?_
      refine yS (by kernel_rfl : opAt F11.o11 0 = some (some 52, .binOp .add 3 (.tmp 12) (.const (.int .i64 1)) 3, none)) rfl rfl (fun w' hS => val_addi rfl rfl (by omega) (by omega)) ?_
      refine yS (by kernel_rfl : opAt F11.o11 1 = some (some 12, .move (.tmp 52), none)) rfl rfl (fun w' hS => val_move rfl) ?_
      refine Sch.nil ?_
      have e1 : fsts cl (i + 1) = fsts cl i := by show firstsS _ _ = firstsS _ _; rw [hvi]
      have e2 : ∀ g, mems cl (i + 1) g = mems cl i g := fun g => by show (groupS _ _).getD g [] = (groupS _ _).getD g []; rw [hvi]
      refine kp (sub_cons 3 rfl rfl (sub_cons 10 rfl rfl (sub_cons 11 rfl rfl (sub_cons 12 rfl (eq_int (by simp)) (sub_nil _))))) (next1 (i + 1, vo, wf, mf, Cw2) _ ⟨(by first | omega | (simp only; omega)), hF, hT, hc, (by simp only; rw [gvs_same e1]; exact ho), (fun g hg => by simp only at hg ⊢; rw [e1] at hg ⊢; exact hwd g hg), (fun g hg => by simp only at hg ⊢; rw [e1] at hg; rw [e2]; exact hin g hg)⟩ (by first | omega | (simp only; omega)))
    · skip
      have hv : validB (atB cl i) = true := by rw [hat]; simpa using h19
      have hvx := validB_iff.1 hv
      rw [hat] at hvx
      refine run_skip (by kernel_rfl) ?_
      refine run_seq (x := F11.c26) (y := F11.c27) (by kernel_rfl) ?_
      refine run_plain (id := 6) (ops := F11.o6) [(0, true), (1, true), (2, false), (3, true)] (by kernel_rfl) (by kernel_rfl) ?_
      refine yS (by kernel_rfl : opAt F11.o6 0 = some (some 20, .move (.tmp 3), none)) rfl rfl (fun w' hS => val_move rfl) ?_
      refine yS (by kernel_rfl : opAt F11.o6 1 = some (some 21, .makeFunc (.func 31) #[] #[(.tmp 5)], none)) rfl rfl (fun w' hS => val_makeFunc rfl rfl) ?_
      refine cS (by kernel_rfl : opAt F11.o6 2 = some (some 22, .call { callee := .value (.func 30), args := #[(.tmp 20), (.tmp 21)], argTypes := #[66, 70] }, none)) rfl rfl (ent Try.call30 rfl) (findGrp_ok (gs := grpsOf cl i) (y := (cl[i]'hil)) (hF.frz 3) (rv_grps (ho.frz (n := 3) (by decide) (by omega)) (fun g hg => (hwd g hg).frz 3) (fun g hg => (hin g hg).frz (n := 3) (by omega) (by rw [ints_len]; have := mems_len (cl := cl) (k := i) (g := g); omega))) (hb.fra (n := 3) (by decide) ⟨[.int .i64 (cl[i]'hil).len], [u], rfl, rfl, (hwx.frz 3).rep1 rfl⟩)) ?_
      rintro vw5 w5 ⟨kk, rfl, hs0, hfind⟩
      have hs := hs0.unfrz (Cw2)
      refine ⟨trivial, ?_⟩
      replace hF := hF.st hs
      replace hT := hT.trans hs (by simp)
      replace hc := hc.st hs (by first | decide | (simp <;> omega))
      replace ho := ho.st hs (by first | decide | (simp <;> omega)) (by first | decide | (simp <;> omega))
      replace hwd := fun k hk => (hwd k hk).st hs (by first | decide | (simp <;> omega))
      replace hin := fun k hk => (hin k hk).st hs (by simp <;> omega) (by simp <;> omega)
      replace h15 := h15.st hs (by first | decide | (simp <;> omega))
      replace hwx := hwx.st hs (by first | decide | (simp <;> omega))
      replace hb := hb.st hs (by first | decide | (simp <;> omega))
      refine yS (by kernel_rfl : opAt F11.o6 3 = some (some 6, .assign (.tmp 22), none)) rfl rfl (fun w' hS => val_assign rfl) ?_
      refine Sch.nil ?_
      refine run_seq (x := F11.c28) (y := F11.c35) (by kernel_rfl) ?_
      refine run_seq (x := F11.c29) (y := F11.c30) (by kernel_rfl) ?_
      refine run_plain (id := 7) (ops := F11.o7) [(0, true), (1, true)] (by kernel_rfl) (by kernel_rfl) ?_
      refine yS (by kernel_rfl : opAt F11.o7 0 = some (some 23, .move (.tmp 6), none)) rfl rfl (fun w' hS => val_move rfl) ?_
      refine yS (by kernel_rfl : opAt F11.o7 1 = some (some 24, .binOp .lss 3 (.tmp 23) (.const (.int .i64 0)) 3, none)) rfl rfl (fun w' hS => val_lss rfl rfl) ?_
      refine Sch.nil ?_
      refine run_if (x := F11.c31) (y := F11.c34) (o := .tmp 24) (by kernel_rfl) rfl (fun h24 => ?_) (fun h24 => ?_)
      · skip
        have hno : ∀ g, g < (fsts cl i).length → atB cl ((fsts cl i).getD g 0) ≠ atB cl i := by
          rcases hfind with ⟨_, h⟩ | ⟨i0, e, _⟩
          · intro g hg
            have := h g (by rw [grpsOf_len]; exact hg)
            rw [grps_find] at this; rw [hat]; exact this
          · omega
        clear hfind
        obtain ⟨hf1, hm1⟩ := fsts_new hv hno
        refine run_seq (x := F11.c32) (y := F11.c33) (by kernel_rfl) ?_
        refine run_plain (id := 8) (ops := F11.o8) [(0, true), (1, true), (2, true)] (by kernel_rfl) (by kernel_rfl) ?_
        refine yS (by kernel_rfl : opAt F11.o8 0 = some (some 25, .move (.tmp 3), none)) rfl rfl (fun w' hS => val_move rfl) ?_
        refine yS (by kernel_rfl : opAt F11.o8 1 = some (some 26, .call { callee := .builtin .len, args := #[(.tmp 25)], argTypes := #[66] }, none)) rfl rfl (fun w' hS => ho.lenV rfl Try.underlying66 w' ) ?_
        refine yS (by kernel_rfl : opAt F11.o8 2 = some (some 6, .assign (.tmp 26), none)) rfl rfl (fun w' hS => val_assign rfl) ?_
        refine Sch.nil ?_
        refine run_draw (id := 9) (ops := F11.o9) [3] (Cw2) [(0, true), (1, true), (2, true), (3, true), (4, true), (5, false), (6, true), (7, true), (8, true), (9, false), (10, false), (11, true)] Try_mixed (by kernel_rfl) (by kernel_rfl) (by kernel_rfl) ?_
        intro w6 hs
        replace hF := hF.st hs
        replace hT := hT.trans hs (by simp)
        replace hc := hc.st hs (by first | decide | (simp <;> omega))
        replace ho := ho.st hs (by first | decide | (simp <;> omega)) (by first | decide | (simp <;> omega))
        replace hwd := fun k hk => (hwd k hk).st hs (by first | decide | (simp <;> omega))
        replace hin := fun k hk => (hin k hk).st hs (by simp <;> omega) (by simp <;> omega)
        replace h15 := h15.st hs (by first | decide | (simp <;> omega))
        replace hwx := hwx.st hs (by first | decide | (simp <;> omega))
        replace hb := hb.st hs (by first | decide | (simp <;> omega))
        have hR := Stp.refl [3] w6 (Cw2)
        refine yS (by kernel_rfl : opAt F11.o9 0 = some (some 27, .move (.tmp 3), none)) rfl rfl (fun w' hS => val_move rfl) ?_
        refine yS (by kernel_rfl : opAt F11.o9 1 = some (some 28, .fieldAddr 33 (.tmp 5) 0, none)) rfl rfl (fun w' hS => val_fieldAddr (off := 0) (by kernel_rfl) rfl) ?_
        refine yS (by kernel_rfl : opAt F11.o9 2 = some (some 29, .load 3 (.tmp 28), none)) rfl rfl (fun w' hS => val_loadOwn (hb.stay hS (by decide)) (by kernel_rfl) rfl rfl) ?_
        refine yS (by kernel_rfl : opAt F11.o9 3 = some (some 30, .fieldAddr 33 (.tmp 5) 1, none)) rfl rfl (fun w' hS => val_fieldAddr (off := 1) (by kernel_rfl) rfl) ?_
        refine yS (by kernel_rfl : opAt F11.o9 4 = some (some 31, .load 31 (.tmp 30), none)) rfl rfl (fun w' hS => val_loadOwn (hb.stay hS (by decide)) (by kernel_rfl) rfl rfl) ?_
        refine cS (by kernel_rfl : opAt F11.o9 5 = some (some 32, .call { callee := .value (.func 33), args := #[(.tmp 31)], argTypes := #[31] }, none)) rfl rfl (ent Try.call33 rfl) (clone_ok hF hwx (fun e => by rw [e] at hvx; simp at hvx; omega) (by omega)) ?_
        rintro u3 w7 ⟨hs, hcw⟩
        refine ⟨(hR.trans hs (by simp)).ext, ?_⟩
        replace hF := hF.st hs
        replace hT := hT.trans hs (by simp)
        replace hc := hc.st hs (by first | decide | (simp <;> omega))
        replace ho := ho.st hs (by first | decide | (simp <;> omega)) (by first | decide | (simp <;> omega))
        replace hwd := fun k hk => (hwd k hk).st hs (by first | decide | (simp <;> omega))
        replace hin := fun k hk => (hin k hk).st hs (by simp <;> omega) (by simp <;> omega)
        replace h15 := h15.st hs (by first | decide | (simp <;> omega))
        replace hwx := hwx.st hs (by first | decide | (simp <;> omega))
        replace hb := hb.st hs (by first | decide | (simp <;> omega))
        replace hR := hR.trans hs (by simp)
        refine yS (by kernel_rfl : opAt F11.o9 6 = some (some 33, .build 33 #[(0, (.tmp 29)), (1, (.tmp 32))], none)) rfl rfl (fun w' hS => val_build (zs := [.int .i64 0, .slice none 0 0]) (ps := [(0, 1), (1, 1)]) (qs := [(0, [.int .i64 (cl[i]'hil).len]), (1, [u3])]) (cs := [.int .i64 (cl[i]'hil).len, u3]) (by kernel_rfl) (by kernel_rfl) (by exact ⟨rfl, ⟨_, rfl, rfl⟩, rfl, ⟨_, rfl, (hcw.one rfl).1⟩, trivial⟩) rfl) ?_
        refine yS (by kernel_rfl : opAt F11.o9 7 = some (some 34, .build 35 #[(0, (.tmp 33))], none)) rfl rfl (fun w' hS => val_build (zs := [.int .i64 0, .slice none 0 0, .slice none 0 0]) (ps := [(0, 2), (2, 1)]) (qs := [(0, [.int .i64 (cl[i]'hil).len, u3])]) (cs := [.int .i64 (cl[i]'hil).len, u3, .slice none 0 0]) (by kernel_rfl) (by kernel_rfl) (by exact ⟨rfl, ⟨_, rfl, rfl⟩, trivial⟩) rfl) ?_
        refine yS (by kernel_rfl : opAt F11.o9 8 = some (some 35, .build 69 #[(0, (.tmp 34))], none)) rfl rfl (fun w' hS => val_build (zs := [.int .i64 0, .slice none 0 0, .slice none 0 0]) (ps := [(0, 3)]) (qs := [(0, [.int .i64 (cl[i]'hil).len, u3, .slice none 0 0])]) (cs := [.int .i64 (cl[i]'hil).len, u3, .slice none 0 0]) (by kernel_rfl) (by kernel_rfl) (by exact ⟨rfl, ⟨_, rfl, rfl⟩, trivial⟩) rfl) ?_
        refine aS (by kernel_rfl : opAt F11.o9 9 = some (some 36, .buildSlice 66 1 #[(0, (.tmp 35))], none)) rfl rfl (a_buildSlice (ys := ([⟨(cl[i]'hil).len, u3, .slice none 0 0⟩] : List Gv)) (e := 69) (bytes := 56) hF (by kernel_rfl) rfl (by decide) (by decide) ⟨rfl, ⟨_, rfl, rv_gv.2 ⟨rfl, (hcw.one rfl).2, rfl⟩⟩, trivial⟩) ?_
        rintro v36 w8 ⟨hs, g36, hF⟩
        refine ⟨(hR.trans hs (by simp)).ext, ?_⟩
        replace hT := hT.trans hs (by simp)
        replace hc := hc.st hs (by first | decide | (simp <;> omega))
        replace ho := ho.st hs (by first | decide | (simp <;> omega)) (by first | decide | (simp <;> omega))
        replace hwd := fun k hk => (hwd k hk).st hs (by first | decide | (simp <;> omega))
        replace hin := fun k hk => (hin k hk).st hs (by simp <;> omega) (by simp <;> omega)
        replace h15 := h15.st hs (by first | decide | (simp <;> omega))
        replace hwx := hwx.st hs (by first | decide | (simp <;> omega))
        replace hb := hb.st hs (by first | decide | (simp <;> omega))
        replace hR := hR.trans hs (by simp)
        replace hcw := hcw.st hs (by first | decide | (simp <;> omega))
        refine aS (by kernel_rfl : opAt F11.o9 10 = some (some 37, .call { callee := .builtin .append, args := #[(.tmp 27), (.tmp 36)], argTypes := #[66, 66] }, none)) rfl rfl (a_append (e := 69) (bytes := 56) hF (by decide) rfl rfl (by kernel_rfl) (by decide) ho g36 (by simp only [List.length_cons, List.length_nil]; omega) (by simp only [List.length_cons, List.length_nil]; omega)) ?_
        rintro v37 w9 ⟨Cw9, hs, ho, hF⟩
        refine ⟨(hR.trans hs (by simp)).ext, ?_⟩
        replace hT := hT.trans hs (by simp)
        replace hc := hc.st hs (by first | decide | (simp <;> omega))
        replace hwd := fun k hk => (hwd k hk).st hs (by first | decide | (simp <;> omega))
        replace hin := fun k hk => (hin k hk).st hs (by simp <;> omega) (by simp <;> omega)
        replace h15 := h15.st hs (by first | decide | (simp <;> omega))
        replace hwx := hwx.st hs (by first | decide | (simp <;> omega))
        replace hb := hb.st hs (by first | decide | (simp <;> omega))
        replace hR := hR.trans hs (by simp)
        replace hcw := hcw.st hs (by first | decide | (simp <;> omega))
        replace g36 := g36.st hs (by first | decide | (simp <;> omega))
        refine yS (by kernel_rfl : opAt F11.o9 11 = some (some 3, .assign (.tmp 37), none)) rfl rfl (fun w' hS => val_assign rfl) ?_
        refine Sch.nil ?_
        rw [← hat, gvs_snoc hf1] at ho
        rw [← hat] at hcw
        obtain ⟨i0, hi0d⟩ : ∃ i0, i0 = (fsts cl i).length := ⟨_, rfl⟩
        have hfl2 : (fsts cl (i + 1)).length = i0 + 1 := by rw [hf1, List.length_append, hi0d]; rfl
        have hi0 : i0 < (fsts cl (i + 1)).length := by omega
        have hmid : (fsts cl (i + 1)).getD i0 0 = i := by rw [hf1, hi0d, List.getD_eq_getElem?_getD, List.getElem?_append_right (Nat.le_refl _)]; simp
        have hmlt : ∀ g, g < i0 → (fsts cl (i + 1)).getD g 0 = (fsts cl i).getD g 0 := fun g hg => by rw [hf1, List.getD_eq_getElem?_getD, List.getD_eq_getElem?_getD, List.getElem?_append_left (by omega)]
        rw [← hi0d] at ho hm1 hgl
        obtain ⟨wf2, hwf2⟩ : ∃ x, x = updV wf i0 u3 := ⟨_, rfl⟩
        obtain ⟨mf2, hmf2⟩ : ∃ x, x = updV mf i0 (.slice none 0 0) := ⟨_, rfl⟩
        rw [← hwf2, ← hmf2] at ho
        have hgl2 := gvs_len (cl := cl) (k := i + 1) (wf := wf2) (mf := mf2)
        obtain ⟨ol, hol⟩ : ∃ x : List Int, x = [] := ⟨_, rfl⟩
        have holl : ol.length ≤ i := by rw [hol]; exact Nat.zero_le _
        have hme : ints (mems cl (i + 1) i0) = ol ++ [(i : Int)] := by rw [hm1, if_pos rfl, hol]; rfl
        replace hwd : ∀ g, g < (fsts cl (i + 1)).length → RV _ _ (atB cl ((fsts cl (i + 1)).getD g 0)).words (wf2 g) := fun g hg => by
          rw [hwf2]
          by_cases e : g = i0
          · subst e; rw [hmid]; simp only [updV, if_true]; exact hcw
          · rw [hmlt g (by omega)]; simp only [updV, if_neg e]; exact hwd g (by omega)
        replace hin : ∀ g, g < (fsts cl (i + 1)).length → OwnL _ _ (10 + g) 3 (mf2 g) (if g = i0 then ol else ints (mems cl (i + 1) g)) := fun g hg => by
          rw [hmf2]
          by_cases e : g = i0
          · subst e; simp only [updV, if_true]; rw [hol]; exact OwnL.nil
          · simp only [updV, if_neg e]; rw [hm1, if_neg e]; exact hin g (by omega)
        clear hcw
        rw [hgl]
        refine run_plain (id := 10) (ops := F11.o10) [(0, true), (1, true), (2, true), (3, true), (4, true), (5, true), (6, true), (7, false), (8, true), (9, false), (10, false), (11, true), (12, true), (13, true), (14, false)] (by kernel_rfl) (by kernel_rfl) ?_
        refine yS (by kernel_rfl : opAt F11.o10 0 = some (some 38, .move (.tmp 3), none)) rfl rfl (fun w' hS => val_move rfl) ?_
        refine yS (by kernel_rfl : opAt F11.o10 1 = some (some 39, .move (.tmp 6), none)) rfl rfl (fun w' hS => val_move rfl) ?_
        refine yS (by kernel_rfl : opAt F11.o10 2 = some (some 40, .move (.tmp 3), none)) rfl rfl (fun w' hS => val_move rfl) ?_
        refine yS (by kernel_rfl : opAt F11.o10 3 = some (some 41, .move (.tmp 6), none)) rfl rfl (fun w' hS => val_move rfl) ?_
        have hi0g : (i0 : Int) < (gvs cl (i + 1) wf2 mf2).length := by omega
        refine oI (e' := 69) (by kernel_rfl : opAt F11.o10 4 = some (some 42, .indexAddr 66 (.tmp 40) (.tmp 41), none)) rfl rfl ho rfl (by kernel_rfl) rfl (by omega) (by omega) ?_
        intro g42 hg42
        try simp only [Int.toNat_natCast]
        refine yS (by kernel_rfl : opAt F11.o10 5 = some (some 43, .fieldAddr 69 (.tmp 42) 0, none)) rfl rfl (fun w' hS => val_fieldAddr (off := 0) (by kernel_rfl) rfl) ?_
        refine yS (by kernel_rfl : opAt F11.o10 6 = some (some 44, .fieldAddr 35 (.tmp 43) 1, none)) rfl rfl (fun w' hS => val_fieldAddr (off := 2) (by kernel_rfl) rfl) ?_
        refine nS (by kernel_rfl : opAt F11.o10 7 = some (some 45, .load 22 (.tmp 44), none)) rfl rfl trivial (OwnL.cell (off := 2) (u := mf2 i0) ho hg42 (by omega) (by decide) (by kernel_rfl) (fun vs hv => by rw [gvs_get] at hv; obtain ⟨rfl, _, _⟩ := hv; rfl) rfl _ rfl) ?_
        refine yS (by kernel_rfl : opAt F11.o10 8 = some (some 46, .move (.tmp 4), none)) rfl rfl (fun w' hS => val_move rfl) ?_
        refine aS (by kernel_rfl : opAt F11.o10 9 = some (some 47, .buildSlice 22 1 #[(0, (.tmp 46))], none)) rfl rfl (a_buildSlice (ys := ([(i : Int)] : List Int)) (e := 3) (bytes := 8) hF (by kernel_rfl) rfl (by decide) (by decide) ⟨rfl, ⟨_, rfl, rv_int.2 rfl⟩, trivial⟩) ?_
        rintro v47 w10 ⟨hs, g47, hF⟩
        refine ⟨trivial, ?_⟩
        replace hT := hT.trans hs (by simp)
        replace hc := hc.st hs (by first | decide | (simp <;> omega))
        replace ho := ho.st hs (by first | decide | (simp <;> omega)) (by first | decide | (simp <;> omega))
        replace hwd := fun k hk => (hwd k hk).st hs (by first | decide | (simp <;> omega))
        replace hin := fun k hk => (hin k hk).st hs (by simp <;> omega) (by simp <;> omega)
        replace h15 := h15.st hs (by first | decide | (simp <;> omega))
        replace hwx := hwx.st hs (by first | decide | (simp <;> omega))
        replace hb := hb.st hs (by first | decide | (simp <;> omega))
        have hin0 := hin i0 hi0
        rw [if_pos rfl] at hin0
        refine aS (by kernel_rfl : opAt F11.o10 10 = some (some 48, .call { callee := .builtin .append, args := #[(.tmp 45), (.tmp 47)], argTypes := #[22, 22] }, none)) rfl rfl (a_append (e := 3) (bytes := 8) hF (by omega) rfl rfl (by kernel_rfl) (by decide) hin0 g47 (by simp only [List.length_cons, List.length_nil]; omega) (by simp only [List.length_cons, List.length_nil]; omega)) ?_
        rintro v48 w11 ⟨Cw11, hs, h48, hF⟩
        refine ⟨trivial, ?_⟩
        replace hT := hT.trans hs (by simp <;> omega)
        replace hc := hc.st hs (by first | decide | (simp <;> omega))
        replace ho := ho.st hs (by first | decide | (simp <;> omega)) (by first | decide | (simp <;> omega))
        replace hwd := fun k hk => (hwd k hk).st hs (by first | decide | (simp <;> omega))
        replace h15 := h15.st hs (by first | decide | (simp <;> omega))
        replace hwx := hwx.st hs (by first | decide | (simp <;> omega))
        replace hb := hb.st hs (by first | decide | (simp <;> omega))
        replace g47 := g47.st hs (by first | decide | (simp <;> omega))
        replace hin := fun k hk (hne : k ≠ i0) => (hin k hk).st hs (by simp <;> omega) (by simp <;> omega)
        refine oI (e' := 69) (by kernel_rfl : opAt F11.o10 11 = some (some 49, .indexAddr 66 (.tmp 38) (.tmp 39), none)) rfl rfl ho rfl (by kernel_rfl) rfl (by omega) (by omega) ?_
        intro g49 hg49
        try simp only [Int.toNat_natCast]
        refine yS (by kernel_rfl : opAt F11.o10 12 = some (some 50, .fieldAddr 69 (.tmp 49) 0, none)) rfl rfl (fun w' hS => val_fieldAddr (off := 0) (by kernel_rfl) rfl) ?_
        refine yS (by kernel_rfl : opAt F11.o10 13 = some (some 51, .fieldAddr 35 (.tmp 50) 1, none)) rfl rfl (fun w' hS => val_fieldAddr (off := 2) (by kernel_rfl) rfl) ?_
        refine aN (by kernel_rfl : opAt F11.o10 14 = some (none, .store 22 (.tmp 51) (.tmp 48), none)) rfl (a_storeF (off := 2) (k := 1) (us := [v48]) (x0 := (⟨(atB cl ((fsts cl (i + 1)).getD i0 0)).len, wf2 i0, v48⟩ : Gv)) ho hg49 (by omega) rfl rfl (by kernel_rfl) h48.one.1 rfl (by intro z hz; rw [List.mem_singleton.1 hz]; exact h48.one.2) (by decide) (fun vs hv => by rw [gvs_get] at hv; obtain ⟨rfl, h1, _⟩ := hv; exact ⟨rfl, h1, h48.one.2⟩)) ?_
        rintro _ w12 ⟨rfl, hs, ho⟩
        refine ⟨trivial, ?_⟩
        replace hF := hF.st hs
        replace hT := hT.trans hs (by simp)
        replace hc := hc.st hs (by first | decide | (simp <;> omega))
        replace hwd := fun k hk => (hwd k hk).st hs (by first | decide | (simp <;> omega))
        replace h15 := h15.st hs (by first | decide | (simp <;> omega))
        replace hwx := hwx.st hs (by first | decide | (simp <;> omega))
        replace hb := hb.st hs (by first | decide | (simp <;> omega))
        replace g47 := g47.st hs (by first | decide | (simp <;> omega))
        replace h48 := h48.st hs (by first | decide | (simp <;> omega)) (by first | decide | (simp <;> omega))
        replace hin := fun k hk hne => (hin k hk hne).st hs (by simp <;> omega) (by simp <;> omega)
        rw [gvs_set] at ho
        refine Sch.nil ?_
        refine run_inBlock ?_
        refine run_plain (id := 11) (ops := F11.o11) [(0, true), (1, true)] (by kernel_rfl) (by kernel_rfl) ?_
        refine yS (by kernel_rfl : opAt F11.o11 0 = some (some 52, .binOp .add 3 (.tmp 12) (.const (.int .i64 1)) 3, none)) rfl rfl (fun w' hS => val_addi rfl rfl (by omega) (by omega)) ?_
        refine yS (by kernel_rfl : opAt F11.o11 1 = some (some 12, .move (.tmp 52), none)) rfl rfl (fun w' hS => val_move rfl) ?_
        refine Sch.nil ?_
        refine kp (sub_cons 3 rfl rfl (sub_cons 10 rfl rfl (sub_cons 11 rfl rfl (sub_cons 12 rfl (eq_int (by simp)) (sub_nil _))))) (next1 (i + 1, v37, wf2, updV mf2 i0 v48, Cw11) _ ⟨(by first | omega | (simp only; omega)), hF, hT, hc, ho, hwd, (fun g hg => by
            simp only at hg ⊢
            by_cases e : g = i0
            · subst e; simp only [updV, if_true]; rw [hme]; exact h48
            · have := hin g hg e
              rw [if_neg e] at this; simp only [updV, if_neg e]; exact this)⟩ (by first | omega | (simp only; omega)))
      · skip
        obtain ⟨i0, rfl, hi0, he0⟩ : ∃ i0 : Nat, kk = i0 ∧ ∃ hi : i0 < (fsts cl i).length, atB cl ((fsts cl i).getD i0 0) = atB cl i := by
          rcases hfind with ⟨e, _⟩ | ⟨i0, e, hi, he⟩
          · omega
          · rw [grps_find] at he
            exact ⟨i0, e, by rwa [grpsOf_len] at hi, by rw [hat]; exact he⟩
        clear hfind
        obtain ⟨hf1, hm1⟩ := fsts_old hv hi0 he0
        have hfl2 := congrArg List.length hf1
        rw [← gvs_same hf1] at ho
        have hgl2 := gvs_len (cl := cl) (k := i + 1) (wf := wf) (mf := mf)
        obtain ⟨wf2, hwf2⟩ : ∃ x, x = wf := ⟨_, rfl⟩
        obtain ⟨mf2, hmf2⟩ : ∃ x, x = mf := ⟨_, rfl⟩
        obtain ⟨ol, hol⟩ : ∃ x, x = ints (mems cl i i0) := ⟨_, rfl⟩
        have holl : ol.length ≤ i := by rw [hol, ints_len]; exact mems_len
        have hme : ints (mems cl (i + 1) i0) = ol ++ [(i : Int)] := by rw [hm1, if_pos rfl, ints_snoc, hol]
        replace hwd : ∀ g, g < (fsts cl (i + 1)).length → RV _ _ (atB cl ((fsts cl (i + 1)).getD g 0)).words (wf2 g) := fun g hg => by rw [hf1, hwf2]; exact hwd g (by rw [hfl2] at hg; exact hg)
        replace hin : ∀ g, g < (fsts cl (i + 1)).length → OwnL _ _ (10 + g) 3 (mf2 g) (if g = i0 then ol else ints (mems cl (i + 1) g)) := fun g hg => by
          have := hin g (by rw [hfl2] at hg; exact hg)
          rw [hmf2]
          by_cases e : g = i0
          · rw [if_pos e, hol, ← e]; exact this
          · rw [if_neg e, hm1, if_neg e]; exact this
        rw [← hwf2, ← hmf2] at ho hgl2
        replace hi0 : i0 < (fsts cl (i + 1)).length := by rw [hfl2]; exact hi0
        refine run_skip (by kernel_rfl) ?_
        refine run_plain (id := 10) (ops := F11.o10) [(0, true), (1, true), (2, true), (3, true), (4, true), (5, true), (6, true), (7, false), (8, true), (9, false), (10, false), (11, true), (12, true), (13, true), (14, false)] (by kernel_rfl) (by kernel_rfl) ?_
        refine yS (by kernel_rfl : opAt F11.o10 0 = some (some 38, .move (.tmp 3), none)) rfl rfl (fun w' hS => val_move rfl) ?_
        refine yS (by kernel_rfl : opAt F11.o10 1 = some (some 39, .move (.tmp 6), none)) rfl rfl (fun w' hS => val_move rfl) ?_
        refine yS (by kernel_rfl : opAt F11.o10 2 = some (some 40, .move (.tmp 3), none)) rfl rfl (fun w' hS => val_move rfl) ?_
        refine yS (by kernel_rfl : opAt F11.o10 3 = some (some 41, .move (.tmp 6), none)) rfl rfl (fun w' hS => val_move rfl) ?_
        have hi0g : (i0 : Int) < (gvs cl (i + 1) wf2 mf2).length := by omega
        refine oI (e' := 69) (by kernel_rfl : opAt F11.o10 4 = some (some 42, .indexAddr 66 (.tmp 40) (.tmp 41), none)) rfl rfl ho rfl (by kernel_rfl) rfl (by omega) (by omega) ?_
        intro g42 hg42
        try simp only [Int.toNat_natCast]
        refine yS (by kernel_rfl : opAt F11.o10 5 = some (some 43, .fieldAddr 69 (.tmp 42) 0, none)) rfl rfl (fun w' hS => val_fieldAddr (off := 0) (by kernel_rfl) rfl) ?_
        refine yS (by kernel_rfl : opAt F11.o10 6 = some (some 44, .fieldAddr 35 (.tmp 43) 1, none)) rfl rfl (fun w' hS => val_fieldAddr (off := 2) (by kernel_rfl) rfl) ?_
        refine nS (by kernel_rfl : opAt F11.o10 7 = some (some 45, .load 22 (.tmp 44), none)) rfl rfl trivial (OwnL.cell (off := 2) (u := mf2 i0) ho hg42 (by omega) (by decide) (by kernel_rfl) (fun vs hv => by rw [gvs_get] at hv; obtain ⟨rfl, _, _⟩ := hv; rfl) rfl _ rfl) ?_
        refine yS (by kernel_rfl : opAt F11.o10 8 = some (some 46, .move (.tmp 4), none)) rfl rfl (fun w' hS => val_move rfl) ?_
        refine aS (by kernel_rfl : opAt F11.o10 9 = some (some 47, .buildSlice 22 1 #[(0, (.tmp 46))], none)) rfl rfl (a_buildSlice (ys := ([(i : Int)] : List Int)) (e := 3) (bytes := 8) hF (by kernel_rfl) rfl (by decide) (by decide) ⟨rfl, ⟨_, rfl, rv_int.2 rfl⟩, trivial⟩) ?_
        rintro v47 w13 ⟨hs, g47, hF⟩
        refine ⟨trivial, ?_⟩
        replace hT := hT.trans hs (by simp)
        replace hc := hc.st hs (by first | decide | (simp <;> omega))
        replace ho := ho.st hs (by first | decide | (simp <;> omega)) (by first | decide | (simp <;> omega))
        replace hwd := fun k hk => (hwd k hk).st hs (by first | decide | (simp <;> omega))
        replace hin := fun k hk => (hin k hk).st hs (by simp <;> omega) (by simp <;> omega)
        replace h15 := h15.st hs (by first | decide | (simp <;> omega))
        replace hwx := hwx.st hs (by first | decide | (simp <;> omega))
        replace hb := hb.st hs (by first | decide | (simp <;> omega))
        have hin0 := hin i0 hi0
        rw [if_pos rfl] at hin0
        refine aS (by kernel_rfl : opAt F11.o10 10 = some (some 48, .call { callee := .builtin .append, args := #[(.tmp 45), (.tmp 47)], argTypes := #[22, 22] }, none)) rfl rfl (a_append (e := 3) (bytes := 8) hF (by omega) rfl rfl (by kernel_rfl) (by decide) hin0 g47 (by simp only [List.length_cons, List.length_nil]; omega) (by simp only [List.length_cons, List.length_nil]; omega)) ?_
        rintro v48 w14 ⟨Cw14, hs, h48, hF⟩
        refine ⟨trivial, ?_⟩
        replace hT := hT.trans hs (by simp <;> omega)
        replace hc := hc.st hs (by first | decide | (simp <;> omega))
        replace ho := ho.st hs (by first | decide | (simp <;> omega)) (by first | decide | (simp <;> omega))
        replace hwd := fun k hk => (hwd k hk).st hs (by first | decide | (simp <;> omega))
        replace h15 := h15.st hs (by first | decide | (simp <;> omega))
        replace hwx := hwx.st hs (by first | decide | (simp <;> omega))
        replace hb := hb.st hs (by first | decide | (simp <;> omega))
        replace g47 := g47.st hs (by first | decide | (simp <;> omega))
        replace hin := fun k hk (hne : k ≠ i0) => (hin k hk).st hs (by simp <;> omega) (by simp <;> omega)
        refine oI (e' := 69) (by kernel_rfl : opAt F11.o10 11 = some (some 49, .indexAddr 66 (.tmp 38) (.tmp 39), none)) rfl rfl ho rfl (by kernel_rfl) rfl (by omega) (by omega) ?_
        intro g49 hg49
        try simp only [Int.toNat_natCast]
        refine yS (by kernel_rfl : opAt F11.o10 12 = some (some 50, .fieldAddr 69 (.tmp 49) 0, none)) rfl rfl (fun w' hS => val_fieldAddr (off := 0) (by kernel_rfl) rfl) ?_
        refine yS (by kernel_rfl : opAt F11.o10 13 = some (some 51, .fieldAddr 35 (.tmp 50) 1, none)) rfl rfl (fun w' hS => val_fieldAddr (off := 2) (by kernel_rfl) rfl) ?_
        refine aN (by kernel_rfl : opAt F11.o10 14 = some (none, .store 22 (.tmp 51) (.tmp 48), none)) rfl (a_storeF (off := 2) (k := 1) (us := [v48]) (x0 := (⟨(atB cl ((fsts cl (i + 1)).getD i0 0)).len, wf2 i0, v48⟩ : Gv)) ho hg49 (by omega) rfl rfl (by kernel_rfl) h48.one.1 rfl (by intro z hz; rw [List.mem_singleton.1 hz]; exact h48.one.2) (by decide) (fun vs hv => by rw [gvs_get] at hv; obtain ⟨rfl, h1, _⟩ := hv; exact ⟨rfl, h1, h48.one.2⟩)) ?_
        rintro _ w15 ⟨rfl, hs, ho⟩
        refine ⟨trivial, ?_⟩
        replace hF := hF.st hs
        replace hT := hT.trans hs (by simp)
        replace hc := hc.st hs (by first | decide | (simp <;> omega))
        replace hwd := fun k hk => (hwd k hk).st hs (by first | decide | (simp <;> omega))
        replace h15 := h15.st hs (by first | decide | (simp <;> omega))
        replace hwx := hwx.st hs (by first | decide | (simp <;> omega))
        replace hb := hb.st hs (by first | decide | (simp <;> omega))
        replace g47 := g47.st hs (by first | decide | (simp <;> omega))
        replace h48 := h48.st hs (by first | decide | (simp <;> omega)) (by first | decide | (simp <;> omega))
        replace hin := fun k hk hne => (hin k hk hne).st hs (by simp <;> omega) (by simp <;> omega)
        rw [gvs_set] at ho
        refine Sch.nil ?_
        refine run_inBlock ?_
        refine run_plain (id := 11) (ops := F11.o11) [(0, true), (1, true)] (by kernel_rfl) (by kernel_rfl) ?_
        refine yS (by kernel_rfl : opAt F11.o11 0 = some (some 52, .binOp .add 3 (.tmp 12) (.const (.int .i64 1)) 3, none)) rfl rfl (fun w' hS => val_addi rfl rfl (by omega) (by omega)) ?_
        refine yS (by kernel_rfl : opAt F11.o11 1 = some (some 12, .move (.tmp 52), none)) rfl rfl (fun w' hS => val_move rfl) ?_
        refine Sch.nil ?_
        refine kp (sub_cons 3 rfl rfl (sub_cons 10 rfl rfl (sub_cons 11 rfl rfl (sub_cons 12 rfl (eq_int (by simp)) (sub_nil _))))) (next1 (i + 1, vo, wf2, updV mf2 i0 v48, Cw14) _ ⟨(by first | omega | (simp only; omega)), hF, hT, hc, ho, hwd, (fun g hg => by
            simp only at hg ⊢
            by_cases e : g = i0
            · subst e; simp only [updV, if_true]; rw [hme]; exact h48
            · have := hin g hg e
              rw [if_neg e] at this; simp only [updV, if_neg e]; exact this)⟩ (by first | omega | (simp only; omega)))
  · skip
    have hil : i = cl.length := by omega
    rw [hil] at ho hwd hin hfl hgl
    refine run_exit (id := 0) (by kernel_rfl) rfl ?_
    refine run_seq (x := F11.c38) (y := F11.c39) (by kernel_rfl) ?_
    refine run_plain (id := 12) (ops := F11.o12) [(0, true), (1, false)] (by kernel_rfl) (by kernel_rfl) ?_
    refine yS (by kernel_rfl : opAt F11.o12 0 = some (some 53, .move (.tmp 3), none)) rfl rfl (fun w' hS => val_move rfl) ?_
    have hmr : ∀ g, g < (fsts cl cl.length).length → RV _ (Mc (K.frz 10 C1)) (ints (mems cl cl.length g)) (mf g) := fun g hg => (hin g hg).frz (n := 10) (by omega) (by rw [ints_len]; have := mems_len (cl := cl) (k := cl.length) (g := g); omega)
    clear hin
    replace hF := hF.frz 10
    replace hT := hT.frz (n := 10) (fun b => Nat.lt_of_lt_of_le (col1_lt2 C b) (by decide))
    replace hc := hc.frz 10
    replace ho := ho.frzK (n := 10) (by decide)
    replace hwd := fun k hk => (hwd k hk).frz 10
    replace ho := ho.grps hwd hmr
    refine cS (by kernel_rfl : opAt F11.o12 1 = some (some 54, .call { callee := .value (.func 34), args := #[(.tmp 53), (.func 35)], argTypes := #[66, 73] }, none)) rfl rfl (ent Try.call34 rfl) (sortGrp_ok hF ho (by rw [grpsOf_len]; omega)) ?_
    rintro vw16 w16 ⟨hs, ho, hF⟩
    refine ⟨trivial, ?_⟩
    replace hT := hT.trans hs (by simp)
    replace hc := hc.st hs (by first | decide | (simp <;> omega))
    replace hwd := fun k hk => (hwd k hk).st hs (by first | decide | (simp <;> omega))
    replace hF := hF.frz 3
    replace hT := hT.frz (n := 3) (fun b => Nat.lt_of_lt_of_le (col1_lt2 C b) (by decide))
    clear hc
    clear hwd
    have hol_ := ho.frz (n := 3) (by decide) (by rw [grpsOf_len]; omega)
    clear ho
    have hol := hol_
    clear hol_
    refine Sch.nil ?_
    refine run_seq (x := F11.c40) (y := F11.c41) (by kernel_rfl) ?_
    refine run_plain (id := 13) (ops := F11.o13) [(0, true)] (by kernel_rfl) (by kernel_rfl) ?_
    refine yS (by kernel_rfl : opAt F11.o13 0 = some (some 7, .assign (.const (.slice none 0 0)), none)) rfl rfl (fun w' hS => val_assign rfl) ?_
    refine Sch.nil ?_
    refine run_seq (x := F11.c42) (y := F11.c58) (by kernel_rfl) ?_
    refine run_seq (x := F11.c43) (y := F11.c44) (by kernel_rfl) ?_
    refine run_plain (id := 14) (ops := F11.o14) [(0, true), (1, true), (2, true)] (by kernel_rfl) (by kernel_rfl) ?_
    refine yS (by kernel_rfl : opAt F11.o14 0 = some (some 55, .move (.tmp 3), none)) rfl rfl (fun w' hS => val_move rfl) ?_
    refine yS (by kernel_rfl : opAt F11.o14 1 = some (some 56, .call { callee := .builtin .len, args := #[(.tmp 55)], argTypes := #[66] }, none)) rfl rfl (fun w' hS => hol.lenV rfl Try.underlying66 w' ) ?_
    refine yS (by kernel_rfl : opAt F11.o14 2 = some (some 57, .move (.const (.int .i64 0)), none)) rfl rfl (fun w' hS => val_move rfl) ?_
    refine Sch.nil ?_
    refine run_block (x := F11.c45) (id := 2) (by kernel_rfl) ?_
    
    refine run_loop (ι := Nat × Value × (Nat → Nat)) (I := fun x w => x.1 ≤ (grpsOf cl cl.length).length ∧ Lim w x.2.2 ∧ Stp ([2, 3, 4, 5, 6, 7, 8, 9] ++ List.range' 10 (cl.length + 1)) w₀ (col1 C) w x.2.2 ∧ RV w (Mc x.2.2) (grpsOf cl cl.length) vo ∧ OwnL w x.2.2 4 35 x.2.1 ((grpsOf cl cl.length).take x.1)) (e := fun x => [(7, x.2.1), (55, vo), (56, .int .i64 (grpsOf cl cl.length).length), (57, .int .i64 x.1)]) (m := fun x => (grpsOf cl cl.length).length - x.1) (x₀ := (0, .slice none 0 0, K.frz 3 (K.frz 10 C1))) (body := F11.c46) (by kernel_rfl) (sub_cons 7 rfl rfl (sub_cons 55 rfl rfl (sub_cons 56 rfl rfl (sub_cons 57 rfl rfl (sub_nil _))))) ?_ ?_
    · exact ⟨Nat.zero_le _, hF, hT, hol, OwnL.nil⟩
    intro ⟨k, vt, C1⟩ w17 hI next
    obtain ⟨hk, hF, hT, hol, ht⟩ := hI
    try simp only at hk hF hT hol ht
    have next2 := next
    clear next
    show Run _ _ _ _ [(7, vt), (55, vo), (56, .int .i64 (grpsOf cl cl.length).length), (57, .int .i64 k)] _ _
    have hgo := grpsOf_len (cl := cl) (k := cl.length)
    have hgf := fsts_le (cl := cl) (k := cl.length)
    refine run_seq (x := F11.c47) (y := F11.c48) (by kernel_rfl) ?_
    refine run_plain (id := 15) (ops := F11.o15) [(0, true)] (by kernel_rfl) (by kernel_rfl) ?_
    refine yS (by kernel_rfl : opAt F11.o15 0 = some (some 58, .binOp .lss 3 (.tmp 57) (.tmp 56) 3, none)) rfl rfl (fun w' hS => val_lss rfl rfl) ?_
    refine Sch.nil ?_
    refine run_seq (x := F11.c49) (y := F11.c52) (by kernel_rfl) ?_
    refine run_if (x := F11.c50) (y := F11.c51) (o := .tmp 58) (by kernel_rfl) rfl (fun h58 => ?_) (fun h58 => ?_)
    · skip
      have hkl : k < (grpsOf cl cl.length).length := by omega
      have htk := List.take_succ_eq_append_getElem hkl
      refine run_skip (by kernel_rfl) ?_
      refine run_seq (x := F11.c53) (y := F11.c57) (by kernel_rfl) ?_
      refine run_block (x := F11.c54) (id := 3) (by kernel_rfl) ?_
      refine run_seq (x := F11.c55) (y := F11.c56) (by kernel_rfl) ?_
      refine run_plain (id := 16) (ops := F11.o16) [(0, true), (1, false), (2, false), (3, false)] (by kernel_rfl) (by kernel_rfl) ?_
      refine iS (e := 69) (by kernel_rfl : opAt F11.o16 0 = some (some 59, .indexAddr 66 (.tmp 55) (.tmp 57), none)) rfl rfl hol rfl (by kernel_rfl) rfl (by omega) (by omega) ?_
      intro b59 o59 h59
      try simp only [Int.toNat_natCast] at h59
      refine lNA (by kernel_rfl : opAt F11.o16 1 = some (some 60, .load 69 (.tmp 59), none)) rfl rfl trivial h59 (by kernel_rfl) (by kernel_rfl) rfl rfl ?_
      intro v60 g60
      obtain ⟨u, m, rfl, hwx, hmx⟩ := rv_grp.1 g60
      clear g60
      refine aS (by kernel_rfl : opAt F11.o16 2 = some (some 9, .alloc 69, none)) rfl rfl (a_alloc (cs := [.int .i64 0, .slice none 0 0, .slice none 0 0]) hF 5 (by kernel_rfl)) ?_
      rintro _ w18 ⟨Cw18, bw18, rfl, hs, hg, hF⟩
      refine ⟨trivial, ?_⟩
      replace hT := hT.trans hs (by simp)
      replace hol := hol.st hs (by first | decide | (simp <;> omega))
      replace ht := ht.st hs (by first | decide | (simp <;> omega)) (by first | decide | (simp <;> omega))
      replace h59 := h59.st hs (by first | decide | (simp <;> omega))
      replace hwx := hwx.st hs (by first | decide | (simp <;> omega))
      replace hmx := hmx.st hs (by first | decide | (simp <;> omega))
      refine aN (by kernel_rfl : opAt F11.o16 3 = some (none, .store 69 (.tmp 9) (.tmp 60), none)) rfl (a_storeAll (vs := [.int .i64 ((grpsOf cl cl.length)[k]'hkl).arr.len, u, m]) (n := 3) rfl rfl (by kernel_rfl) rfl rfl (by intro z hz; simp only [List.mem_cons, List.not_mem_nil, or_false] at hz; rcases hz with rfl | rfl | rfl <;> first | rfl | exact (hwx.one rfl).2 | exact (hmx.one rfl).2) hg rfl) ?_
      rintro _ w19 ⟨rfl, hs, hg⟩
      refine ⟨trivial, ?_⟩
      replace hF := hF.st hs
      replace hT := hT.trans hs (by simp)
      replace hol := hol.st hs (by first | decide | (simp <;> omega))
      replace ht := ht.st hs (by first | decide | (simp <;> omega)) (by first | decide | (simp <;> omega))
      replace h59 := h59.st hs (by first | decide | (simp <;> omega))
      replace hwx := hwx.st hs (by first | decide | (simp <;> omega))
      replace hmx := hmx.st hs (by first | decide | (simp <;> omega))
      refine Sch.nil ?_
      refine run_plain (id := 17) (ops := F11.o17) [(0, true), (1, true), (2, false), (3, false), (4, false), (5, true)] (by kernel_rfl) (by kernel_rfl) ?_
      refine yS (by kernel_rfl : opAt F11.o17 0 = some (some 61, .move (.tmp 7), none)) rfl rfl (fun w' hS => val_move rfl) ?_
      refine yS (by kernel_rfl : opAt F11.o17 1 = some (some 62, .fieldAddr 69 (.tmp 9) 0, none)) rfl rfl (fun w' hS => val_fieldAddr (off := 0) (by kernel_rfl) rfl) ?_
      refine nS (by kernel_rfl : opAt F11.o17 2 = some (some 63, .load 35 (.tmp 62), none)) rfl rfl trivial (val_loadOwnAgg (n := 3) (vs := [.int .i64 ((grpsOf cl cl.length)[k]'hkl).arr.len, u, m]) hg.at_ (by kernel_rfl) (by kernel_rfl) rfl rfl rfl) ?_
      refine aS (by kernel_rfl : opAt F11.o17 3 = some (some 64, .buildSlice 29 1 #[(0, (.tmp 63))], none)) rfl rfl (a_buildSlice (ys := ([((grpsOf cl cl.length)[k]'hkl)] : List Grp)) (e := 35) (bytes := 56) hF (by kernel_rfl) rfl (by decide) (by decide) ⟨rfl, ⟨_, rfl, rv_grp.2 ⟨u, m, rfl, hwx, hmx⟩⟩, trivial⟩) ?_
      rintro v64 w20 ⟨hs, g64, hF⟩
      refine ⟨trivial, ?_⟩
      replace hT := hT.trans hs (by simp)
      replace hol := hol.st hs (by first | decide | (simp <;> omega))
      replace ht := ht.st hs (by first | decide | (simp <;> omega)) (by first | decide | (simp <;> omega))
      replace h59 := h59.st hs (by first | decide | (simp <;> omega))
      replace hwx := hwx.st hs (by first | decide | (simp <;> omega))
      replace hmx := hmx.st hs (by first | decide | (simp <;> omega))
      replace hg := hg.st hs (by first | decide | (simp <;> omega))
      refine aS (by kernel_rfl : opAt F11.o17 4 = some (some 65, .call { callee := .builtin .append, args := #[(.tmp 61), (.tmp 64)], argTypes := #[29, 29] }, none)) rfl rfl (a_append (e := 35) (bytes := 56) hF (by decide) rfl rfl (by kernel_rfl) (by decide) ht g64 (by simp only [List.length_cons, List.length_nil, List.length_take]; omega) (by simp only [List.length_cons, List.length_nil, List.length_take]; omega)) ?_
      rintro v65 w21 ⟨Cw21, hs, ht, hF⟩
      refine ⟨trivial, ?_⟩
      replace hT := hT.trans hs (by simp)
      replace hol := hol.st hs (by first | decide | (simp <;> omega))
      replace h59 := h59.st hs (by first | decide | (simp <;> omega))
      replace hwx := hwx.st hs (by first | decide | (simp <;> omega))
      replace hmx := hmx.st hs (by first | decide | (simp <;> omega))
      replace hg := hg.st hs (by first | decide | (simp <;> omega))
      replace g64 := g64.st hs (by first | decide | (simp <;> omega))
      refine yS (by kernel_rfl : opAt F11.o17 5 = some (some 7, .assign (.tmp 65), none)) rfl rfl (fun w' hS => val_assign rfl) ?_
      refine Sch.nil ?_
      refine run_inBlock ?_
      refine run_plain (id := 18) (ops := F11.o18) [(0, true), (1, true)] (by kernel_rfl) (by kernel_rfl) ?_
      refine yS (by kernel_rfl : opAt F11.o18 0 = some (some 66, .binOp .add 3 (.tmp 57) (.const (.int .i64 1)) 3, none)) rfl rfl (fun w' hS => val_addi rfl rfl (by omega) (by omega)) ?_
      refine yS (by kernel_rfl : opAt F11.o18 1 = some (some 57, .move (.tmp 66), none)) rfl rfl (fun w' hS => val_move rfl) ?_
      refine Sch.nil ?_
      refine kp (sub_cons 7 rfl rfl (sub_cons 55 rfl rfl (sub_cons 56 rfl rfl (sub_cons 57 rfl (eq_int (by simp)) (sub_nil _))))) (next2 (k + 1, v65, Cw21) _ ⟨(by first | omega | (simp only; omega)), hF, hT, hol, (by simp only; rw [htk]; exact ht)⟩ (by first | omega | (simp only; omega)))
    · skip
      have hkl : k = (grpsOf cl cl.length).length := by omega
      rw [hkl, List.take_length] at ht
      refine run_exit (id := 2) (by kernel_rfl) rfl ?_
      refine run_seq (x := F11.c59) (y := F11.c60) (by kernel_rfl) ?_
      refine run_plain (id := 19) (ops := F11.o19) [(0, true), (1, true)] (by kernel_rfl) (by kernel_rfl) ?_
      refine yS (by kernel_rfl : opAt F11.o19 0 = some (some 67, .move (.tmp 7), none)) rfl rfl (fun w' hS => val_move rfl) ?_
      refine yS (by kernel_rfl : opAt F11.o19 1 = some (some 2, .assign (.tmp 67), none)) rfl rfl (fun w' hS => val_assign rfl) ?_
      refine Sch.nil ?_
      refine run_ret1 (by kernel_rfl) Try.func11 Try.results11 rfl ?_
      exact ⟨hT.out1 big_ge, ht.out hT hF0 (Mc_col1 C) (fun b _ => col1_lt C (by decide) b) (by omega)⟩
end Go.Proofs.Ytbdlkdiadplmcaa
