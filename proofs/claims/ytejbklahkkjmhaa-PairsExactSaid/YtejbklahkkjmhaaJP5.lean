/- Steps through functions of the program. -/
import Derived.Test.YtejbklahkkjmhaaJP4
set_option linter.unusedVariables false
set_option linter.unusedSimpArgs false
set_option maxRecDepth 100000
set_option maxHeartbeats 400000
namespace Go.Proofs.Ytejbklahkkjmhaa
open Go.K Go.K.Rep

namespace F13
noncomputable def c0 : Code := bodyOf Try.f13
noncomputable def c1 : Code := cl c0
noncomputable def o0 : Array Oper := rops c1
noncomputable def c2 : Code := cr c0
noncomputable def c3 : Code := cl c2
noncomputable def c4 : Code := cl c3
noncomputable def o1 : Array Oper := rops c4
noncomputable def c5 : Code := cr c3
noncomputable def c6 : Code := cl c5
noncomputable def o2 : Array Oper := rops c6
noncomputable def c7 : Code := cr c5
noncomputable def c8 : Code := cl c7
noncomputable def c9 : Code := cl c8
noncomputable def o3 : Array Oper := rops c9
noncomputable def c10 : Code := cr c8
noncomputable def c11 : Code := cr c7
noncomputable def c12 : Code := cr c2
noncomputable def c13 : Code := cl c12
noncomputable def o4 : Array Oper := rops c13
noncomputable def c14 : Code := cr c12
noncomputable def c15 : Code := cl c14
noncomputable def c16 : Code := cl c15
noncomputable def o5 : Array Oper := rops c16
noncomputable def c17 : Code := cr c15
noncomputable def c18 : Code := cl c17
noncomputable def c19 : Code := cl c18
noncomputable def c20 : Code := cl c19
noncomputable def o6 : Array Oper := rops c20
noncomputable def c21 : Code := cr c19
noncomputable def c22 : Code := cl c21
noncomputable def c23 : Code := cl c22
noncomputable def c24 : Code := cr c22
noncomputable def c25 : Code := cr c21
noncomputable def c26 : Code := cl c25
noncomputable def c27 : Code := cl c26
noncomputable def o7 : Array Oper := rops c27
noncomputable def c28 : Code := cr c26
noncomputable def c29 : Code := cl c28
noncomputable def o8 : Array Oper := rops c29
noncomputable def c30 : Code := cr c28
noncomputable def c31 : Code := cl c30
noncomputable def o9 : Array Oper := rops c31
noncomputable def c32 : Code := cr c30
noncomputable def c33 : Code := cr c14
noncomputable def c34 : Code := cl c33
noncomputable def o10 : Array Oper := rops c34
noncomputable def c35 : Code := cr c33
noncomputable def c36 : Code := cl c35
noncomputable def o11 : Array Oper := rops c36
noncomputable def c37 : Code := cr c35
end F13
/-- The list of the couples that agree on a key of the mask. -/
theorem list_ok {w₀ : World} {C : Nat → Nat} {a b : List (List Block)} {va vb : Value} {mask : Int} (hF : Lim w₀ C) (ha : RV w₀ (Mc C) a va) (hb : RV w₀ (Mc C) b vb) (hsa : ∀ x ∈ a, total x ≤ 4611686018427387904) (hsb : ∀ x ∈ b, total x ≤ 4611686018427387904) : Calls Try.prog 13 #[va, vb, .int .i64 mask] w₀ (Ret fun v w' => ∃ u, v = .tuple #[u, .int .i64 (checkM a b mask)] ∧ Stp [] w₀ C w' C ∧ RV w' (Mc C) (if checkM a b mask ≠ 0 then [] else listS a b mask.toNat) u) := by
  have hF0 := hF
  have hT := Stp.refl [2, 3, 4, 5, 6, 7, 8, 9] w₀ (col1 C)
  replace hF := hF.col1
  replace ha : RV w₀ (Mc (col1 C)) a va := by rw [Mc_col1]; exact ha
  replace hb : RV w₀ (Mc (col1 C)) b vb := by rw [Mc_col1]; exact hb
  refine calls_start (c := F13.c0) (N := 39) [va, vb, .int .i64 mask] Try.func13 (by kernel_rfl) (by kernel_rfl) (by kernel_rfl) ?_
  show Run _ _ _ _ [(0, va), (1, vb), (2, .int .i64 mask)] _ _
  refine run_seq (x := F13.c1) (y := F13.c2) (by kernel_rfl) ?_
  refine run_plain (id := 0) (ops := F13.o0) [(0, true), (1, true)] (by kernel_rfl) (by kernel_rfl) ?_
  refine yS (by kernel_rfl : opAt F13.o0 0 = some (some 6, .assign (.const (.slice none 0 0)), none)) rfl rfl (fun w' hS => val_assign rfl) ?_
  refine yS (by kernel_rfl : opAt F13.o0 1 = some (some 7, .assign (.const (.int .i64 0)), none)) rfl rfl (fun w' hS => val_assign rfl) ?_
  refine Sch.nil ?_
  refine run_seq (x := F13.c3) (y := F13.c12) (by kernel_rfl) ?_
  refine run_seq (x := F13.c4) (y := F13.c5) (by kernel_rfl) ?_
  refine run_plain (id := 1) (ops := F13.o1) [(0, true), (1, true), (2, true), (3, false), (4, true)] (by kernel_rfl) (by kernel_rfl) ?_
  refine yS (by kernel_rfl : opAt F13.o1 0 = some (some 12, .move (.tmp 0), none)) rfl rfl (fun w' hS => val_move rfl) ?_
  refine yS (by kernel_rfl : opAt F13.o1 1 = some (some 13, .move (.tmp 1), none)) rfl rfl (fun w' hS => val_move rfl) ?_
  refine yS (by kernel_rfl : opAt F13.o1 2 = some (some 14, .move (.tmp 2), none)) rfl rfl (fun w' hS => val_move rfl) ?_
  refine cS (by kernel_rfl : opAt F13.o1 3 = some (some 15, .call { callee := .value (.func 31), args := #[(.tmp 12), (.tmp 13), (.tmp 14)], argTypes := #[28, 28, 3] }, none)) rfl rfl (ent Try.call31 rfl) (checkM_ok hF ha hb hsa hsb) ?_
  rintro vw1 w1 ⟨rfl, hs⟩
  refine ⟨trivial, ?_⟩
  replace hF := hF.st hs
  replace hT := hT.trans hs (by simp)
  replace ha := ha.st hs (by first | decide | (simp <;> omega))
  replace hb := hb.st hs (by first | decide | (simp <;> omega))
  refine yS (by kernel_rfl : opAt F13.o1 4 = some (some 8, .assign (.tmp 15), none)) rfl rfl (fun w' hS => val_assign rfl) ?_
  refine Sch.nil ?_
  refine run_seq (x := F13.c6) (y := F13.c7) (by kernel_rfl) ?_
  refine run_plain (id := 2) (ops := F13.o2) [(0, true), (1, true)] (by kernel_rfl) (by kernel_rfl) ?_
  refine yS (by kernel_rfl : opAt F13.o2 0 = some (some 16, .move (.tmp 8), none)) rfl rfl (fun w' hS => val_move rfl) ?_
  refine yS (by kernel_rfl : opAt F13.o2 1 = some (some 17, .binOp .neq 31 (.tmp 16) (.const (.int .i64 0)) 31, none)) rfl rfl (fun w' hS => val_neq rfl rfl) ?_
  refine Sch.nil ?_
  refine run_if (x := F13.c8) (y := F13.c11) (o := .tmp 17) (by kernel_rfl) rfl (fun h17 => ?_) (fun h17 => ?_)
  · skip
    refine run_seq (x := F13.c9) (y := F13.c10) (by kernel_rfl) ?_
    refine run_plain (id := 3) (ops := F13.o3) [(0, true), (1, true), (2, true)] (by kernel_rfl) (by kernel_rfl) ?_
    refine yS (by kernel_rfl : opAt F13.o3 0 = some (some 18, .move (.tmp 8), none)) rfl rfl (fun w' hS => val_move rfl) ?_
    refine yS (by kernel_rfl : opAt F13.o3 1 = some (some 6, .assign (.const (.slice none 0 0)), none)) rfl rfl (fun w' hS => val_assign rfl) ?_
    refine yS (by kernel_rfl : opAt F13.o3 2 = some (some 7, .assign (.tmp 18), none)) rfl rfl (fun w' hS => val_assign rfl) ?_
    refine Sch.nil ?_
    refine run_ret2 (by kernel_rfl) Try.func13 Try.results13 rfl rfl ?_
    exact ⟨_, rfl, hT.out1 (by decide), by rw [if_pos h17]; exact rv_nil⟩
  · skip
    have hz : checkM a b mask = 0 := by simpa using h17
    obtain ⟨hlen, h8, mk, rfl, hmk⟩ := checkM_zero hz
    refine run_skip (by kernel_rfl) ?_
    refine run_seq (x := F13.c13) (y := F13.c14) (by kernel_rfl) ?_
    refine run_plain (id := 4) (ops := F13.o4) [(0, true)] (by kernel_rfl) (by kernel_rfl) ?_
    refine yS (by kernel_rfl : opAt F13.o4 0 = some (some 9, .assign (.const (.slice none 0 0)), none)) rfl rfl (fun w' hS => val_assign rfl) ?_
    refine Sch.nil ?_
    refine run_seq (x := F13.c15) (y := F13.c33) (by kernel_rfl) ?_
    refine run_seq (x := F13.c16) (y := F13.c17) (by kernel_rfl) ?_
    refine run_plain (id := 5) (ops := F13.o5) [(0, true), (1, true), (2, false), (3, false)] (by kernel_rfl) (by kernel_rfl) ?_
    refine yS (by kernel_rfl : opAt F13.o5 0 = some (some 19, .move (.tmp 0), none)) rfl rfl (fun w' hS => val_move rfl) ?_
    refine yS (by kernel_rfl : opAt F13.o5 1 = some (some 20, .move (.tmp 1), none)) rfl rfl (fun w' hS => val_move rfl) ?_
    refine cS (by kernel_rfl : opAt F13.o5 2 = some (some 21, .call { callee := .value (.func 32), args := #[(.tmp 19), (.tmp 20)], argTypes := #[28, 28] }, none)) rfl rfl (ent Try.call32 rfl) (agreements_ok hF ha hb hlen h8) ?_
    rintro vw2 w2 ⟨hs, hm, hsm⟩
    refine ⟨trivial, ?_⟩
    replace hF := hF.st hs
    replace hT := hT.trans hs (by simp)
    replace ha := ha.st hs (by first | decide | (simp <;> omega))
    replace hb := hb.st hs (by first | decide | (simp <;> omega))
    have hnd := hm.nodup
    refine aS (by kernel_rfl : opAt F13.o5 3 = some (some 22, .range 59 (.tmp 21), none)) rfl rfl (a_rangeR hF 4 Try.underlying59 hm rfl) ?_
    rintro _ w3 ⟨Cw3, itw3, bmw3, rfl, hs, hit, hF⟩
    refine ⟨trivial, ?_⟩
    replace hT := hT.trans hs (by simp)
    replace ha := ha.st hs (by first | decide | (simp <;> omega))
    replace hb := hb.st hs (by first | decide | (simp <;> omega))
    replace hm := hm.st hs (by first | decide | (simp <;> omega))
    refine Sch.nil ?_
    refine run_block (x := F13.c18) (id := 0) (by kernel_rfl) ?_
    refine run_loop (ι := (Nat → Nat) × Agr × Agr × Option (Couple × Nat) × Value) (I := fun x w => Lim w x.1 ∧ Stp [2, 3, 4, 5, 6, 7, 8, 9] w₀ (col1 C) w x.1 ∧ OwnIt w x.1 4 itw3 0 bmw3 kvC vvN (agrI a b a.length) x.2.1 x.2.2.2.1 ∧ (x.2.2.1 ++ x.2.1).Perm (agrI a b a.length) ∧ OwnL w x.1 3 37 x.2.2.2.2 ((x.2.2.1.filter (hits mk)).map (·.1))) (e := fun x => [(2, .int .i64 (mk : Int)), (9, x.2.2.2.2), (22, .pointer (some ⟨itw3, 0, none⟩))]) (m := fun x => x.2.1.length) (x₀ := (Cw3, agrI a b a.length, [], none, .slice none 0 0)) (body := F13.c19) (by kernel_rfl) (sub_cons 2 rfl rfl (sub_cons 9 rfl rfl (sub_cons 22 rfl rfl (sub_nil _)))) ?_ ?_
    · exact ⟨hF, hT, hit, by simp only [List.nil_append]; exact List.Perm.refl _, OwnL.nil⟩
    intro ⟨Ci, lf, tk, cu, vo⟩ w4 hI next
    obtain ⟨hF, hT, hit, hpm, ho⟩ := hI
    simp only at hF hT hit hpm ho
    show Run _ _ _ _ [(2, .int .i64 (mk : Int)), (9, vo), (22, .pointer (some ⟨itw3, 0, none⟩))] _ _
    refine run_seq (x := F13.c20) (y := F13.c21) (by kernel_rfl) ?_
    refine run_plain (id := 6) (ops := F13.o6) [(0, false), (1, true)] (by kernel_rfl) (by kernel_rfl) ?_
    refine aS (by kernel_rfl : opAt F13.o6 0 = some (some 23, .next (.tmp 22) false, none)) rfl rfl (a_next hF hit rfl) ?_
    rintro _ w5 ⟨hs, _, hnx⟩
    refine ⟨trivial, ?_⟩
    replace hF := hF.st hs
    replace hT := hT.trans hs (by simp)
    replace ho := ho.st hs (by first | decide | (simp <;> omega)) (by first | decide | (simp <;> omega))
    rcases hnx with ⟨hlf, rfl⟩ | ⟨nc, hnc, rfl, hit⟩
    · skip
      refine yS (by kernel_rfl : opAt F13.o6 1 = some (some 24, .extract (.tmp 23) 0, none)) rfl rfl (fun w' hS => val_extract rfl rfl) ?_
      refine Sch.nil ?_
      subst hlf
      refine run_seq (x := F13.c22) (y := F13.c25) (by kernel_rfl) ?_
      refine run_cond (x := F13.c23) (y := F13.c24) (o := .tmp 24) (b := false) (by kernel_rfl) rfl (fun h => by cases h) (fun _ => ?_)
      refine run_exit (id := 0) (by kernel_rfl) rfl ?_
      refine run_seq (x := F13.c34) (y := F13.c35) (by kernel_rfl) ?_
      refine run_plain (id := 10) (ops := F13.o10) [(0, true), (1, false)] (by kernel_rfl) (by kernel_rfl) ?_
      refine yS (by kernel_rfl : opAt F13.o10 0 = some (some 36, .move (.tmp 9), none)) rfl rfl (fun w' hS => val_move rfl) ?_
      have hsz := agr_len hz hpm
      have hfl := List.length_filter_le (hits mk) tk
      refine cS (by kernel_rfl : opAt F13.o10 1 = some (some 37, .call { callee := .value (.func 33), args := #[(.tmp 36), (.func 34)], argTypes := #[30, 64] }, none)) rfl rfl (ent Try.call33 rfl) (sort_ok hF ho (by simp only [List.length_map]; omega)) ?_
      rintro _ w6 ⟨rfl, hs, ho, _⟩
      refine ⟨trivial, ?_⟩
      replace hF := hF.st hs
      replace hT := hT.trans hs (by simp)
      refine Sch.nil ?_
      refine run_seq (x := F13.c36) (y := F13.c37) (by kernel_rfl) ?_
      refine run_plain (id := 11) (ops := F13.o11) [(0, true), (1, true), (2, true)] (by kernel_rfl) (by kernel_rfl) ?_
      refine yS (by kernel_rfl : opAt F13.o11 0 = some (some 38, .move (.tmp 9), none)) rfl rfl (fun w' hS => val_move rfl) ?_
      refine yS (by kernel_rfl : opAt F13.o11 1 = some (some 6, .assign (.tmp 38), none)) rfl rfl (fun w' hS => val_assign rfl) ?_
      refine yS (by kernel_rfl : opAt F13.o11 2 = some (some 7, .assign (.const (.int .i64 0)), none)) rfl rfl (fun w' hS => val_assign rfl) ?_
      refine Sch.nil ?_
      refine run_ret2 (by kernel_rfl) Try.func13 Try.results13 rfl rfl ?_
      rw [hz]
      refine ⟨_, rfl, hT.out1 (by decide), ?_⟩
      rw [if_neg (by simp), show ((mk : Int)).toNat = mk from by simp, ← listS_of hpm]
      exact ho.out hT hF0 (Mc_col1 C) (fun b _ => col1_lt C (by decide) b) (by rw [(sortC_perm _).length_eq, List.length_map]; have := agr_len hz hpm; have := List.length_filter_le (hits mk) tk; omega)
    · skip
      refine yS (by kernel_rfl : opAt F13.o6 1 = some (some 24, .extract (.tmp 23) 0, none)) rfl rfl (fun w' hS => val_extract rfl rfl) ?_
      refine Sch.nil ?_
      have hpm2 := perm_next hnc hpm
      obtain ⟨q, hq⟩ : ∃ q, q = lf[nc] := ⟨_, rfl⟩
      rw [← hq] at hit hpm2
      have hqm : q ∈ agrI a b a.length := hpm2.subset (by simp)
      have hq8 : q.2 < 256 := by have := hsm q.1; rw [mget_mem hnd hqm] at this; exact this
      refine run_seq (x := F13.c22) (y := F13.c25) (by kernel_rfl) ?_
      refine run_cond (x := F13.c23) (y := F13.c24) (o := .tmp 24) (b := true) (by kernel_rfl) rfl (fun _ => ?_) (fun h => by cases h)
      refine run_skip (by kernel_rfl) ?_
      refine run_block (x := F13.c26) (id := 1) (by kernel_rfl) ?_
      refine run_seq (x := F13.c27) (y := F13.c28) (by kernel_rfl) ?_
      refine run_plain (id := 7) (ops := F13.o7) [(0, false), (1, true), (2, true), (3, false), (4, false), (5, true)] (by kernel_rfl) (by kernel_rfl) ?_
      refine nS (by kernel_rfl : opAt F13.o7 0 = some (some 25, .entry (.tmp 22), none)) rfl rfl trivial (hit.entry rfl) ?_
      refine yS (by kernel_rfl : opAt F13.o7 1 = some (some 26, .extract (.tmp 25) 0, none)) rfl rfl (fun w' hS => val_extract rfl rfl) ?_
      refine yS (by kernel_rfl : opAt F13.o7 2 = some (some 27, .extract (.tmp 25) 1, none)) rfl rfl (fun w' hS => val_extract rfl rfl) ?_
      refine aS (by kernel_rfl : opAt F13.o7 3 = some (some 10, .alloc 37, none)) rfl rfl (a_alloc (cs := [.int .i64 0, .int .i64 0]) hF 5 (by kernel_rfl)) ?_
      rintro _ w7 ⟨Cw7, bw7, rfl, hs, hx, hF⟩
      refine ⟨trivial, ?_⟩
      replace hT := hT.trans hs (by simp)
      replace hit := hit.st hs (by first | decide | (simp <;> omega)) (by first | decide | (simp <;> omega))
      replace ho := ho.st hs (by first | decide | (simp <;> omega)) (by first | decide | (simp <;> omega))
      refine aN (by kernel_rfl : opAt F13.o7 4 = some (none, .store 37 (.tmp 10) (.tmp 26), none)) rfl (a_storeAll (vs := [.int .i64 q.1.a, .int .i64 q.1.b]) (n := 2) rfl rfl (by kernel_rfl) rfl rfl (by intro u hu; simp only [List.mem_cons, List.not_mem_nil, or_false] at hu; rcases hu with rfl | rfl <;> rfl) hx rfl) ?_
      rintro _ w8 ⟨rfl, hs, hx⟩
      refine ⟨trivial, ?_⟩
      replace hF := hF.st hs
      replace hT := hT.trans hs (by simp)
      replace hit := hit.st hs (by first | decide | (simp <;> omega)) (by first | decide | (simp <;> omega))
      replace ho := ho.st hs (by first | decide | (simp <;> omega)) (by first | decide | (simp <;> omega))
      refine yS (by kernel_rfl : opAt F13.o7 5 = some (some 11, .assign (.tmp 27), none)) rfl rfl (fun w' hS => val_assign rfl) ?_
      refine Sch.nil ?_
      refine run_seq (x := F13.c29) (y := F13.c30) (by kernel_rfl) ?_
      refine run_plain (id := 8) (ops := F13.o8) [(0, true), (1, true), (2, true), (3, true)] (by kernel_rfl) (by kernel_rfl) ?_
      refine yS (by kernel_rfl : opAt F13.o8 0 = some (some 28, .move (.tmp 11), none)) rfl rfl (fun w' hS => val_move rfl) ?_
      refine yS (by kernel_rfl : opAt F13.o8 1 = some (some 29, .move (.tmp 2), none)) rfl rfl (fun w' hS => val_move rfl) ?_
      refine yS (by kernel_rfl : opAt F13.o8 2 = some (some 30, .binOp .and 3 (.tmp 28) (.tmp 29) 3, none)) rfl rfl (fun w' hS => val_andE (r := ((q.2 &&& mk : Nat) : Int)) rfl rfl (bits_and (by omega) (by omega))) ?_
      refine yS (by kernel_rfl : opAt F13.o8 3 = some (some 31, .binOp .neq 3 (.tmp 30) (.const (.int .i64 0)) 3, none)) rfl rfl (fun w' hS => val_neq rfl rfl) ?_
      refine Sch.nil ?_
      refine run_if (x := F13.c31) (y := F13.c32) (o := .tmp 31) (by kernel_rfl) rfl (fun h31 => ?_) (fun h31 => ?_)
      · skip
        have hh : hits mk q = true := by simp only [hits, decide_eq_true_eq]; simpa using h31
        refine run_plain (id := 9) (ops := F13.o9) [(0, true), (1, false), (2, false), (3, false), (4, true)] (by kernel_rfl) (by kernel_rfl) ?_
        refine yS (by kernel_rfl : opAt F13.o9 0 = some (some 32, .move (.tmp 9), none)) rfl rfl (fun w' hS => val_move rfl) ?_
        refine nS (by kernel_rfl : opAt F13.o9 1 = some (some 33, .load 37 (.tmp 10), none)) rfl rfl trivial (val_loadOwnAgg (n := 2) hx.at_ (by kernel_rfl) (by kernel_rfl) rfl rfl rfl) ?_
        refine aS (by kernel_rfl : opAt F13.o9 2 = some (some 34, .buildSlice 30 1 #[(0, (.tmp 33))], none)) rfl rfl (a_buildSlice (ys := ([q.1] : List Couple)) (e := 37) (bytes := 16) hF (by kernel_rfl) rfl (by decide) (by decide) ⟨rfl, ⟨_, rfl, rv_couple.2 rfl⟩, trivial⟩) ?_
        rintro v34 w9 ⟨hs, g34, hF⟩
        refine ⟨trivial, ?_⟩
        replace hT := hT.trans hs (by simp)
        replace hit := hit.st hs (by first | decide | (simp <;> omega)) (by first | decide | (simp <;> omega))
        replace ho := ho.st hs (by first | decide | (simp <;> omega)) (by first | decide | (simp <;> omega))
        replace hx := hx.st hs (by first | decide | (simp <;> omega))
        have hsz := agr_len hz hpm
        have hfl := List.length_filter_le (hits mk) tk
        refine aS (by kernel_rfl : opAt F13.o9 3 = some (some 35, .call { callee := .builtin .append, args := #[(.tmp 32), (.tmp 34)], argTypes := #[30, 30] }, none)) rfl rfl (a_append (e := 37) (bytes := 16) hF (by decide) rfl rfl (by kernel_rfl) (by decide) ho g34 (by simp; omega) (by simp; omega)) ?_
        rintro v35 w10 ⟨Cw10, hs, ho, hF⟩
        refine ⟨trivial, ?_⟩
        replace hT := hT.trans hs (by simp)
        replace hit := hit.st hs (by first | decide | (simp <;> omega)) (by first | decide | (simp <;> omega))
        replace hx := hx.st hs (by first | decide | (simp <;> omega))
        replace g34 := g34.st hs (by first | decide | (simp <;> omega))
        refine yS (by kernel_rfl : opAt F13.o9 4 = some (some 9, .assign (.tmp 35), none)) rfl rfl (fun w' hS => val_assign rfl) ?_
        refine Sch.nil ?_
        refine run_inBlock ?_
        have hless : (lf.eraseIdx nc).length < lf.length := by rw [List.length_eraseIdx_of_lt hnc]; omega
        refine kp ?_ (next (Cw10, lf.eraseIdx nc, tk ++ [q], some q, v35) _ ⟨hF, hT, hit, hpm2, ?_⟩ hless)
        · exact sub_cons 2 rfl rfl (sub_cons 9 rfl rfl (sub_cons 22 rfl rfl (sub_nil _)))
        · simp only [List.filter_append, List.filter_cons, List.filter_nil, hh, if_true, List.map_append, List.map_cons, List.map_nil]; exact ho
      · skip
        have hh : hits mk q = false := by simp only [hits, decide_eq_false_iff_not]; simpa using h31
        refine run_skip (by kernel_rfl) ?_
        refine run_inBlock ?_
        have hless : (lf.eraseIdx nc).length < lf.length := by rw [List.length_eraseIdx_of_lt hnc]; omega
        refine kp ?_ (next (Cw7, lf.eraseIdx nc, tk ++ [q], some q, vo) _ ⟨hF, hT, hit, hpm2, ?_⟩ hless)
        · exact sub_cons 2 rfl rfl (sub_cons 9 rfl rfl (sub_cons 22 rfl rfl (sub_nil _)))
        · simp only [List.filter_append, List.filter_cons, List.filter_nil, hh, Bool.false_eq_true, if_false, List.append_nil]; exact ho
end Go.Proofs.Ytejbklahkkjmhaa
