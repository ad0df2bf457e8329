/- Steps through functions of the program. -/
import Derived.Test.YtejbklahkkjmhaaJR2
set_option linter.unusedVariables false
set_option linter.unusedSimpArgs false
set_option maxRecDepth 100000
set_option maxHeartbeats 4000000
namespace Go.Proofs.Ytejbklahkkjmhaa
open Go.K Go.K.Rep

theorem ids1_take {o ids : List Int} {j : Nat} (h : j < ids.length) : ids1 o (ids.take (j + 1)) = insI ids[j] (ids1 o (ids.take j)) := foldl_take _ _ _ _ h
theorem ids2_take {o : List Int} {l : List Block} {k : Nat} (h : k < l.length) : ids2 o (l.take (k + 1)) = ids1 (ids2 o (l.take k)) l[k].ids := foldl_take _ _ _ _ h
theorem idsF_take {a : List (List Block)} {i : Nat} (h : i < a.length) : (a.take (i + 1)).foldl ids2 [] = ids2 ((a.take i).foldl ids2 []) a[i] := foldl_take _ _ _ _ h
theorem totalN_takeS {l : List Block} {k : Nat} (h : k < l.length) : totalN (l.take (k + 1)) = totalN (l.take k) + l[k].ids.length := by
  have := total_take l h
  rw [total_nat, total_nat] at this; omega
theorem row1_take {a b : List (List Block)} {x : Int} {ys : List Int} {k : Nat} (h : k < ys.length) : row1 a b x (ys.take (k + 1)) = row1 a b x (ys.take k) ++ if 0 < agN a b x ys[k] a.length then [((⟨x, ys[k]⟩ : Couple), agN a b x ys[k] a.length)] else [] := by
  unfold row1
  rw [List.take_succ_eq_append_getElem h, List.filterMap_append]
  by_cases h0 : 0 < agN a b x ys[k] a.length
  · simp [h0]
  · simp [h0]
theorem rows_take {a b : List (List Block)} {xs ys : List Int} {i : Nat} (h : i < xs.length) : (xs.take (i + 1)).flatMap (fun x => row1 a b x ys) = (xs.take i).flatMap (fun x => row1 a b x ys) ++ row1 a b xs[i] ys := by
  rw [List.take_succ_eq_append_getElem h, List.flatMap_append]; simp
theorem dec_no {q : Prop} {P : q → Prop} [Decidable (∃ h, P h)] (h : ¬ q) : false = decide (∃ h, P h) := (decide_eq_false (fun e => h e.1)).symm
theorem dec_yes {q r : Prop} {P : q → Prop} [Decidable r] [Decidable (∃ h, P h)] (hq : q) (h : r ↔ P hq) : decide r = decide (∃ h, P h) := decide_eq_decide.2 ⟨fun e => ⟨hq, h.1 e⟩, fun e => h.2 e.2⟩
theorem dec_nn {q : Prop} {P : q → Prop} [Decidable (¬ ∃ h, P h)] (h : ¬ q) : true = decide (¬ ∃ h, P h) := (decide_eq_true (fun e => h e.1)).symm
theorem dec_ny {q r : Prop} {P : q → Prop} [Decidable r] [Decidable (¬ ∃ h, P h)] (hq : q) (h : r ↔ ¬ P hq) : decide r = decide (¬ ∃ h, P h) := decide_eq_decide.2 ⟨fun e x => h.1 e x.2, fun e => h.2 (fun x => e ⟨hq, x⟩)⟩
namespace F45
noncomputable def c0 : Code := bodyOf Try.f45
noncomputable def c1 : Code := cl c0
noncomputable def o0 : Array Oper := rops c1
noncomputable def c2 : Code := cr c0
noncomputable def c3 : Code := cl c2
noncomputable def o1 : Array Oper := rops c3
noncomputable def c4 : Code := cr c2
noncomputable def c5 : Code := cl c4
noncomputable def c6 : Code := cl c5
noncomputable def o2 : Array Oper := rops c6
noncomputable def c7 : Code := cr c5
noncomputable def c8 : Code := cl c7
noncomputable def c9 : Code := cl c8
noncomputable def c10 : Code := cl c9
noncomputable def c11 : Code := cl c10
noncomputable def o3 : Array Oper := rops c11
noncomputable def c12 : Code := cr c10
noncomputable def c13 : Code := cl c12
noncomputable def c14 : Code := cr c12
noncomputable def c15 : Code := cr c9
noncomputable def c16 : Code := cl c15
noncomputable def c17 : Code := cl c16
noncomputable def c18 : Code := cl c17
noncomputable def o5 : Array Oper := rops c18
noncomputable def c19 : Code := cr c17
noncomputable def c20 : Code := cl c19
noncomputable def c21 : Code := cl c20
noncomputable def c22 : Code := cl c21
noncomputable def c23 : Code := cl c22
noncomputable def o6 : Array Oper := rops c23
noncomputable def c24 : Code := cr c22
noncomputable def c25 : Code := cl c24
noncomputable def c26 : Code := cr c24
noncomputable def c27 : Code := cr c21
noncomputable def c28 : Code := cl c27
noncomputable def c29 : Code := cl c28
noncomputable def c30 : Code := cl c29
noncomputable def o8 : Array Oper := rops c30
noncomputable def c31 : Code := cr c29
noncomputable def c32 : Code := cl c31
noncomputable def c33 : Code := cl c32
noncomputable def c34 : Code := cl c33
noncomputable def c35 : Code := cl c34
noncomputable def o9 : Array Oper := rops c35
noncomputable def c36 : Code := cr c34
noncomputable def c37 : Code := cl c36
noncomputable def c38 : Code := cr c36
noncomputable def c39 : Code := cr c33
noncomputable def c40 : Code := cl c39
noncomputable def c41 : Code := cl c40
noncomputable def c42 : Code := cl c41
noncomputable def o11 : Array Oper := rops c42
noncomputable def c43 : Code := cr c41
noncomputable def c44 : Code := cl c43
noncomputable def o12 : Array Oper := rops c44
noncomputable def c45 : Code := cr c43
noncomputable def c46 : Code := cl c45
noncomputable def c47 : Code := cl c46
noncomputable def c48 : Code := cl c47
noncomputable def c49 : Code := cl c48
noncomputable def c50 : Code := cl c49
noncomputable def o13 : Array Oper := rops c50
noncomputable def c51 : Code := cr c49
noncomputable def c52 : Code := cl c51
noncomputable def c53 : Code := cr c51
noncomputable def c54 : Code := cr c48
noncomputable def c55 : Code := cl c54
noncomputable def o14 : Array Oper := rops c55
noncomputable def c56 : Code := cr c45
noncomputable def c57 : Code := cl c56
noncomputable def o15 : Array Oper := rops c57
noncomputable def c58 : Code := cr c56
noncomputable def c59 : Code := cl c58
noncomputable def o16 : Array Oper := rops c59
noncomputable def c60 : Code := cr c58
noncomputable def c61 : Code := cr c39
noncomputable def o10 : Array Oper := rops c61
noncomputable def c62 : Code := cr c27
noncomputable def o7 : Array Oper := rops c62
noncomputable def c63 : Code := cr c15
noncomputable def o4 : Array Oper := rops c63
noncomputable def c64 : Code := cr c4
noncomputable def c65 : Code := cl c64
noncomputable def o17 : Array Oper := rops c65
noncomputable def c66 : Code := cr c64
end F45
/-- All numbers of lists of blocks. -/
theorem ids_ok {w₀ : World} {C : Nat → Nat} {a : List (List Block)} {va : Value} (hF : Lim w₀ C) (ha : RV w₀ (Mc C) a va) (hBa : ∀ l ∈ a, totalN l ≤ 64) (h8 : a.length ≤ 8) : Calls Try.prog 45 #[va] w₀ (Ret fun v w' => Stp [] w₀ C w' C ∧ RV w' (Mc C) (idsS a) v) := by
  have hF0 := hF
  have hT := Stp.refl [2, 3, 4, 5, 6, 7, 8, 9] w₀ (col1 C)
  replace hF := hF.col1
  replace ha : RV w₀ (Mc (col1 C)) a va := by rw [Mc_col1]; exact ha
  refine calls_start (c := F45.c0) (N := 86) [va] Try.func45 (by kernel_rfl) (by kernel_rfl) (by kernel_rfl) ?_
  show Run _ _ _ _ [(0, va)] _ _
  refine run_seq (x := F45.c1) (y := F45.c2) (by kernel_rfl) ?_
  refine run_plain (id := 0) (ops := F45.o0) [(0, true)] (by kernel_rfl) (by kernel_rfl) ?_
  refine yS (by kernel_rfl : opAt F45.o0 0 = some (some 2, .assign (.const (.slice none 0 0)), none)) rfl rfl (fun w' hS => val_assign rfl) ?_
  refine Sch.nil ?_
  refine run_seq (x := F45.c3) (y := F45.c4) (by kernel_rfl) ?_
  refine run_plain (id := 1) (ops := F45.o1) [(0, true)] (by kernel_rfl) (by kernel_rfl) ?_
  refine yS (by kernel_rfl : opAt F45.o1 0 = some (some 3, .assign (.const (.slice none 0 0)), none)) rfl rfl (fun w' hS => val_assign rfl) ?_
  refine Sch.nil ?_
  refine run_seq (x := F45.c5) (y := F45.c64) (by kernel_rfl) ?_
  refine run_seq (x := F45.c6) (y := F45.c7) (by kernel_rfl) ?_
  refine run_plain (id := 2) (ops := F45.o2) [(0, true)] (by kernel_rfl) (by kernel_rfl) ?_
  refine yS (by kernel_rfl : opAt F45.o2 0 = some (some 4, .assign (.const (.int .i64 0)), none)) rfl rfl (fun w' hS => val_assign rfl) ?_
  refine Sch.nil ?_
  refine run_block (x := F45.c8) (id := 0) (by kernel_rfl) ?_
  
  refine run_loop (ι := Nat × (List Int) × Value × (Nat → Nat)) (I := fun x w => x.1 ≤ a.length ∧ x.2.1 = (a.take x.1).foldl ids2 [] ∧ x.2.1.length ≤ 64 * x.1 ∧ Lim w x.2.2.2 ∧ Stp [2, 3, 4, 5, 6, 7, 8, 9] w₀ (col1 C) w x.2.2.2 ∧ RV w (Mc x.2.2.2) a va ∧ RV w (Mc x.2.2.2) x.2.1 x.2.2.1) (e := fun x => [(0, va), (3, x.2.2.1), (4, .int .i64 x.1)]) (m := fun x => a.length - x.1) (x₀ := (0, [], .slice none 0 0, col1 C)) (body := F45.c9) (by kernel_rfl) (sub_cons 0 rfl rfl (sub_cons 3 rfl rfl (sub_cons 4 rfl rfl (sub_nil _)))) ?_ ?_
  · exact ⟨Nat.zero_le _, rfl, Nat.zero_le _, hF, hT, ha, rv_nil⟩
  intro ⟨i, out, vo, C1⟩ w1 hI next
  obtain ⟨hi, hv, hb, hF, hT, ha, ho⟩ := hI
  try simp only at hi hv hb hF hT ha ho
  have next1 := next
  clear next
  show Run _ _ _ _ [(0, va), (3, vo), (4, .int .i64 i)] _ _
  have hle := ha.le
  refine run_seq (x := F45.c10) (y := F45.c15) (by kernel_rfl) ?_
  refine run_seq (x := F45.c11) (y := F45.c12) (by kernel_rfl) ?_
  refine run_plain (id := 3) (ops := F45.o3) [(0, true), (1, true), (2, true), (3, true)] (by kernel_rfl) (by kernel_rfl) ?_
  refine yS (by kernel_rfl : opAt F45.o3 0 = some (some 9, .move (.tmp 4), none)) rfl rfl (fun w' hS => val_move rfl) ?_
  refine yS (by kernel_rfl : opAt F45.o3 1 = some (some 10, .move (.tmp 0), none)) rfl rfl (fun w' hS => val_move rfl) ?_
  refine yS (by kernel_rfl : opAt F45.o3 2 = some (some 11, .call { callee := .builtin .len, args := #[(.tmp 10)], argTypes := #[28] }, none)) rfl rfl (fun w' hS => ha.lenV rfl Try.underlying28 w' ) ?_
  refine yS (by kernel_rfl : opAt F45.o3 3 = some (some 12, .binOp .lss 3 (.tmp 9) (.tmp 11) 3, none)) rfl rfl (fun w' hS => val_lss rfl rfl) ?_
  refine Sch.nil ?_
  refine run_if (x := F45.c13) (y := F45.c14) (o := .tmp 12) (by kernel_rfl) rfl (fun h12 => ?_) (fun h12 => ?_)
  · skip
    have hil : i < a.length := by omega
    have hTl : totalN a[i] ≤ 64 := hBa _ (List.getElem_mem hil)
    refine run_skip (by kernel_rfl) ?_
    refine run_seq (x := F45.c16) (y := F45.c63) (by kernel_rfl) ?_
    refine run_block (x := F45.c17) (id := 1) (by kernel_rfl) ?_
    refine run_seq (x := F45.c18) (y := F45.c19) (by kernel_rfl) ?_
    refine run_plain (id := 5) (ops := F45.o5) [(0, true)] (by kernel_rfl) (by kernel_rfl) ?_
    refine yS (by kernel_rfl : opAt F45.o5 0 = some (some 5, .assign (.const (.int .i64 0)), none)) rfl rfl (fun w' hS => val_assign rfl) ?_
    refine Sch.nil ?_
    refine run_block (x := F45.c20) (id := 2) (by kernel_rfl) ?_
    
    refine run_loop (ι := Nat × (List Int) × Value × (Nat → Nat)) (I := fun x w => x.1 ≤ a[i].length ∧ x.2.1 = ids2 out (a[i].take x.1) ∧ x.2.1.length ≤ 64 * i + totalN (a[i].take x.1) ∧ Lim w x.2.2.2 ∧ Stp [2, 3, 4, 5, 6, 7, 8, 9] w₀ (col1 C) w x.2.2.2 ∧ RV w (Mc x.2.2.2) a va ∧ RV w (Mc x.2.2.2) x.2.1 x.2.2.1) (e := fun x => [(0, va), (3, x.2.2.1), (4, .int .i64 i), (5, .int .i64 x.1)]) (m := fun x => a[i].length - x.1) (x₀ := (0, out, vo, C1)) (body := F45.c21) (by kernel_rfl) (sub_cons 0 rfl rfl (sub_cons 3 rfl rfl (sub_cons 4 rfl rfl (sub_cons 5 rfl rfl (sub_nil _))))) ?_ ?_
    · exact ⟨Nat.zero_le _, rfl, (by simp only; omega), hF, hT, ha, ho⟩
    intro ⟨k, o2, v2, C2⟩ w2 hI next
    obtain ⟨hk, hv2, hb2, hF, hT, ha, ho⟩ := hI
    try simp only at hk hv2 hb2 hF hT ha ho
    have next2 := next
    clear next
    show Run _ _ _ _ [(0, va), (3, v2), (4, .int .i64 i), (5, .int .i64 k)] _ _
    refine run_seq (x := F45.c22) (y := F45.c27) (by kernel_rfl) ?_
    refine run_seq (x := F45.c23) (y := F45.c24) (by kernel_rfl) ?_
    refine run_plain (id := 6) (ops := F45.o6) [(0, true), (1, true), (2, true), (3, true), (4, false), (5, true), (6, true)] (by kernel_rfl) (by kernel_rfl) ?_
    refine yS (by kernel_rfl : opAt F45.o6 0 = some (some 15, .move (.tmp 5), none)) rfl rfl (fun w' hS => val_move rfl) ?_
    refine yS (by kernel_rfl : opAt F45.o6 1 = some (some 16, .move (.tmp 0), none)) rfl rfl (fun w' hS => val_move rfl) ?_
    refine yS (by kernel_rfl : opAt F45.o6 2 = some (some 17, .move (.tmp 4), none)) rfl rfl (fun w' hS => val_move rfl) ?_
    refine iS (e := 39) (by kernel_rfl : opAt F45.o6 3 = some (some 18, .indexAddr 28 (.tmp 16) (.tmp 17), none)) rfl rfl ha rfl (by kernel_rfl) rfl (by omega) (by omega) ?_
    intro b18 o18 h18
    try simp only [Int.toNat_natCast] at h18
    refine lN (by kernel_rfl : opAt F45.o6 4 = some (some 19, .load 39 (.tmp 18), none)) rfl rfl trivial h18 (by kernel_rfl) rfl rfl ?_
    intro v19 g19
    refine yS (by kernel_rfl : opAt F45.o6 5 = some (some 20, .call { callee := .builtin .len, args := #[(.tmp 19)], argTypes := #[39] }, none)) rfl rfl (fun w' hS => g19.lenV rfl Try.underlying39 w' ) ?_
    refine yS (by kernel_rfl : opAt F45.o6 6 = some (some 21, .binOp .lss 3 (.tmp 15) (.tmp 20) 3, none)) rfl rfl (fun w' hS => val_lss rfl rfl) ?_
    refine Sch.nil ?_
    refine run_if (x := F45.c25) (y := F45.c26) (o := .tmp 21) (by kernel_rfl) rfl (fun h21 => ?_) (fun h21 => ?_)
    · skip
      have hkl : k < a[i].length := by omega
      have hkle := g19.le
      have htk := totalN_takeS hkl
      have htl := totalN_take a[i] (k + 1)
      refine run_skip (by kernel_rfl) ?_
      refine run_seq (x := F45.c28) (y := F45.c62) (by kernel_rfl) ?_
      refine run_block (x := F45.c29) (id := 3) (by kernel_rfl) ?_
      refine run_seq (x := F45.c30) (y := F45.c31) (by kernel_rfl) ?_
      refine run_plain (id := 8) (ops := F45.o8) [(0, true)] (by kernel_rfl) (by kernel_rfl) ?_
      refine yS (by kernel_rfl : opAt F45.o8 0 = some (some 6, .assign (.const (.int .i64 0)), none)) rfl rfl (fun w' hS => val_assign rfl) ?_
      refine Sch.nil ?_
      refine run_block (x := F45.c32) (id := 4) (by kernel_rfl) ?_
      
      refine run_loop (ι := Nat × (List Int) × Value × (Nat → Nat)) (I := fun x w => x.1 ≤ (a[i][k]).ids.length ∧ x.2.1 = ids1 o2 ((a[i][k]).ids.take x.1) ∧ x.2.1.length ≤ 64 * i + totalN (a[i].take k) + x.1 ∧ Lim w x.2.2.2 ∧ Stp [2, 3, 4, 5, 6, 7, 8, 9] w₀ (col1 C) w x.2.2.2 ∧ RV w (Mc x.2.2.2) a va ∧ RV w (Mc x.2.2.2) x.2.1 x.2.2.1) (e := fun x => [(0, va), (3, x.2.2.1), (4, .int .i64 i), (5, .int .i64 k), (6, .int .i64 x.1)]) (m := fun x => (a[i][k]).ids.length - x.1) (x₀ := (0, o2, v2, C2)) (body := F45.c33) (by kernel_rfl) (sub_cons 0 rfl rfl (sub_cons 3 rfl rfl (sub_cons 4 rfl rfl (sub_cons 5 rfl rfl (sub_cons 6 rfl rfl (sub_nil _)))))) ?_ ?_
      · exact ⟨Nat.zero_le _, rfl, (by simp only; omega), hF, hT, ha, ho⟩
      intro ⟨j, o3, v3, C3⟩ w3 hI next
      obtain ⟨hj, hv3, hb3, hF, hT, ha, ho⟩ := hI
      try simp only at hj hv3 hb3 hF hT ha ho
      have next3 := next
      clear next
      show Run _ _ _ _ [(0, va), (3, v3), (4, .int .i64 i), (5, .int .i64 k), (6, .int .i64 j)] _ _
      refine run_seq (x := F45.c34) (y := F45.c39) (by kernel_rfl) ?_
      refine run_seq (x := F45.c35) (y := F45.c36) (by kernel_rfl) ?_
      refine run_plain (id := 9) (ops := F45.o9) [(0, true), (1, true), (2, true), (3, true), (4, false), (5, true), (6, true), (7, true), (8, false), (9, true), (10, true)] (by kernel_rfl) (by kernel_rfl) ?_
      refine yS (by kernel_rfl : opAt F45.o9 0 = some (some 24, .move (.tmp 6), none)) rfl rfl (fun w' hS => val_move rfl) ?_
      refine yS (by kernel_rfl : opAt F45.o9 1 = some (some 25, .move (.tmp 0), none)) rfl rfl (fun w' hS => val_move rfl) ?_
      refine yS (by kernel_rfl : opAt F45.o9 2 = some (some 26, .move (.tmp 4), none)) rfl rfl (fun w' hS => val_move rfl) ?_
      refine iS (e := 39) (by kernel_rfl : opAt F45.o9 3 = some (some 27, .indexAddr 28 (.tmp 25) (.tmp 26), none)) rfl rfl ha rfl (by kernel_rfl) rfl (by omega) (by omega) ?_
      intro b27 o27 h27
      try simp only [Int.toNat_natCast] at h27
      refine lN (by kernel_rfl : opAt F45.o9 4 = some (some 28, .load 39 (.tmp 27), none)) rfl rfl trivial h27 (by kernel_rfl) rfl rfl ?_
      intro v28 g28
      refine yS (by kernel_rfl : opAt F45.o9 5 = some (some 29, .move (.tmp 5), none)) rfl rfl (fun w' hS => val_move rfl) ?_
      refine iS (e := 44) (by kernel_rfl : opAt F45.o9 6 = some (some 30, .indexAddr 39 (.tmp 28) (.tmp 29), none)) rfl rfl g28 rfl (by kernel_rfl) rfl (by omega) (by omega) ?_
      intro b30 o30 h30
      try simp only [Int.toNat_natCast] at h30
      have h31 := RA.ids h30
      refine yS (by kernel_rfl : opAt F45.o9 7 = some (some 31, .fieldAddr 44 (.tmp 30) 1, none)) rfl rfl (fun w' hS => val_fieldAddr (off := 1) (by kernel_rfl) rfl) ?_
      refine lN (by kernel_rfl : opAt F45.o9 8 = some (some 32, .load 22 (.tmp 31), none)) rfl rfl trivial h31 (by kernel_rfl) rfl rfl ?_
      intro v32 g32
      refine yS (by kernel_rfl : opAt F45.o9 9 = some (some 33, .call { callee := .builtin .len, args := #[(.tmp 32)], argTypes := #[22] }, none)) rfl rfl (fun w' hS => g32.lenV rfl Try.underlying22 w' ) ?_
      refine yS (by kernel_rfl : opAt F45.o9 10 = some (some 34, .binOp .lss 3 (.tmp 24) (.tmp 33) 3, none)) rfl rfl (fun w' hS => val_lss rfl rfl) ?_
      refine Sch.nil ?_
      refine run_if (x := F45.c37) (y := F45.c38) (o := .tmp 34) (by kernel_rfl) rfl (fun h34 => ?_) (fun h34 => ?_)
      · skip
        have hjl : j < (a[i][k]).ids.length := by omega
        refine run_skip (by kernel_rfl) ?_
        refine run_seq (x := F45.c40) (y := F45.c61) (by kernel_rfl) ?_
        refine run_block (x := F45.c41) (id := 5) (by kernel_rfl) ?_
        refine run_seq (x := F45.c42) (y := F45.c43) (by kernel_rfl) ?_
        refine run_plain (id := 11) (ops := F45.o11) [(0, true), (1, true), (2, true), (3, false), (4, true), (5, true), (6, true), (7, false), (8, true), (9, true), (10, false), (11, true)] (by kernel_rfl) (by kernel_rfl) ?_
        refine yS (by kernel_rfl : opAt F45.o11 0 = some (some 37, .move (.tmp 0), none)) rfl rfl (fun w' hS => val_move rfl) ?_
        refine yS (by kernel_rfl : opAt F45.o11 1 = some (some 38, .move (.tmp 4), none)) rfl rfl (fun w' hS => val_move rfl) ?_
        refine iS (e := 39) (by kernel_rfl : opAt F45.o11 2 = some (some 39, .indexAddr 28 (.tmp 37) (.tmp 38), none)) rfl rfl ha rfl (by kernel_rfl) rfl (by omega) (by omega) ?_
        intro b39 o39 h39
        try simp only [Int.toNat_natCast] at h39
        refine lN (by kernel_rfl : opAt F45.o11 3 = some (some 40, .load 39 (.tmp 39), none)) rfl rfl trivial h39 (by kernel_rfl) rfl rfl ?_
        intro v40 g40
        refine yS (by kernel_rfl : opAt F45.o11 4 = some (some 41, .move (.tmp 5), none)) rfl rfl (fun w' hS => val_move rfl) ?_
        refine iS (e := 44) (by kernel_rfl : opAt F45.o11 5 = some (some 42, .indexAddr 39 (.tmp 40) (.tmp 41), none)) rfl rfl g40 rfl (by kernel_rfl) rfl (by omega) (by omega) ?_
        intro b42 o42 h42
        try simp only [Int.toNat_natCast] at h42
        have h43 := RA.ids h42
        refine yS (by kernel_rfl : opAt F45.o11 6 = some (some 43, .fieldAddr 44 (.tmp 42) 1, none)) rfl rfl (fun w' hS => val_fieldAddr (off := 1) (by kernel_rfl) rfl) ?_
        refine lN (by kernel_rfl : opAt F45.o11 7 = some (some 44, .load 22 (.tmp 43), none)) rfl rfl trivial h43 (by kernel_rfl) rfl rfl ?_
        intro v44 g44
        refine yS (by kernel_rfl : opAt F45.o11 8 = some (some 45, .move (.tmp 6), none)) rfl rfl (fun w' hS => val_move rfl) ?_
        refine iS (e := 3) (by kernel_rfl : opAt F45.o11 9 = some (some 46, .indexAddr 22 (.tmp 44) (.tmp 45), none)) rfl rfl g44 rfl (by kernel_rfl) rfl (by omega) (by omega) ?_
        intro b46 o46 h46
        try simp only [Int.toNat_natCast] at h46
        refine lN (by kernel_rfl : opAt F45.o11 10 = some (some 47, .load 3 (.tmp 46), none)) rfl rfl trivial h46 (by kernel_rfl) rfl rfl ?_
        intro v47 g47
        first | (obtain rfl := rv_nat.1 g47) | (obtain rfl := rv_int.1 g47)
        refine yS (by kernel_rfl : opAt F45.o11 11 = some (some 7, .assign (.tmp 47), none)) rfl rfl (fun w' hS => val_assign rfl) ?_
        refine Sch.nil ?_
        refine run_seq (x := F45.c44) (y := F45.c45) (by kernel_rfl) ?_
        refine run_plain (id := 12) (ops := F45.o12) [(0, true)] (by kernel_rfl) (by kernel_rfl) ?_
        refine yS (by kernel_rfl : opAt F45.o12 0 = some (some 8, .assign (.const (.int .i64 0)), none)) rfl rfl (fun w' hS => val_assign rfl) ?_
        refine Sch.nil ?_
        refine run_seq (x := F45.c46) (y := F45.c56) (by kernel_rfl) ?_
        refine run_block (x := F45.c47) (id := 6) (by kernel_rfl) ?_
        
        refine run_loop (ι := Nat × (Nat → Nat)) (I := fun x w => x.1 ≤ o3.length ∧ (∀ q (h1 : q < o3.length), q < x.1 → o3[q] < ((a[i][k]).ids[j])) ∧ Lim w x.2 ∧ Stp [2, 3, 4, 5, 6, 7, 8, 9] w₀ (col1 C) w x.2 ∧ RV w (Mc x.2) a va ∧ RV w (Mc x.2) o3 v3) (e := fun x => [(0, va), (3, v3), (4, .int .i64 i), (5, .int .i64 k), (6, .int .i64 j), (7, .int .i64 ((a[i][k]).ids[j])), (8, .int .i64 x.1)]) (m := fun x => o3.length - x.1) (x₀ := (0, C3)) (body := F45.c48) (by kernel_rfl) (sub_cons 0 rfl rfl (sub_cons 3 rfl rfl (sub_cons 4 rfl rfl (sub_cons 5 rfl rfl (sub_cons 6 rfl rfl (sub_cons 7 rfl rfl (sub_cons 8 rfl rfl (sub_nil _)))))))) ?_ ?_
        · exact ⟨Nat.zero_le _, (fun q _ hq => by first | omega | (simp only at hq; omega)), hF, hT, ha, ho⟩
        intro ⟨p, C4⟩ w4 hI next
        obtain ⟨hp, h0, hF, hT, ha, ho⟩ := hI
        try simp only at hp h0 hF hT ha ho
        have next4 := next
        clear next
        show Run _ _ _ _ [(0, va), (3, v3), (4, .int .i64 i), (5, .int .i64 k), (6, .int .i64 j), (7, .int .i64 ((a[i][k]).ids[j])), (8, .int .i64 p)] _ _
        refine run_seq (x := F45.c49) (y := F45.c54) (by kernel_rfl) ?_
        refine run_seq (x := F45.c50) (y := F45.c51) (by kernel_rfl) ?_
        refine run_cut 59 (decide (∃ h : p < o3.length, o3[p] < ((a[i][k]).ids[j]))) (C4) ?_ ?_
        · intro hcut
          by_cases hA : p < o3.length
          · skip
            refine run_plain (id := 13) (ops := F45.o13) [(0, true), (1, true), (2, true), (3, true), (4, true), (5, true), (6, true), (7, true), (8, false), (9, true), (10, true), (11, true)] (by kernel_rfl) (by kernel_rfl) ?_
            refine yS (by kernel_rfl : opAt F45.o13 0 = some (some 48, .move (.tmp 8), none)) rfl rfl (fun w' hS => val_move rfl) ?_
            refine yS (by kernel_rfl : opAt F45.o13 1 = some (some 49, .move (.tmp 3), none)) rfl rfl (fun w' hS => val_move rfl) ?_
            refine yS (by kernel_rfl : opAt F45.o13 2 = some (some 50, .call { callee := .builtin .len, args := #[(.tmp 49)], argTypes := #[22] }, none)) rfl rfl (fun w' hS => ho.lenV rfl Try.underlying22 w' ) ?_
            refine yS (by kernel_rfl : opAt F45.o13 3 = some (some 51, .binOp .lss 3 (.tmp 48) (.tmp 50) 3, none)) rfl rfl (fun w' hS => val_T (val_lss rfl rfl) (by omega)) ?_
            refine yS (by kernel_rfl : opAt F45.o13 4 = some (some 52, .move (.tmp 51), none)) rfl rfl (fun w' hS => val_move rfl) ?_
            refine yS (by kernel_rfl : opAt F45.o13 5 = some (some 53, .move (.tmp 3), (some (4, true)))) rfl rfl (fun w' hS => val_move rfl) ?_
            refine yS (by kernel_rfl : opAt F45.o13 6 = some (some 54, .move (.tmp 8), (some (4, true)))) rfl rfl (fun w' hS => val_move rfl) ?_
            refine iS (e := 3) (by kernel_rfl : opAt F45.o13 7 = some (some 55, .indexAddr 22 (.tmp 53) (.tmp 54), (some (4, true)))) rfl rfl ho rfl (by kernel_rfl) rfl (by omega) (by omega) ?_
            intro b55 o55 h55
            try simp only [Int.toNat_natCast] at h55
            refine lN (by kernel_rfl : opAt F45.o13 8 = some (some 56, .load 3 (.tmp 55), (some (4, true)))) rfl rfl trivial h55 (by kernel_rfl) rfl rfl ?_
            intro v56 g56
            first | (obtain rfl := rv_nat.1 g56) | (obtain rfl := rv_int.1 g56)
            refine yS (by kernel_rfl : opAt F45.o13 9 = some (some 57, .move (.tmp 7), (some (4, true)))) rfl rfl (fun w' hS => val_move rfl) ?_
            refine yS (by kernel_rfl : opAt F45.o13 10 = some (some 58, .binOp .lss 3 (.tmp 56) (.tmp 57) 3, (some (4, true)))) rfl rfl (fun w' hS => val_lss rfl rfl) ?_
            refine yS (by kernel_rfl : opAt F45.o13 11 = some (some 59, .pick (.tmp 52) (.tmp 58) (.const (.bool false)), none)) rfl rfl (fun w' hS => val_pick_t rfl rfl) ?_
            exact Sch.nil (hcut _ _ _ (Stp.refl _ _ _) rfl (eq_bool (dec_yes hA ⟨fun e => e, fun e => e⟩)) (sub_skip rfl (sub_skip rfl (sub_skip rfl (sub_skip rfl (sub_skip rfl (sub_skip rfl (sub_skip rfl (sub_skip rfl (sub_skip rfl (sub_skip rfl (sub_skip rfl (sub_skip rfl (Sub.refl _))))))))))))))
          · skip
            refine run_plain (id := 13) (ops := F45.o13) [(0, true), (1, true), (2, true), (3, true), (4, true), (5, true), (6, true), (7, true), (8, false), (9, true), (10, true), (11, true)] (by kernel_rfl) (by kernel_rfl) ?_
            refine yS (by kernel_rfl : opAt F45.o13 0 = some (some 48, .move (.tmp 8), none)) rfl rfl (fun w' hS => val_move rfl) ?_
            refine yS (by kernel_rfl : opAt F45.o13 1 = some (some 49, .move (.tmp 3), none)) rfl rfl (fun w' hS => val_move rfl) ?_
            refine yS (by kernel_rfl : opAt F45.o13 2 = some (some 50, .call { callee := .builtin .len, args := #[(.tmp 49)], argTypes := #[22] }, none)) rfl rfl (fun w' hS => ho.lenV rfl Try.underlying22 w' ) ?_
            refine yS (by kernel_rfl : opAt F45.o13 3 = some (some 51, .binOp .lss 3 (.tmp 48) (.tmp 50) 3, none)) rfl rfl (fun w' hS => val_F (val_lss rfl rfl) (by omega)) ?_
            refine yS (by kernel_rfl : opAt F45.o13 4 = some (some 52, .move (.tmp 51), none)) rfl rfl (fun w' hS => val_move rfl) ?_
            refine pS (by kernel_rfl : opAt F45.o13 5 = some (some 53, .move (.tmp 3), (some (4, true)))) rfl rfl ?_
            refine pS (by kernel_rfl : opAt F45.o13 6 = some (some 54, .move (.tmp 8), (some (4, true)))) rfl rfl ?_
            refine pS (by kernel_rfl : opAt F45.o13 7 = some (some 55, .indexAddr 22 (.tmp 53) (.tmp 54), (some (4, true)))) rfl rfl ?_
            refine pW (by kernel_rfl : opAt F45.o13 8 = some (some 56, .load 3 (.tmp 55), (some (4, true)))) rfl rfl trivial ?_
            refine pS (by kernel_rfl : opAt F45.o13 9 = some (some 57, .move (.tmp 7), (some (4, true)))) rfl rfl ?_
            refine pS (by kernel_rfl : opAt F45.o13 10 = some (some 58, .binOp .lss 3 (.tmp 56) (.tmp 57) 3, (some (4, true)))) rfl rfl ?_
            refine yS (by kernel_rfl : opAt F45.o13 11 = some (some 59, .pick (.tmp 52) (.tmp 58) (.const (.bool false)), none)) rfl rfl (fun w' hS => val_pick_f rfl rfl) ?_
            exact Sch.nil (hcut _ _ _ (Stp.refl _ _ _) rfl (eq_bool (dec_no hA)) (sub_skip rfl (sub_skip rfl (sub_skip rfl (sub_skip rfl (sub_skip rfl (sub_skip rfl (sub_skip rfl (sub_skip rfl (sub_skip rfl (sub_skip rfl (sub_skip rfl (sub_skip rfl (Sub.refl _))))))))))))))
        intro w5 hs
        replace hF := hF.st hs
        replace hT := hT.trans hs (by simp)
        replace ha := ha.st hs (by first | decide | (simp <;> omega))
        replace ho := ho.st hs (by first | decide | (simp <;> omega))
        refine run_if (x := F45.c52) (y := F45.c53) (o := .tmp 59) (by kernel_rfl) rfl (fun h59 => ?_) (fun h59 => ?_)
        · skip
          obtain ⟨hpl, hlx⟩ := h59
          refine run_skip (by kernel_rfl) ?_
          refine run_block (x := F45.c55) (id := 7) (by kernel_rfl) ?_
          refine run_plain (id := 14) (ops := F45.o14) [(0, true), (1, true), (2, true)] (by kernel_rfl) (by kernel_rfl) ?_
          refine yS (by kernel_rfl : opAt F45.o14 0 = some (some 60, .move (.tmp 8), none)) rfl rfl (fun w' hS => val_move rfl) ?_
          refine yS (by kernel_rfl : opAt F45.o14 1 = some (some 61, .binOp .add 3 (.tmp 60) (.const (.int .i64 1)) 3, none)) rfl rfl (fun w' hS => val_addi rfl rfl (by omega) (by omega)) ?_
          refine yS (by kernel_rfl : opAt F45.o14 2 = some (some 8, .assign (.tmp 61), none)) rfl rfl (fun w' hS => val_assign rfl) ?_
          refine Sch.nil ?_
          refine run_inBlock ?_
          refine kp (sub_cons 0 rfl rfl (sub_cons 3 rfl rfl (sub_cons 4 rfl rfl (sub_cons 5 rfl rfl (sub_cons 6 rfl rfl (sub_cons 7 rfl rfl (sub_cons 8 rfl (eq_int (by simp)) (sub_nil _)))))))) (next4 (p + 1, C4) _ ⟨(by first | omega | (simp only; omega)), (fun q h1 hq => by
              try simp only at hq
              by_cases e : q = p
              · subst e; exact hlx
              · exact h0 q h1 (by omega)), hF, hT, ha, ho⟩ (by first | omega | (simp only; omega)))
        · skip
          have hno : ∀ h : p < o3.length, ¬ o3[p] < ((a[i][k]).ids[j]) := fun h e => h59 ⟨h, e⟩
          have hins := insI_at (x := ((a[i][k]).ids[j])) hp (fun q h1 h2 => h0 q h1 h2) hno
          have hil3 := insI_len ((a[i][k]).ids[j]) o3
          refine run_exit (id := 6) (by kernel_rfl) rfl ?_
          refine run_seq (x := F45.c57) (y := F45.c58) (by kernel_rfl) ?_
          refine run_cut 73 (decide (¬ ∃ h : p < o3.length, o3[p] = ((a[i][k]).ids[j]))) (C4) ?_ ?_
          · intro hcut
            by_cases hA : p = o3.length
            · skip
              refine run_plain (id := 15) (ops := F45.o15) [(0, true), (1, true), (2, true), (3, true), (4, true), (5, true), (6, true), (7, true), (8, false), (9, true), (10, true), (11, true)] (by kernel_rfl) (by kernel_rfl) ?_
              refine yS (by kernel_rfl : opAt F45.o15 0 = some (some 62, .move (.tmp 8), none)) rfl rfl (fun w' hS => val_move rfl) ?_
              refine yS (by kernel_rfl : opAt F45.o15 1 = some (some 63, .move (.tmp 3), none)) rfl rfl (fun w' hS => val_move rfl) ?_
              refine yS (by kernel_rfl : opAt F45.o15 2 = some (some 64, .call { callee := .builtin .len, args := #[(.tmp 63)], argTypes := #[22] }, none)) rfl rfl (fun w' hS => ho.lenV rfl Try.underlying22 w' ) ?_
              refine yS (by kernel_rfl : opAt F45.o15 3 = some (some 65, .binOp .eql 3 (.tmp 62) (.tmp 64) 3, none)) rfl rfl (fun w' hS => val_T (val_eql rfl rfl) (by omega)) ?_
              refine yS (by kernel_rfl : opAt F45.o15 4 = some (some 66, .move (.tmp 65), none)) rfl rfl (fun w' hS => val_move rfl) ?_
              refine pS (by kernel_rfl : opAt F45.o15 5 = some (some 67, .move (.tmp 3), (some (4, false)))) rfl rfl ?_
              refine pS (by kernel_rfl : opAt F45.o15 6 = some (some 68, .move (.tmp 8), (some (4, false)))) rfl rfl ?_
              refine pS (by kernel_rfl : opAt F45.o15 7 = some (some 69, .indexAddr 22 (.tmp 67) (.tmp 68), (some (4, false)))) rfl rfl ?_
              refine pW (by kernel_rfl : opAt F45.o15 8 = some (some 70, .load 3 (.tmp 69), (some (4, false)))) rfl rfl trivial ?_
              refine pS (by kernel_rfl : opAt F45.o15 9 = some (some 71, .move (.tmp 7), (some (4, false)))) rfl rfl ?_
              refine pS (by kernel_rfl : opAt F45.o15 10 = some (some 72, .binOp .neq 3 (.tmp 70) (.tmp 71) 3, (some (4, false)))) rfl rfl ?_
              refine yS (by kernel_rfl : opAt F45.o15 11 = some (some 73, .pick (.tmp 66) (.const (.bool true)) (.tmp 72), none)) rfl rfl (fun w' hS => val_pick_t rfl rfl) ?_
              exact Sch.nil (hcut _ _ _ (Stp.refl _ _ _) rfl (eq_bool (dec_nn (by omega))) (sub_skip rfl (sub_skip rfl (sub_skip rfl (sub_skip rfl (sub_skip rfl (sub_skip rfl (sub_skip rfl (sub_skip rfl (sub_skip rfl (sub_skip rfl (sub_skip rfl (sub_skip rfl (Sub.refl _))))))))))))))
            · skip
              refine run_plain (id := 15) (ops := F45.o15) [(0, true), (1, true), (2, true), (3, true), (4, true), (5, true), (6, true), (7, true), (8, false), (9, true), (10, true), (11, true)] (by kernel_rfl) (by kernel_rfl) ?_
              refine yS (by kernel_rfl : opAt F45.o15 0 = some (some 62, .move (.tmp 8), none)) rfl rfl (fun w' hS => val_move rfl) ?_
              refine yS (by kernel_rfl : opAt F45.o15 1 = some (some 63, .move (.tmp 3), none)) rfl rfl (fun w' hS => val_move rfl) ?_
              refine yS (by kernel_rfl : opAt F45.o15 2 = some (some 64, .call { callee := .builtin .len, args := #[(.tmp 63)], argTypes := #[22] }, none)) rfl rfl (fun w' hS => ho.lenV rfl Try.underlying22 w' ) ?_
              refine yS (by kernel_rfl : opAt F45.o15 3 = some (some 65, .binOp .eql 3 (.tmp 62) (.tmp 64) 3, none)) rfl rfl (fun w' hS => val_F (val_eql rfl rfl) (by omega)) ?_
              refine yS (by kernel_rfl : opAt F45.o15 4 = some (some 66, .move (.tmp 65), none)) rfl rfl (fun w' hS => val_move rfl) ?_
              refine yS (by kernel_rfl : opAt F45.o15 5 = some (some 67, .move (.tmp 3), (some (4, false)))) rfl rfl (fun w' hS => val_move rfl) ?_
              refine yS (by kernel_rfl : opAt F45.o15 6 = some (some 68, .move (.tmp 8), (some (4, false)))) rfl rfl (fun w' hS => val_move rfl) ?_
              refine iS (e := 3) (by kernel_rfl : opAt F45.o15 7 = some (some 69, .indexAddr 22 (.tmp 67) (.tmp 68), (some (4, false)))) rfl rfl ho rfl (by kernel_rfl) rfl (by omega) (by omega) ?_
              intro b69 o69 h69
              try simp only [Int.toNat_natCast] at h69
              refine lN (by kernel_rfl : opAt F45.o15 8 = some (some 70, .load 3 (.tmp 69), (some (4, false)))) rfl rfl trivial h69 (by kernel_rfl) rfl rfl ?_
              intro v70 g70
              first | (obtain rfl := rv_nat.1 g70) | (obtain rfl := rv_int.1 g70)
              refine yS (by kernel_rfl : opAt F45.o15 9 = some (some 71, .move (.tmp 7), (some (4, false)))) rfl rfl (fun w' hS => val_move rfl) ?_
              refine yS (by kernel_rfl : opAt F45.o15 10 = some (some 72, .binOp .neq 3 (.tmp 70) (.tmp 71) 3, (some (4, false)))) rfl rfl (fun w' hS => val_neq rfl rfl) ?_
              refine yS (by kernel_rfl : opAt F45.o15 11 = some (some 73, .pick (.tmp 66) (.const (.bool true)) (.tmp 72), none)) rfl rfl (fun w' hS => val_pick_f rfl rfl) ?_
              exact Sch.nil (hcut _ _ _ (Stp.refl _ _ _) rfl (eq_bool (dec_ny (by omega) Iff.rfl)) (sub_skip rfl (sub_skip rfl (sub_skip rfl (sub_skip rfl (sub_skip rfl (sub_skip rfl (sub_skip rfl (sub_skip rfl (sub_skip rfl (sub_skip rfl (sub_skip rfl (sub_skip rfl (Sub.refl _))))))))))))))
          intro w6 hs
          replace hF := hF.st hs
          replace hT := hT.trans hs (by simp)
          replace ha := ha.st hs (by first | decide | (simp <;> omega))
          replace ho := ho.st hs (by first | decide | (simp <;> omega))
          refine run_if (x := F45.c59) (y := F45.c60) (o := .tmp 73) (by kernel_rfl) rfl (fun h73 => ?_) (fun h73 => ?_)
          · skip
            have hgd : ∀ h : p < o3.length, o3.getD p 0 = o3[p] := fun h => by simp [List.getD, h]
            rw [if_neg (fun e => h73 ⟨e.1, by rw [← hgd e.1]; exact e.2⟩)] at hins
            refine run_draw2 (id := 16) (ops := F45.o16) [3] (C4) [0, 1, 2, 4, 7, 8, 9] 3 [(5, false), (6, false), (10, false), (11, true)] 5 [(3, false), (6, false), (10, false), (11, true)] Try_mixed (by kernel_rfl) (by kernel_rfl) (by kernel_rfl) ?_ ?_
            · skip
              intro w7 hs
              replace hF := hF.st hs
              replace hT := hT.trans hs (by simp)
              replace ha := ha.st hs (by first | decide | (simp <;> omega))
              replace ho := ho.st hs (by first | decide | (simp <;> omega))
              show Sch _ _ _ _ _ _ _ [(0, true), (1, true), (2, true), (4, true), (7, true), (8, true), (9, true), (3, false), (5, false), (6, false), (10, false), (11, true)] _ _
              have hR := Stp.refl [3] w7 (C4)
              refine yS (by kernel_rfl : opAt F45.o16 0 = some (some 74, .move (.tmp 3), none)) rfl rfl (fun w' hS => val_move rfl) ?_
              refine yS (by kernel_rfl : opAt F45.o16 1 = some (some 75, .move (.tmp 8), none)) rfl rfl (fun w' hS => val_move rfl) ?_
              refine sTR (e' := 3) (by kernel_rfl : opAt F45.o16 2 = some (some 76, .slice 22 (.tmp 74) none (some (.tmp 75)) none, none)) rfl rfl ho rfl (by kernel_rfl) rfl (by omega) (by omega) ?_
              intro v76 h76
              try simp only [Int.toNat_natCast] at h76
              refine yS (by kernel_rfl : opAt F45.o16 4 = some (some 78, .move (.tmp 7), none)) rfl rfl (fun w' hS => val_move rfl) ?_
              refine yS (by kernel_rfl : opAt F45.o16 7 = some (some 81, .move (.tmp 3), none)) rfl rfl (fun w' hS => val_move rfl) ?_
              refine yS (by kernel_rfl : opAt F45.o16 8 = some (some 82, .move (.tmp 8), none)) rfl rfl (fun w' hS => val_move rfl) ?_
              refine sFR (e' := 3) (by kernel_rfl : opAt F45.o16 9 = some (some 83, .slice 22 (.tmp 81) (some (.tmp 82)) none none, none)) rfl rfl ho rfl (by kernel_rfl) rfl (by omega) (by omega) ?_
              intro v83 h83
              try simp only [Int.toNat_natCast] at h83
              refine aS (by kernel_rfl : opAt F45.o16 3 = some (some 77, .call { callee := .builtin .append, args := #[(.const (.slice none 0 0)), (.tmp 76)], argTypes := #[22, 22] }, none)) rfl rfl (a_append (e := 3) (bytes := 8) hF (by decide) rfl rfl (by kernel_rfl) (by decide) (OwnL.nil (α := Int) (j := 3)) h76 (by simp only [List.length_nil, List.length_append, List.length_cons, List.length_take, List.length_drop]; omega) (by simp only [List.length_nil, List.length_append, List.length_cons, List.length_take, List.length_drop]; omega)) ?_
              rintro v77 w8 ⟨Cw8, hs, hn, hF⟩
              refine ⟨(hR.trans hs (by simp)).ext, ?_⟩
              replace hT := hT.trans hs (by simp)
              replace ha := ha.st hs (by first | decide | (simp <;> omega))
              replace ho := ho.st hs (by first | decide | (simp <;> omega))
              replace hR := hR.trans hs (by simp)
              replace h76 := h76.st hs (by first | decide | (simp <;> omega))
              replace h83 := h83.st hs (by first | decide | (simp <;> omega))
              refine aS (by kernel_rfl : opAt F45.o16 5 = some (some 79, .buildSlice 22 1 #[(0, (.tmp 78))], none)) rfl rfl (a_buildSlice (ys := ([((a[i][k]).ids[j])] : List Int)) (e := 3) (bytes := 8) hF (by kernel_rfl) rfl (by decide) (by decide) ⟨rfl, ⟨_, rfl, rv_int.2 rfl⟩, trivial⟩) ?_
              rintro v79 w9 ⟨hs, hx1, hF⟩
              refine ⟨(hR.trans hs (by simp)).ext, ?_⟩
              replace hT := hT.trans hs (by simp)
              replace ha := ha.st hs (by first | decide | (simp <;> omega))
              replace ho := ho.st hs (by first | decide | (simp <;> omega))
              replace hR := hR.trans hs (by simp)
              replace h76 := h76.st hs (by first | decide | (simp <;> omega))
              replace h83 := h83.st hs (by first | decide | (simp <;> omega))
              replace hn := hn.st hs (by first | decide | (simp <;> omega)) (by first | decide | (simp <;> omega))
              refine aS (by kernel_rfl : opAt F45.o16 6 = some (some 80, .call { callee := .builtin .append, args := #[(.tmp 77), (.tmp 79)], argTypes := #[22, 22] }, none)) rfl rfl (a_append (e := 3) (bytes := 8) hF (by decide) rfl rfl (by kernel_rfl) (by decide) hn hx1 (by simp only [List.length_nil, List.length_append, List.length_cons, List.length_take, List.length_drop]; omega) (by simp only [List.length_nil, List.length_append, List.length_cons, List.length_take, List.length_drop]; omega)) ?_
              rintro v80 w10 ⟨Cw10, hs, hn, hF⟩
              refine ⟨(hR.trans hs (by simp)).ext, ?_⟩
              replace hT := hT.trans hs (by simp)
              replace ha := ha.st hs (by first | decide | (simp <;> omega))
              replace ho := ho.st hs (by first | decide | (simp <;> omega))
              replace hR := hR.trans hs (by simp)
              replace h76 := h76.st hs (by first | decide | (simp <;> omega))
              replace h83 := h83.st hs (by first | decide | (simp <;> omega))
              replace hx1 := hx1.st hs (by first | decide | (simp <;> omega))
              refine aS (by kernel_rfl : opAt F45.o16 10 = some (some 84, .call { callee := .builtin .append, args := #[(.tmp 80), (.tmp 83)], argTypes := #[22, 22] }, none)) rfl rfl (a_append (e := 3) (bytes := 8) hF (by decide) rfl rfl (by kernel_rfl) (by decide) hn h83 (by simp only [List.length_nil, List.length_append, List.length_cons, List.length_take, List.length_drop]; omega) (by simp only [List.length_nil, List.length_append, List.length_cons, List.length_take, List.length_drop]; omega)) ?_
              rintro v84 w11 ⟨Cw11, hs, hn, hF⟩
              refine ⟨(hR.trans hs (by simp)).ext, ?_⟩
              replace hT := hT.trans hs (by simp)
              replace ha := ha.st hs (by first | decide | (simp <;> omega))
              replace ho := ho.st hs (by first | decide | (simp <;> omega))
              replace hR := hR.trans hs (by simp)
              replace h76 := h76.st hs (by first | decide | (simp <;> omega))
              replace h83 := h83.st hs (by first | decide | (simp <;> omega))
              replace hx1 := hx1.st hs (by first | decide | (simp <;> omega))
              refine yS (by kernel_rfl : opAt F45.o16 11 = some (some 3, .assign (.tmp 84), none)) rfl rfl (fun w' hS => val_assign rfl) ?_
              refine Sch.nil ?_
              refine run_inBlock ?_
              refine run_plain (id := 10) (ops := F45.o10) [(0, true), (1, true), (2, true)] (by kernel_rfl) (by kernel_rfl) ?_
              refine yS (by kernel_rfl : opAt F45.o10 0 = some (some 35, .move (.tmp 6), none)) rfl rfl (fun w' hS => val_move rfl) ?_
              refine yS (by kernel_rfl : opAt F45.o10 1 = some (some 36, .binOp .add 3 (.tmp 35) (.const (.int .i64 1)) 3, none)) rfl rfl (fun w' hS => val_addi rfl rfl (by omega) (by omega)) ?_
              refine yS (by kernel_rfl : opAt F45.o10 2 = some (some 6, .assign (.tmp 36), none)) rfl rfl (fun w' hS => val_assign rfl) ?_
              refine Sch.nil ?_
              clear hx1
              clear h76
              clear h83
              have hnl : (([] ++ o3.take p) ++ [((a[i][k]).ids[j])] ++ o3.drop p).length ≤ o3.length + 1 := by rw [hins] at hil3; simpa using hil3
              replace hF := hF.frz 3
              replace hT := hT.frz (n := 3) (fun b => Nat.lt_of_lt_of_le (col1_lt2 C b) (by decide))
              replace ha := ha.frz 3
              clear ho
              have hn2_ := hn.frz (n := 3) (by decide) (by omega)
              clear hn
              have hn2 := hn2_
              clear hn2_
              refine kp (sub_cons 0 rfl rfl (sub_cons 3 rfl rfl (sub_cons 4 rfl rfl (sub_cons 5 rfl rfl (sub_cons 6 rfl (eq_int (by simp)) (sub_nil _)))))) (next3 (j + 1, insI ((a[i][k]).ids[j]) o3, v84, K.frz 3 Cw11) _ ⟨(by first | omega | (simp only; omega)), (by rw [ids1_take hjl, ← hv3]), (by simp only; omega), hF, hT, ha, (by rw [hins]; simpa using hn2)⟩ (by first | omega | (simp only; omega)))
            · skip
              intro w12 hs
              replace hF := hF.st hs
              replace hT := hT.trans hs (by simp)
              replace ha := ha.st hs (by first | decide | (simp <;> omega))
              replace ho := ho.st hs (by first | decide | (simp <;> omega))
              show Sch _ _ _ _ _ _ _ [(0, true), (1, true), (2, true), (4, true), (7, true), (8, true), (9, true), (5, false), (3, false), (6, false), (10, false), (11, true)] _ _
              have hR := Stp.refl [3] w12 (C4)
              refine yS (by kernel_rfl : opAt F45.o16 0 = some (some 74, .move (.tmp 3), none)) rfl rfl (fun w' hS => val_move rfl) ?_
              refine yS (by kernel_rfl : opAt F45.o16 1 = some (some 75, .move (.tmp 8), none)) rfl rfl (fun w' hS => val_move rfl) ?_
              refine sTR (e' := 3) (by kernel_rfl : opAt F45.o16 2 = some (some 76, .slice 22 (.tmp 74) none (some (.tmp 75)) none, none)) rfl rfl ho rfl (by kernel_rfl) rfl (by omega) (by omega) ?_
              intro v76 h76
              try simp only [Int.toNat_natCast] at h76
              refine yS (by kernel_rfl : opAt F45.o16 4 = some (some 78, .move (.tmp 7), none)) rfl rfl (fun w' hS => val_move rfl) ?_
              refine yS (by kernel_rfl : opAt F45.o16 7 = some (some 81, .move (.tmp 3), none)) rfl rfl (fun w' hS => val_move rfl) ?_
              refine yS (by kernel_rfl : opAt F45.o16 8 = some (some 82, .move (.tmp 8), none)) rfl rfl (fun w' hS => val_move rfl) ?_
              refine sFR (e' := 3) (by kernel_rfl : opAt F45.o16 9 = some (some 83, .slice 22 (.tmp 81) (some (.tmp 82)) none none, none)) rfl rfl ho rfl (by kernel_rfl) rfl (by omega) (by omega) ?_
              intro v83 h83
              try simp only [Int.toNat_natCast] at h83
              refine aS (by kernel_rfl : opAt F45.o16 5 = some (some 79, .buildSlice 22 1 #[(0, (.tmp 78))], none)) rfl rfl (a_buildSlice (ys := ([((a[i][k]).ids[j])] : List Int)) (e := 3) (bytes := 8) hF (by kernel_rfl) rfl (by decide) (by decide) ⟨rfl, ⟨_, rfl, rv_int.2 rfl⟩, trivial⟩) ?_
              rintro v79 w13 ⟨hs, hx1, hF⟩
              refine ⟨(hR.trans hs (by simp)).ext, ?_⟩
              replace hT := hT.trans hs (by simp)
              replace ha := ha.st hs (by first | decide | (simp <;> omega))
              replace ho := ho.st hs (by first | decide | (simp <;> omega))
              replace hR := hR.trans hs (by simp)
              replace h76 := h76.st hs (by first | decide | (simp <;> omega))
              replace h83 := h83.st hs (by first | decide | (simp <;> omega))
              refine aS (by kernel_rfl : opAt F45.o16 3 = some (some 77, .call { callee := .builtin .append, args := #[(.const (.slice none 0 0)), (.tmp 76)], argTypes := #[22, 22] }, none)) rfl rfl (a_append (e := 3) (bytes := 8) hF (by decide) rfl rfl (by kernel_rfl) (by decide) (OwnL.nil (α := Int) (j := 3)) h76 (by simp only [List.length_nil, List.length_append, List.length_cons, List.length_take, List.length_drop]; omega) (by simp only [List.length_nil, List.length_append, List.length_cons, List.length_take, List.length_drop]; omega)) ?_
              rintro v77 w14 ⟨Cw14, hs, hn, hF⟩
              refine ⟨(hR.trans hs (by simp)).ext, ?_⟩
              replace hT := hT.trans hs (by simp)
              replace ha := ha.st hs (by first | decide | (simp <;> omega))
              replace ho := ho.st hs (by first | decide | (simp <;> omega))
              replace hR := hR.trans hs (by simp)
              replace h76 := h76.st hs (by first | decide | (simp <;> omega))
              replace h83 := h83.st hs (by first | decide | (simp <;> omega))
              replace hx1 := hx1.st hs (by first | decide | (simp <;> omega))
              refine aS (by kernel_rfl : opAt F45.o16 6 = some (some 80, .call { callee := .builtin .append, args := #[(.tmp 77), (.tmp 79)], argTypes := #[22, 22] }, none)) rfl rfl (a_append (e := 3) (bytes := 8) hF (by decide) rfl rfl (by kernel_rfl) (by decide) hn hx1 (by simp only [List.length_nil, List.length_append, List.length_cons, List.length_take, List.length_drop]; omega) (by simp only [List.length_nil, List.length_append, List.length_cons, List.length_take, List.length_drop]; omega)) ?_
              rintro v80 w15 ⟨Cw15, hs, hn, hF⟩
              refine ⟨(hR.trans hs (by simp)).ext, ?_⟩
              replace hT := hT.trans hs (by simp)
              replace ha := ha.st hs (by first | decide | (simp <;> omega))
              replace ho := ho.st hs (by first | decide | (simp <;> omega))
              replace hR := hR.trans hs (by simp)
              replace h76 := h76.st hs (by first | decide | (simp <;> omega))
              replace h83 := h83.st hs (by first | decide | (simp <;> omega))
              replace hx1 := hx1.st hs (by first | decide | (simp <;> omega))
              refine aS (by kernel_rfl : opAt F45.o16 10 = some (some 84, .call { callee := .builtin .append, args := #[(.tmp 80), (.tmp 83)], argTypes := #[22, 22] }, none)) rfl rfl (a_append (e := 3) (bytes := 8) hF (by decide) rfl rfl (by kernel_rfl) (by decide) hn h83 (by simp only [List.length_nil, List.length_append, List.length_cons, List.length_take, List.length_drop]; omega) (by simp only [List.length_nil, List.length_append, List.length_cons, List.length_take, List.length_drop]; omega)) ?_
              rintro v84 w16 ⟨Cw16, hs, hn, hF⟩
              refine ⟨(hR.trans hs (by simp)).ext, ?_⟩
              replace hT := hT.trans hs (by simp)
              replace ha := ha.st hs (by first | decide | (simp <;> omega))
              replace ho := ho.st hs (by first | decide | (simp <;> omega))
              replace hR := hR.trans hs (by simp)
              replace h76 := h76.st hs (by first | decide | (simp <;> omega))
              replace h83 := h83.st hs (by first | decide | (simp <;> omega))
              replace hx1 := hx1.st hs (by first | decide | (simp <;> omega))
              refine yS (by kernel_rfl : opAt F45.o16 11 = some (some 3, .assign (.tmp 84), none)) rfl rfl (fun w' hS => val_assign rfl) ?_
              refine Sch.nil ?_
              refine run_inBlock ?_
              refine run_plain (id := 10) (ops := F45.o10) [(0, true), (1, true), (2, true)] (by kernel_rfl) (by kernel_rfl) ?_
              refine yS (by kernel_rfl : opAt F45.o10 0 = some (some 35, .move (.tmp 6), none)) rfl rfl (fun w' hS => val_move rfl) ?_
              refine yS (by kernel_rfl : opAt F45.o10 1 = some (some 36, .binOp .add 3 (.tmp 35) (.const (.int .i64 1)) 3, none)) rfl rfl (fun w' hS => val_addi rfl rfl (by omega) (by omega)) ?_
              refine yS (by kernel_rfl : opAt F45.o10 2 = some (some 6, .assign (.tmp 36), none)) rfl rfl (fun w' hS => val_assign rfl) ?_
              refine Sch.nil ?_
              clear hx1
              clear h76
              clear h83
              have hnl : (([] ++ o3.take p) ++ [((a[i][k]).ids[j])] ++ o3.drop p).length ≤ o3.length + 1 := by rw [hins] at hil3; simpa using hil3
              replace hF := hF.frz 3
              replace hT := hT.frz (n := 3) (fun b => Nat.lt_of_lt_of_le (col1_lt2 C b) (by decide))
              replace ha := ha.frz 3
              clear ho
              have hn2_ := hn.frz (n := 3) (by decide) (by omega)
              clear hn
              have hn2 := hn2_
              clear hn2_
              refine kp (sub_cons 0 rfl rfl (sub_cons 3 rfl rfl (sub_cons 4 rfl rfl (sub_cons 5 rfl rfl (sub_cons 6 rfl (eq_int (by simp)) (sub_nil _)))))) (next3 (j + 1, insI ((a[i][k]).ids[j]) o3, v84, K.frz 3 Cw16) _ ⟨(by first | omega | (simp only; omega)), (by rw [ids1_take hjl, ← hv3]), (by simp only; omega), hF, hT, ha, (by rw [hins]; simpa using hn2)⟩ (by first | omega | (simp only; omega)))
          · skip
            have hgd : ∀ h : p < o3.length, o3.getD p 0 = o3[p] := fun h => by simp [List.getD, h]
            obtain ⟨hks, hex⟩ := Classical.not_not.1 h73
            rw [if_pos ⟨hks, by rw [hgd hks]; exact hex⟩] at hins
            refine run_skip (by kernel_rfl) ?_
            refine run_inBlock ?_
            refine run_plain (id := 10) (ops := F45.o10) [(0, true), (1, true), (2, true)] (by kernel_rfl) (by kernel_rfl) ?_
            refine yS (by kernel_rfl : opAt F45.o10 0 = some (some 35, .move (.tmp 6), none)) rfl rfl (fun w' hS => val_move rfl) ?_
            refine yS (by kernel_rfl : opAt F45.o10 1 = some (some 36, .binOp .add 3 (.tmp 35) (.const (.int .i64 1)) 3, none)) rfl rfl (fun w' hS => val_addi rfl rfl (by omega) (by omega)) ?_
            refine yS (by kernel_rfl : opAt F45.o10 2 = some (some 6, .assign (.tmp 36), none)) rfl rfl (fun w' hS => val_assign rfl) ?_
            refine Sch.nil ?_
            refine kp (sub_cons 0 rfl rfl (sub_cons 3 rfl rfl (sub_cons 4 rfl rfl (sub_cons 5 rfl rfl (sub_cons 6 rfl (eq_int (by simp)) (sub_nil _)))))) (next3 (j + 1, insI ((a[i][k]).ids[j]) o3, v3, C4) _ ⟨(by first | omega | (simp only; omega)), (by rw [ids1_take hjl, ← hv3]), (by simp only; omega), hF, hT, ha, (by rw [hins]; exact ho)⟩ (by first | omega | (simp only; omega)))
      · skip
        obtain rfl : j = (a[i][k]).ids.length := by omega
        rw [List.take_length] at hv3
        refine run_exit (id := 4) (by kernel_rfl) rfl ?_
        refine run_inBlock ?_
        refine run_plain (id := 7) (ops := F45.o7) [(0, true), (1, true), (2, true)] (by kernel_rfl) (by kernel_rfl) ?_
        refine yS (by kernel_rfl : opAt F45.o7 0 = some (some 22, .move (.tmp 5), none)) rfl rfl (fun w' hS => val_move rfl) ?_
        refine yS (by kernel_rfl : opAt F45.o7 1 = some (some 23, .binOp .add 3 (.tmp 22) (.const (.int .i64 1)) 3, none)) rfl rfl (fun w' hS => val_addi rfl rfl (by omega) (by omega)) ?_
        refine yS (by kernel_rfl : opAt F45.o7 2 = some (some 5, .assign (.tmp 23), none)) rfl rfl (fun w' hS => val_assign rfl) ?_
        refine Sch.nil ?_
        refine kp (sub_cons 0 rfl rfl (sub_cons 3 rfl rfl (sub_cons 4 rfl rfl (sub_cons 5 rfl (eq_int (by simp)) (sub_nil _))))) (next2 (k + 1, o3, v3, C3) _ ⟨(by first | omega | (simp only; omega)), (by rw [ids2_take hkl, ← hv2]; exact hv3), (by simp only; omega), hF, hT, ha, ho⟩ (by first | omega | (simp only; omega)))
    · skip
      obtain rfl : k = a[i].length := by omega
      rw [List.take_length] at hv2 hb2
      refine run_exit (id := 2) (by kernel_rfl) rfl ?_
      refine run_inBlock ?_
      refine run_plain (id := 4) (ops := F45.o4) [(0, true), (1, true), (2, true)] (by kernel_rfl) (by kernel_rfl) ?_
      refine yS (by kernel_rfl : opAt F45.o4 0 = some (some 13, .move (.tmp 4), none)) rfl rfl (fun w' hS => val_move rfl) ?_
      refine yS (by kernel_rfl : opAt F45.o4 1 = some (some 14, .binOp .add 3 (.tmp 13) (.const (.int .i64 1)) 3, none)) rfl rfl (fun w' hS => val_addi rfl rfl (by omega) (by omega)) ?_
      refine yS (by kernel_rfl : opAt F45.o4 2 = some (some 4, .assign (.tmp 14), none)) rfl rfl (fun w' hS => val_assign rfl) ?_
      refine Sch.nil ?_
      refine kp (sub_cons 0 rfl rfl (sub_cons 3 rfl rfl (sub_cons 4 rfl (eq_int (by simp)) (sub_nil _)))) (next1 (i + 1, o2, v2, C2) _ ⟨(by first | omega | (simp only; omega)), (by rw [idsF_take hil, ← hv]; exact hv2), (by simp only; omega), hF, hT, ha, ho⟩ (by first | omega | (simp only; omega)))
  · skip
    obtain rfl : i = a.length := by omega
    rw [List.take_length] at hv
    refine run_exit (id := 0) (by kernel_rfl) rfl ?_
    refine run_seq (x := F45.c65) (y := F45.c66) (by kernel_rfl) ?_
    refine run_plain (id := 17) (ops := F45.o17) [(0, true), (1, true)] (by kernel_rfl) (by kernel_rfl) ?_
    refine yS (by kernel_rfl : opAt F45.o17 0 = some (some 85, .move (.tmp 3), none)) rfl rfl (fun w' hS => val_move rfl) ?_
    refine yS (by kernel_rfl : opAt F45.o17 1 = some (some 2, .assign (.tmp 85), none)) rfl rfl (fun w' hS => val_assign rfl) ?_
    refine Sch.nil ?_
    refine run_ret1 (by kernel_rfl) Try.func45 Try.results45 rfl ?_
    subst hv
    exact ⟨hT.out1 (by decide), ho.out hT hF0 (Mc_col1 C)⟩
namespace F39
noncomputable def c0 : Code := bodyOf Try.f39
noncomputable def c1 : Code := cl c0
noncomputable def o0 : Array Oper := rops c1
noncomputable def c2 : Code := cr c0
noncomputable def c3 : Code := cl c2
noncomputable def o1 : Array Oper := rops c3
noncomputable def c4 : Code := cr c2
noncomputable def c5 : Code := cl c4
noncomputable def o2 : Array Oper := rops c5
noncomputable def c6 : Code := cr c4
noncomputable def c7 : Code := cl c6
noncomputable def o3 : Array Oper := rops c7
noncomputable def c8 : Code := cr c6
noncomputable def c9 : Code := cl c8
noncomputable def c10 : Code := cl c9
noncomputable def o4 : Array Oper := rops c10
noncomputable def c11 : Code := cr c9
noncomputable def c12 : Code := cl c11
noncomputable def c13 : Code := cl c12
noncomputable def c14 : Code := cl c13
noncomputable def c15 : Code := cl c14
noncomputable def o5 : Array Oper := rops c15
noncomputable def c16 : Code := cr c14
noncomputable def c17 : Code := cl c16
noncomputable def c18 : Code := cr c16
noncomputable def c19 : Code := cr c13
noncomputable def c20 : Code := cl c19
noncomputable def c21 : Code := cl c20
noncomputable def c22 : Code := cl c21
noncomputable def o7 : Array Oper := rops c22
noncomputable def c23 : Code := cr c21
noncomputable def c24 : Code := cl c23
noncomputable def c25 : Code := cl c24
noncomputable def c26 : Code := cl c25
noncomputable def c27 : Code := cl c26
noncomputable def o8 : Array Oper := rops c27
noncomputable def c28 : Code := cr c26
noncomputable def c29 : Code := cl c28
noncomputable def c30 : Code := cr c28
noncomputable def c31 : Code := cr c25
noncomputable def c32 : Code := cl c31
noncomputable def c33 : Code := cl c32
noncomputable def c34 : Code := cl c33
noncomputable def o10 : Array Oper := rops c34
noncomputable def c35 : Code := cr c33
noncomputable def c36 : Code := cl c35
noncomputable def o11 : Array Oper := rops c36
noncomputable def c37 : Code := cr c35
noncomputable def c38 : Code := cl c37
noncomputable def c39 : Code := cl c38
noncomputable def o12 : Array Oper := rops c39
noncomputable def c40 : Code := cr c38
noncomputable def o13 : Array Oper := rops c40
noncomputable def c41 : Code := cr c37
noncomputable def c42 : Code := cr c31
noncomputable def o9 : Array Oper := rops c42
noncomputable def c43 : Code := cr c19
noncomputable def o6 : Array Oper := rops c43
noncomputable def c44 : Code := cr c8
noncomputable def c45 : Code := cl c44
noncomputable def o14 : Array Oper := rops c45
noncomputable def c46 : Code := cr c44
end F39
/-- All couples with their masks. -/
theorem couples_ok {w₀ : World} {C : Nat → Nat} {a b : List (List Block)} {va vb : Value} (hF : Lim w₀ C) (ha : RV w₀ (Mc C) a va) (hb : RV w₀ (Mc C) b vb) (hBa : ∀ l ∈ a, totalN l ≤ 64) (hBb : ∀ l ∈ b, totalN l ≤ 64) (hlen : a.length = b.length) (h8 : a.length ≤ 8) : Calls Try.prog 39 #[va, vb] w₀ (Ret fun v w' => ∃ u m, v = .tuple #[u, m] ∧ Stp [] w₀ C w' C ∧ RV w' (Mc C) ((cplS a b).map (·.1)) u ∧ RV w' (Mc C) ((cplS a b).map (·.2)) m) := by
  have hF0 := hF
  have hT := Stp.refl [2, 3, 4, 5, 6, 7, 8, 9] w₀ (col1 C)
  replace hF := hF.col1
  replace ha : RV w₀ (Mc (col1 C)) a va := by rw [Mc_col1]; exact ha
  replace hb : RV w₀ (Mc (col1 C)) b vb := by rw [Mc_col1]; exact hb
  refine calls_start (c := F39.c0) (N := 60) [va, vb] Try.func39 (by kernel_rfl) (by kernel_rfl) (by kernel_rfl) ?_
  show Run _ _ _ _ [(0, va), (1, vb)] _ _
  refine run_seq (x := F39.c1) (y := F39.c2) (by kernel_rfl) ?_
  refine run_plain (id := 0) (ops := F39.o0) [(0, true), (1, true)] (by kernel_rfl) (by kernel_rfl) ?_
  refine yS (by kernel_rfl : opAt F39.o0 0 = some (some 4, .assign (.const (.slice none 0 0)), none)) rfl rfl (fun w' hS => val_assign rfl) ?_
  refine yS (by kernel_rfl : opAt F39.o0 1 = some (some 5, .assign (.const (.slice none 0 0)), none)) rfl rfl (fun w' hS => val_assign rfl) ?_
  refine Sch.nil ?_
  refine run_seq (x := F39.c3) (y := F39.c4) (by kernel_rfl) ?_
  refine run_plain (id := 1) (ops := F39.o1) [(0, true)] (by kernel_rfl) (by kernel_rfl) ?_
  refine yS (by kernel_rfl : opAt F39.o1 0 = some (some 6, .assign (.const (.slice none 0 0)), none)) rfl rfl (fun w' hS => val_assign rfl) ?_
  refine Sch.nil ?_
  refine run_seq (x := F39.c5) (y := F39.c6) (by kernel_rfl) ?_
  refine run_plain (id := 2) (ops := F39.o2) [(0, true)] (by kernel_rfl) (by kernel_rfl) ?_
  refine yS (by kernel_rfl : opAt F39.o2 0 = some (some 7, .assign (.const (.slice none 0 0)), none)) rfl rfl (fun w' hS => val_assign rfl) ?_
  refine Sch.nil ?_
  refine run_seq (x := F39.c7) (y := F39.c8) (by kernel_rfl) ?_
  refine run_plain (id := 3) (ops := F39.o3) [(0, true), (1, false), (2, true), (3, false), (4, true), (5, true)] (by kernel_rfl) (by kernel_rfl) ?_
  refine yS (by kernel_rfl : opAt F39.o3 0 = some (some 13, .move (.tmp 0), none)) rfl rfl (fun w' hS => val_move rfl) ?_
  refine cS (by kernel_rfl : opAt F39.o3 1 = some (some 14, .call { callee := .value (.func 45), args := #[(.tmp 13)], argTypes := #[28] }, none)) rfl rfl (ent Try.call45 rfl) (ids_ok hF ha hBa h8) ?_
  rintro vhx w1 ⟨hs, hx⟩
  refine ⟨trivial, ?_⟩
  replace hF := hF.st hs
  replace hT := hT.trans hs (by simp)
  replace ha := ha.st hs (by first | decide | (simp <;> omega))
  replace hb := hb.st hs (by first | decide | (simp <;> omega))
  refine yS (by kernel_rfl : opAt F39.o3 2 = some (some 15, .move (.tmp 1), none)) rfl rfl (fun w' hS => val_move rfl) ?_
  refine cS (by kernel_rfl : opAt F39.o3 3 = some (some 16, .call { callee := .value (.func 45), args := #[(.tmp 15)], argTypes := #[28] }, none)) rfl rfl (ent Try.call45 rfl) (ids_ok hF hb hBb (by omega)) ?_
  rintro vhy w2 ⟨hs, hy⟩
  refine ⟨trivial, ?_⟩
  replace hF := hF.st hs
  replace hT := hT.trans hs (by simp)
  replace ha := ha.st hs (by first | decide | (simp <;> omega))
  replace hb := hb.st hs (by first | decide | (simp <;> omega))
  replace hx := hx.st hs (by first | decide | (simp <;> omega))
  refine yS (by kernel_rfl : opAt F39.o3 4 = some (some 8, .assign (.tmp 14), none)) rfl rfl (fun w' hS => val_assign rfl) ?_
  refine yS (by kernel_rfl : opAt F39.o3 5 = some (some 9, .assign (.tmp 16), none)) rfl rfl (fun w' hS => val_assign rfl) ?_
  refine Sch.nil ?_
  refine run_seq (x := F39.c9) (y := F39.c44) (by kernel_rfl) ?_
  refine run_seq (x := F39.c10) (y := F39.c11) (by kernel_rfl) ?_
  refine run_plain (id := 4) (ops := F39.o4) [(0, true)] (by kernel_rfl) (by kernel_rfl) ?_
  refine yS (by kernel_rfl : opAt F39.o4 0 = some (some 10, .assign (.const (.int .i64 0)), none)) rfl rfl (fun w' hS => val_assign rfl) ?_
  refine Sch.nil ?_
  refine run_block (x := F39.c12) (id := 0) (by kernel_rfl) ?_
  
  refine run_loop (ι := Nat × (List (Couple × Nat)) × Value × Value × (Nat → Nat)) (I := fun x w => x.1 ≤ (idsS a).length ∧ x.2.1 = ((idsS a).take x.1).flatMap (fun x => row1 a b x (idsS b)) ∧ x.2.1.length ≤ x.1 * (idsS b).length ∧ Lim w x.2.2.2.2 ∧ Stp [2, 3, 4, 5, 6, 7, 8, 9] w₀ (col1 C) w x.2.2.2.2 ∧ RV w (Mc x.2.2.2.2) a va ∧ RV w (Mc x.2.2.2.2) b vb ∧ RV w (Mc x.2.2.2.2) (idsS a) vhx ∧ RV w (Mc x.2.2.2.2) (idsS b) vhy ∧ OwnL w x.2.2.2.2 3 37 x.2.2.1 (x.2.1.map (·.1)) ∧ OwnL w x.2.2.2.2 4 3 x.2.2.2.1 (x.2.1.map (·.2))) (e := fun x => [(0, va), (1, vb), (6, x.2.2.1), (7, x.2.2.2.1), (8, vhx), (9, vhy), (10, .int .i64 x.1)]) (m := fun x => (idsS a).length - x.1) (x₀ := (0, [], .slice none 0 0, .slice none 0 0, col1 C)) (body := F39.c13) (by kernel_rfl) (sub_cons 0 rfl rfl (sub_cons 1 rfl rfl (sub_cons 6 rfl rfl (sub_cons 7 rfl rfl (sub_cons 8 rfl rfl (sub_cons 9 rfl rfl (sub_cons 10 rfl rfl (sub_nil _)))))))) ?_ ?_
  · exact ⟨Nat.zero_le _, rfl, Nat.zero_le _, hF, hT, ha, hb, hx, hy, OwnL.nil, OwnL.nil⟩
  intro ⟨i, out, vo, vm, C1⟩ w3 hI next
  obtain ⟨hi, hv, hbd, hF, hT, ha, hb, hx, hy, ho, hm⟩ := hI
  try simp only at hi hv hbd hF hT ha hb hx hy ho hm
  have next1 := next
  clear next
  show Run _ _ _ _ [(0, va), (1, vb), (6, vo), (7, vm), (8, vhx), (9, vhy), (10, .int .i64 i)] _ _
  refine run_seq (x := F39.c14) (y := F39.c19) (by kernel_rfl) ?_
  refine run_seq (x := F39.c15) (y := F39.c16) (by kernel_rfl) ?_
  refine run_plain (id := 5) (ops := F39.o5) [(0, true), (1, true), (2, true), (3, true)] (by kernel_rfl) (by kernel_rfl) ?_
  refine yS (by kernel_rfl : opAt F39.o5 0 = some (some 17, .move (.tmp 10), none)) rfl rfl (fun w' hS => val_move rfl) ?_
  refine yS (by kernel_rfl : opAt F39.o5 1 = some (some 18, .move (.tmp 8), none)) rfl rfl (fun w' hS => val_move rfl) ?_
  refine yS (by kernel_rfl : opAt F39.o5 2 = some (some 19, .call { callee := .builtin .len, args := #[(.tmp 18)], argTypes := #[22] }, none)) rfl rfl (fun w' hS => hx.lenV rfl Try.underlying22 w' ) ?_
  refine yS (by kernel_rfl : opAt F39.o5 3 = some (some 20, .binOp .lss 3 (.tmp 17) (.tmp 19) 3, none)) rfl rfl (fun w' hS => val_lss rfl rfl) ?_
  refine Sch.nil ?_
  refine run_if (x := F39.c17) (y := F39.c18) (o := .tmp 20) (by kernel_rfl) rfl (fun h20 => ?_) (fun h20 => ?_)
  · skip
    have hil : i < (idsS a).length := by omega
    have hxl : (idsS a).length ≤ 512 := by have := idsS_len a [] 64 hBa; simp only [List.length_nil] at this; unfold idsS; omega
    have hyl : (idsS b).length ≤ 512 := by have := idsS_len b [] 64 hBb; simp only [List.length_nil] at this; unfold idsS; omega
    have hmm := Nat.mul_le_mul (show i ≤ 512 by omega) hyl
    have hmi : (i + 1) * (idsS b).length = i * (idsS b).length + (idsS b).length := Nat.succ_mul _ _
    refine run_skip (by kernel_rfl) ?_
    refine run_seq (x := F39.c20) (y := F39.c43) (by kernel_rfl) ?_
    refine run_block (x := F39.c21) (id := 1) (by kernel_rfl) ?_
    refine run_seq (x := F39.c22) (y := F39.c23) (by kernel_rfl) ?_
    refine run_plain (id := 7) (ops := F39.o7) [(0, true)] (by kernel_rfl) (by kernel_rfl) ?_
    refine yS (by kernel_rfl : opAt F39.o7 0 = some (some 11, .assign (.const (.int .i64 0)), none)) rfl rfl (fun w' hS => val_assign rfl) ?_
    refine Sch.nil ?_
    refine run_block (x := F39.c24) (id := 2) (by kernel_rfl) ?_
    
    refine run_loop (ι := Nat × (List (Couple × Nat)) × Value × Value × (Nat → Nat)) (I := fun x w => x.1 ≤ (idsS b).length ∧ x.2.1 = out ++ row1 a b (idsS a)[i] ((idsS b).take x.1) ∧ x.2.1.length ≤ i * (idsS b).length + x.1 ∧ Lim w x.2.2.2.2 ∧ Stp [2, 3, 4, 5, 6, 7, 8, 9] w₀ (col1 C) w x.2.2.2.2 ∧ RV w (Mc x.2.2.2.2) a va ∧ RV w (Mc x.2.2.2.2) b vb ∧ RV w (Mc x.2.2.2.2) (idsS a) vhx ∧ RV w (Mc x.2.2.2.2) (idsS b) vhy ∧ OwnL w x.2.2.2.2 3 37 x.2.2.1 (x.2.1.map (·.1)) ∧ OwnL w x.2.2.2.2 4 3 x.2.2.2.1 (x.2.1.map (·.2))) (e := fun x => [(0, va), (1, vb), (6, x.2.2.1), (7, x.2.2.2.1), (8, vhx), (9, vhy), (10, .int .i64 i), (11, .int .i64 x.1)]) (m := fun x => (idsS b).length - x.1) (x₀ := (0, out, vo, vm, C1)) (body := F39.c25) (by kernel_rfl) (sub_cons 0 rfl rfl (sub_cons 1 rfl rfl (sub_cons 6 rfl rfl (sub_cons 7 rfl rfl (sub_cons 8 rfl rfl (sub_cons 9 rfl rfl (sub_cons 10 rfl rfl (sub_cons 11 rfl rfl (sub_nil _))))))))) ?_ ?_
    · exact ⟨Nat.zero_le _, (List.append_nil out).symm, (by simp only; omega), hF, hT, ha, hb, hx, hy, ho, hm⟩
    intro ⟨k, o2, v2, m2, C2⟩ w4 hI next
    obtain ⟨hk, hv2, hb2, hF, hT, ha, hb, hx, hy, ho, hm⟩ := hI
    try simp only at hk hv2 hb2 hF hT ha hb hx hy ho hm
    have next2 := next
    clear next
    show Run _ _ _ _ [(0, va), (1, vb), (6, v2), (7, m2), (8, vhx), (9, vhy), (10, .int .i64 i), (11, .int .i64 k)] _ _
    refine run_seq (x := F39.c26) (y := F39.c31) (by kernel_rfl) ?_
    refine run_seq (x := F39.c27) (y := F39.c28) (by kernel_rfl) ?_
    refine run_plain (id := 8) (ops := F39.o8) [(0, true), (1, true), (2, true), (3, true)] (by kernel_rfl) (by kernel_rfl) ?_
    refine yS (by kernel_rfl : opAt F39.o8 0 = some (some 23, .move (.tmp 11), none)) rfl rfl (fun w' hS => val_move rfl) ?_
    refine yS (by kernel_rfl : opAt F39.o8 1 = some (some 24, .move (.tmp 9), none)) rfl rfl (fun w' hS => val_move rfl) ?_
    refine yS (by kernel_rfl : opAt F39.o8 2 = some (some 25, .call { callee := .builtin .len, args := #[(.tmp 24)], argTypes := #[22] }, none)) rfl rfl (fun w' hS => hy.lenV rfl Try.underlying22 w' ) ?_
    refine yS (by kernel_rfl : opAt F39.o8 3 = some (some 26, .binOp .lss 3 (.tmp 23) (.tmp 25) 3, none)) rfl rfl (fun w' hS => val_lss rfl rfl) ?_
    refine Sch.nil ?_
    refine run_if (x := F39.c29) (y := F39.c30) (o := .tmp 26) (by kernel_rfl) rfl (fun h26 => ?_) (fun h26 => ?_)
    · skip
      have hkl : k < (idsS b).length := by omega
      have hrt := row1_take (a := a) (b := b) (x := (idsS a)[i]) hkl
      refine run_skip (by kernel_rfl) ?_
      refine run_seq (x := F39.c32) (y := F39.c42) (by kernel_rfl) ?_
      refine run_block (x := F39.c33) (id := 3) (by kernel_rfl) ?_
      refine run_seq (x := F39.c34) (y := F39.c35) (by kernel_rfl) ?_
      refine run_draw (id := 10) (ops := F39.o10) [] (C2) [(0, true), (1, true), (2, true), (3, true), (4, true), (5, true), (6, true), (7, true), (8, true), (9, true), (10, false), (11, true)] Try_mixed (by kernel_rfl) (by kernel_rfl) (by kernel_rfl) ?_
      intro w5 hs
      replace hF := hF.st hs
      replace hT := hT.trans hs (by simp)
      replace ha := ha.st hs (by first | decide | (simp <;> omega))
      replace hb := hb.st hs (by first | decide | (simp <;> omega))
      replace hx := hx.st hs (by first | decide | (simp <;> omega))
      replace hy := hy.st hs (by first | decide | (simp <;> omega))
      replace ho := ho.st hs (by first | decide | (simp <;> omega)) (by first | decide | (simp <;> omega))
      replace hm := hm.st hs (by first | decide | (simp <;> omega)) (by first | decide | (simp <;> omega))
      have hR := Stp.refl [] w5 (C2)
      refine yS (by kernel_rfl : opAt F39.o10 0 = some (some 29, .move (.tmp 0), none)) rfl rfl (fun w' hS => val_move rfl) ?_
      refine yS (by kernel_rfl : opAt F39.o10 1 = some (some 30, .move (.tmp 1), none)) rfl rfl (fun w' hS => val_move rfl) ?_
      refine yS (by kernel_rfl : opAt F39.o10 2 = some (some 31, .move (.tmp 8), none)) rfl rfl (fun w' hS => val_move rfl) ?_
      refine yS (by kernel_rfl : opAt F39.o10 3 = some (some 32, .move (.tmp 10), none)) rfl rfl (fun w' hS => val_move rfl) ?_
      refine iS (e := 3) (by kernel_rfl : opAt F39.o10 4 = some (some 33, .indexAddr 22 (.tmp 31) (.tmp 32), none)) rfl rfl hx rfl (by kernel_rfl) rfl (by omega) (by omega) ?_
      intro b33 o33 h33
      try simp only [Int.toNat_natCast] at h33
      refine lS (by kernel_rfl : opAt F39.o10 5 = some (some 34, .load 3 (.tmp 33), none)) rfl rfl (fun w' hS => h33.stay hS (by first | decide | (simp <;> omega))) h33 (by kernel_rfl) rfl rfl ?_
      intro v34 g34
      first | (obtain rfl := rv_nat.1 g34) | (obtain rfl := rv_int.1 g34)
      refine yS (by kernel_rfl : opAt F39.o10 6 = some (some 35, .move (.tmp 9), none)) rfl rfl (fun w' hS => val_move rfl) ?_
      refine yS (by kernel_rfl : opAt F39.o10 7 = some (some 36, .move (.tmp 11), none)) rfl rfl (fun w' hS => val_move rfl) ?_
      refine iS (e := 3) (by kernel_rfl : opAt F39.o10 8 = some (some 37, .indexAddr 22 (.tmp 35) (.tmp 36), none)) rfl rfl hy rfl (by kernel_rfl) rfl (by omega) (by omega) ?_
      intro b37 o37 h37
      try simp only [Int.toNat_natCast] at h37
      refine lS (by kernel_rfl : opAt F39.o10 9 = some (some 38, .load 3 (.tmp 37), none)) rfl rfl (fun w' hS => h37.stay hS (by first | decide | (simp <;> omega))) h37 (by kernel_rfl) rfl rfl ?_
      intro v38 g38
      first | (obtain rfl := rv_nat.1 g38) | (obtain rfl := rv_int.1 g38)
      refine cS (by kernel_rfl : opAt F39.o10 10 = some (some 39, .call { callee := .value (.func 46), args := #[(.tmp 29), (.tmp 30), (.tmp 34), (.tmp 38)], argTypes := #[28, 28, 3, 3] }, none)) rfl rfl (ent Try.call46 rfl) (agreed_ok ha hb hlen h8 _ _) ?_
      rintro vw6 w6 ⟨rfl, rfl⟩
      refine ⟨hR.ext, ?_⟩
      refine yS (by kernel_rfl : opAt F39.o10 11 = some (some 12, .assign (.tmp 39), none)) rfl rfl (fun w' hS => val_assign rfl) ?_
      refine Sch.nil ?_
      refine run_seq (x := F39.c36) (y := F39.c37) (by kernel_rfl) ?_
      refine run_plain (id := 11) (ops := F39.o11) [(0, true), (1, true)] (by kernel_rfl) (by kernel_rfl) ?_
      refine yS (by kernel_rfl : opAt F39.o11 0 = some (some 40, .move (.tmp 12), none)) rfl rfl (fun w' hS => val_move rfl) ?_
      refine yS (by kernel_rfl : opAt F39.o11 1 = some (some 41, .binOp .gtr 3 (.tmp 40) (.const (.int .i64 0)) 3, none)) rfl rfl (fun w' hS => val_gtr rfl rfl) ?_
      refine Sch.nil ?_
      refine run_if (x := F39.c38) (y := F39.c41) (o := .tmp 41) (by kernel_rfl) rfl (fun h41 => ?_) (fun h41 => ?_)
      · skip
        rw [if_pos (show 0 < (agN a b (idsS a)[i] (idsS b)[k] a.length) by omega)] at hrt
        refine run_seq (x := F39.c39) (y := F39.c40) (by kernel_rfl) ?_
        refine run_draw (id := 12) (ops := F39.o12) [3] (C2) [(0, true), (1, true), (2, true), (3, true), (4, true), (5, true), (6, true), (7, true), (8, true), (9, true), (10, false), (11, false), (12, true)] Try_mixed (by kernel_rfl) (by kernel_rfl) (by kernel_rfl) ?_
        intro w7 hs
        replace hF := hF.st hs
        replace hT := hT.trans hs (by simp)
        replace ha := ha.st hs (by first | decide | (simp <;> omega))
        replace hb := hb.st hs (by first | decide | (simp <;> omega))
        replace hx := hx.st hs (by first | decide | (simp <;> omega))
        replace hy := hy.st hs (by first | decide | (simp <;> omega))
        replace ho := ho.st hs (by first | decide | (simp <;> omega)) (by first | decide | (simp <;> omega))
        replace hm := hm.st hs (by first | decide | (simp <;> omega)) (by first | decide | (simp <;> omega))
        replace h33 := h33.st hs (by first | decide | (simp <;> omega))
        replace h37 := h37.st hs (by first | decide | (simp <;> omega))
        have hR := Stp.refl [3] w7 (C2)
        refine yS (by kernel_rfl : opAt F39.o12 0 = some (some 42, .move (.tmp 6), none)) rfl rfl (fun w' hS => val_move rfl) ?_
        refine yS (by kernel_rfl : opAt F39.o12 1 = some (some 43, .move (.tmp 8), none)) rfl rfl (fun w' hS => val_move rfl) ?_
        refine yS (by kernel_rfl : opAt F39.o12 2 = some (some 44, .move (.tmp 10), none)) rfl rfl (fun w' hS => val_move rfl) ?_
        refine iS (e := 3) (by kernel_rfl : opAt F39.o12 3 = some (some 45, .indexAddr 22 (.tmp 43) (.tmp 44), none)) rfl rfl hx rfl (by kernel_rfl) rfl (by omega) (by omega) ?_
        intro b45 o45 h45
        try simp only [Int.toNat_natCast] at h45
        refine lS (by kernel_rfl : opAt F39.o12 4 = some (some 46, .load 3 (.tmp 45), none)) rfl rfl (fun w' hS => h45.stay hS (by first | decide | (simp <;> omega))) h45 (by kernel_rfl) rfl rfl ?_
        intro v46 g46
        first | (obtain rfl := rv_nat.1 g46) | (obtain rfl := rv_int.1 g46)
        refine yS (by kernel_rfl : opAt F39.o12 5 = some (some 47, .move (.tmp 9), none)) rfl rfl (fun w' hS => val_move rfl) ?_
        refine yS (by kernel_rfl : opAt F39.o12 6 = some (some 48, .move (.tmp 11), none)) rfl rfl (fun w' hS => val_move rfl) ?_
        refine iS (e := 3) (by kernel_rfl : opAt F39.o12 7 = some (some 49, .indexAddr 22 (.tmp 47) (.tmp 48), none)) rfl rfl hy rfl (by kernel_rfl) rfl (by omega) (by omega) ?_
        intro b49 o49 h49
        try simp only [Int.toNat_natCast] at h49
        refine lS (by kernel_rfl : opAt F39.o12 8 = some (some 50, .load 3 (.tmp 49), none)) rfl rfl (fun w' hS => h49.stay hS (by first | decide | (simp <;> omega))) h49 (by kernel_rfl) rfl rfl ?_
        intro v50 g50
        first | (obtain rfl := rv_nat.1 g50) | (obtain rfl := rv_int.1 g50)
        refine yS (by kernel_rfl : opAt F39.o12 9 = some (some 51, .build 37 #[(0, (.tmp 46)), (1, (.tmp 50))], none)) rfl rfl (fun w' hS => val_build (zs := [.int .i64 0, .int .i64 0]) (ps := [(0, 1), (1, 1)]) (qs := [(0, [.int .i64 ((idsS a)[i]'hil)]), (1, [.int .i64 ((idsS b)[k]'hkl)])]) (cs := [.int .i64 ((idsS a)[i]'hil), .int .i64 ((idsS b)[k]'hkl)]) (by kernel_rfl) (by kernel_rfl) (by exact ⟨rfl, ⟨_, rfl, rfl⟩, rfl, ⟨_, rfl, rfl⟩, trivial⟩) rfl) ?_
        refine aS (by kernel_rfl : opAt F39.o12 10 = some (some 52, .buildSlice 30 1 #[(0, (.tmp 51))], none)) rfl rfl (a_buildSlice (ys := ([⟨((idsS a)[i]'hil), ((idsS b)[k]'hkl)⟩] : List Couple)) (e := 37) (bytes := 16) hF (by kernel_rfl) rfl (by decide) (by decide) ⟨rfl, ⟨_, rfl, rv_couple.2 rfl⟩, trivial⟩) ?_
        rintro v52 w8 ⟨hs, hn1, hF⟩
        refine ⟨(hR.trans hs (by simp)).ext, ?_⟩
        replace hT := hT.trans hs (by simp)
        replace ha := ha.st hs (by first | decide | (simp <;> omega))
        replace hb := hb.st hs (by first | decide | (simp <;> omega))
        replace hx := hx.st hs (by first | decide | (simp <;> omega))
        replace hy := hy.st hs (by first | decide | (simp <;> omega))
        replace ho := ho.st hs (by first | decide | (simp <;> omega)) (by first | decide | (simp <;> omega))
        replace hm := hm.st hs (by first | decide | (simp <;> omega)) (by first | decide | (simp <;> omega))
        replace h33 := h33.st hs (by first | decide | (simp <;> omega))
        replace h37 := h37.st hs (by first | decide | (simp <;> omega))
        replace hR := hR.trans hs (by simp)
        replace h45 := h45.st hs (by first | decide | (simp <;> omega))
        replace h49 := h49.st hs (by first | decide | (simp <;> omega))
        refine aS (by kernel_rfl : opAt F39.o12 11 = some (some 53, .call { callee := .builtin .append, args := #[(.tmp 42), (.tmp 52)], argTypes := #[30, 30] }, none)) rfl rfl (a_append (e := 37) (bytes := 16) hF (by decide) rfl rfl (by kernel_rfl) (by decide) ho hn1 (by simp only [List.length_map, List.length_cons, List.length_nil]; omega) (by simp only [List.length_map, List.length_cons, List.length_nil]; omega)) ?_
        rintro v53 w9 ⟨Cw9, hs, ho, hF⟩
        refine ⟨(hR.trans hs (by simp)).ext, ?_⟩
        replace hT := hT.trans hs (by simp)
        replace ha := ha.st hs (by first | decide | (simp <;> omega))
        replace hb := hb.st hs (by first | decide | (simp <;> omega))
        replace hx := hx.st hs (by first | decide | (simp <;> omega))
        replace hy := hy.st hs (by first | decide | (simp <;> omega))
        replace hm := hm.st hs (by first | decide | (simp <;> omega)) (by first | decide | (simp <;> omega))
        replace h33 := h33.st hs (by first | decide | (simp <;> omega))
        replace h37 := h37.st hs (by first | decide | (simp <;> omega))
        replace hR := hR.trans hs (by simp)
        replace h45 := h45.st hs (by first | decide | (simp <;> omega))
        replace h49 := h49.st hs (by first | decide | (simp <;> omega))
        replace hn1 := hn1.st hs (by first | decide | (simp <;> omega))
        refine yS (by kernel_rfl : opAt F39.o12 12 = some (some 6, .assign (.tmp 53), none)) rfl rfl (fun w' hS => val_assign rfl) ?_
        refine Sch.nil ?_
        refine run_plain (id := 13) (ops := F39.o13) [(0, true), (1, true), (2, false), (3, false), (4, true)] (by kernel_rfl) (by kernel_rfl) ?_
        refine yS (by kernel_rfl : opAt F39.o13 0 = some (some 54, .move (.tmp 7), none)) rfl rfl (fun w' hS => val_move rfl) ?_
        refine yS (by kernel_rfl : opAt F39.o13 1 = some (some 55, .move (.tmp 12), none)) rfl rfl (fun w' hS => val_move rfl) ?_
        refine aS (by kernel_rfl : opAt F39.o13 2 = some (some 56, .buildSlice 22 1 #[(0, (.tmp 55))], none)) rfl rfl (a_buildSlice (ys := ([(agN a b (idsS a)[i] (idsS b)[k] a.length)] : List Nat)) (e := 3) (bytes := 8) hF (by kernel_rfl) rfl (by decide) (by decide) ⟨rfl, ⟨_, rfl, rv_nat.2 rfl⟩, trivial⟩) ?_
        rintro v56 w10 ⟨hs, hn2, hF⟩
        refine ⟨trivial, ?_⟩
        replace hT := hT.trans hs (by simp)
        replace ha := ha.st hs (by first | decide | (simp <;> omega))
        replace hb := hb.st hs (by first | decide | (simp <;> omega))
        replace hx := hx.st hs (by first | decide | (simp <;> omega))
        replace hy := hy.st hs (by first | decide | (simp <;> omega))
        replace ho := ho.st hs (by first | decide | (simp <;> omega)) (by first | decide | (simp <;> omega))
        replace hm := hm.st hs (by first | decide | (simp <;> omega)) (by first | decide | (simp <;> omega))
        replace h33 := h33.st hs (by first | decide | (simp <;> omega))
        replace h37 := h37.st hs (by first | decide | (simp <;> omega))
        replace h45 := h45.st hs (by first | decide | (simp <;> omega))
        replace h49 := h49.st hs (by first | decide | (simp <;> omega))
        replace hn1 := hn1.st hs (by first | decide | (simp <;> omega))
        refine aS (by kernel_rfl : opAt F39.o13 3 = some (some 57, .call { callee := .builtin .append, args := #[(.tmp 54), (.tmp 56)], argTypes := #[22, 22] }, none)) rfl rfl (a_append (e := 3) (bytes := 8) hF (by decide) rfl rfl (by kernel_rfl) (by decide) hm hn2 (by simp only [List.length_map, List.length_cons, List.length_nil]; omega) (by simp only [List.length_map, List.length_cons, List.length_nil]; omega)) ?_
        rintro v57 w11 ⟨Cw11, hs, hm, hF⟩
        refine ⟨trivial, ?_⟩
        replace hT := hT.trans hs (by simp)
        replace ha := ha.st hs (by first | decide | (simp <;> omega))
        replace hb := hb.st hs (by first | decide | (simp <;> omega))
        replace hx := hx.st hs (by first | decide | (simp <;> omega))
        replace hy := hy.st hs (by first | decide | (simp <;> omega))
        replace ho := ho.st hs (by first | decide | (simp <;> omega)) (by first | decide | (simp <;> omega))
        replace h33 := h33.st hs (by first | decide | (simp <;> omega))
        replace h37 := h37.st hs (by first | decide | (simp <;> omega))
        replace h45 := h45.st hs (by first | decide | (simp <;> omega))
        replace h49 := h49.st hs (by first | decide | (simp <;> omega))
        replace hn1 := hn1.st hs (by first | decide | (simp <;> omega))
        replace hn2 := hn2.st hs (by first | decide | (simp <;> omega))
        refine yS (by kernel_rfl : opAt F39.o13 4 = some (some 7, .assign (.tmp 57), none)) rfl rfl (fun w' hS => val_assign rfl) ?_
        refine Sch.nil ?_
        refine run_inBlock ?_
        refine run_plain (id := 9) (ops := F39.o9) [(0, true), (1, true), (2, true)] (by kernel_rfl) (by kernel_rfl) ?_
        refine yS (by kernel_rfl : opAt F39.o9 0 = some (some 27, .move (.tmp 11), none)) rfl rfl (fun w' hS => val_move rfl) ?_
        refine yS (by kernel_rfl : opAt F39.o9 1 = some (some 28, .binOp .add 3 (.tmp 27) (.const (.int .i64 1)) 3, none)) rfl rfl (fun w' hS => val_addi rfl rfl (by omega) (by omega)) ?_
        refine yS (by kernel_rfl : opAt F39.o9 2 = some (some 11, .assign (.tmp 28), none)) rfl rfl (fun w' hS => val_assign rfl) ?_
        refine Sch.nil ?_
        refine kp (sub_cons 0 rfl rfl (sub_cons 1 rfl rfl (sub_cons 6 rfl rfl (sub_cons 7 rfl rfl (sub_cons 8 rfl rfl (sub_cons 9 rfl rfl (sub_cons 10 rfl rfl (sub_cons 11 rfl (eq_int (by simp)) (sub_nil _))))))))) (next2 (k + 1, o2 ++ [(⟨((idsS a)[i]'hil), ((idsS b)[k]'hkl)⟩, (agN a b (idsS a)[i] (idsS b)[k] a.length))], v53, v57, Cw11) _ ⟨(by first | omega | (simp only; omega)), (by rw [hrt, ← List.append_assoc, ← hv2]), (by simp only [List.length_append, List.length_cons, List.length_nil]; omega), hF, hT, ha, hb, hx, hy, (by rw [List.map_append]; exact ho), (by rw [List.map_append]; exact hm)⟩ (by first | omega | (simp only; omega)))
      · skip
        rw [if_neg (show ¬ 0 < (agN a b (idsS a)[i] (idsS b)[k] a.length) by omega), List.append_nil] at hrt
        refine run_skip (by kernel_rfl) ?_
        refine run_inBlock ?_
        refine run_plain (id := 9) (ops := F39.o9) [(0, true), (1, true), (2, true)] (by kernel_rfl) (by kernel_rfl) ?_
        refine yS (by kernel_rfl : opAt F39.o9 0 = some (some 27, .move (.tmp 11), none)) rfl rfl (fun w' hS => val_move rfl) ?_
        refine yS (by kernel_rfl : opAt F39.o9 1 = some (some 28, .binOp .add 3 (.tmp 27) (.const (.int .i64 1)) 3, none)) rfl rfl (fun w' hS => val_addi rfl rfl (by omega) (by omega)) ?_
        refine yS (by kernel_rfl : opAt F39.o9 2 = some (some 11, .assign (.tmp 28), none)) rfl rfl (fun w' hS => val_assign rfl) ?_
        refine Sch.nil ?_
        refine kp (sub_cons 0 rfl rfl (sub_cons 1 rfl rfl (sub_cons 6 rfl rfl (sub_cons 7 rfl rfl (sub_cons 8 rfl rfl (sub_cons 9 rfl rfl (sub_cons 10 rfl rfl (sub_cons 11 rfl (eq_int (by simp)) (sub_nil _))))))))) (next2 (k + 1, o2, v2, m2, C2) _ ⟨(by first | omega | (simp only; omega)), (by rw [hrt, ← hv2]), (by first | omega | (simp only; omega)), hF, hT, ha, hb, hx, hy, ho, hm⟩ (by first | omega | (simp only; omega)))
    · skip
      obtain rfl : k = (idsS b).length := by omega
      rw [List.take_length] at hv2
      refine run_exit (id := 2) (by kernel_rfl) rfl ?_
      refine run_inBlock ?_
      refine run_plain (id := 6) (ops := F39.o6) [(0, true), (1, true), (2, true)] (by kernel_rfl) (by kernel_rfl) ?_
      refine yS (by kernel_rfl : opAt F39.o6 0 = some (some 21, .move (.tmp 10), none)) rfl rfl (fun w' hS => val_move rfl) ?_
      refine yS (by kernel_rfl : opAt F39.o6 1 = some (some 22, .binOp .add 3 (.tmp 21) (.const (.int .i64 1)) 3, none)) rfl rfl (fun w' hS => val_addi rfl rfl (by omega) (by omega)) ?_
      refine yS (by kernel_rfl : opAt F39.o6 2 = some (some 10, .assign (.tmp 22), none)) rfl rfl (fun w' hS => val_assign rfl) ?_
      refine Sch.nil ?_
      refine kp (sub_cons 0 rfl rfl (sub_cons 1 rfl rfl (sub_cons 6 rfl rfl (sub_cons 7 rfl rfl (sub_cons 8 rfl rfl (sub_cons 9 rfl rfl (sub_cons 10 rfl (eq_int (by simp)) (sub_nil _)))))))) (next1 (i + 1, o2, v2, m2, C2) _ ⟨(by first | omega | (simp only; omega)), (by rw [rows_take hil, ← hv]; exact hv2), (by simp only; omega), hF, hT, ha, hb, hx, hy, ho, hm⟩ (by first | omega | (simp only; omega)))
  · skip
    have hxl : (idsS a).length ≤ 512 := by have := idsS_len a [] 64 hBa; simp only [List.length_nil] at this; unfold idsS; omega
    have hyl : (idsS b).length ≤ 512 := by have := idsS_len b [] 64 hBb; simp only [List.length_nil] at this; unfold idsS; omega
    have hmm := Nat.mul_le_mul (show i ≤ 512 by omega) hyl
    obtain rfl : i = (idsS a).length := by omega
    rw [List.take_length] at hv
    refine run_exit (id := 0) (by kernel_rfl) rfl ?_
    refine run_seq (x := F39.c45) (y := F39.c46) (by kernel_rfl) ?_
    refine run_plain (id := 14) (ops := F39.o14) [(0, true), (1, true), (2, true), (3, true)] (by kernel_rfl) (by kernel_rfl) ?_
    refine yS (by kernel_rfl : opAt F39.o14 0 = some (some 58, .move (.tmp 6), none)) rfl rfl (fun w' hS => val_move rfl) ?_
    refine yS (by kernel_rfl : opAt F39.o14 1 = some (some 59, .move (.tmp 7), none)) rfl rfl (fun w' hS => val_move rfl) ?_
    refine yS (by kernel_rfl : opAt F39.o14 2 = some (some 4, .assign (.tmp 58), none)) rfl rfl (fun w' hS => val_assign rfl) ?_
    refine yS (by kernel_rfl : opAt F39.o14 3 = some (some 5, .assign (.tmp 59), none)) rfl rfl (fun w' hS => val_assign rfl) ?_
    refine Sch.nil ?_
    refine run_ret2 (by kernel_rfl) Try.func39 Try.results39 rfl rfl ?_
    have hce : out = cplS a b := hv
    clear hv
    subst hce
    exact ⟨_, _, rfl, hT.out1 (by decide), ho.out hT hF0 (Mc_col1 C) (fun b _ => col1_lt C (by decide) b) (by rw [List.length_map]; omega), hm.out hT hF0 (Mc_col1 C) (fun b _ => col1_lt C (by decide) b) (by rw [List.length_map]; omega)⟩
end Go.Proofs.Ytejbklahkkjmhaa
