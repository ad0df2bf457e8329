/- Steps through functions of the program. -/
import Derived.Test.YtejbklahkkjmhaaJD1
import Derived.Test.YtejbklahkkjmhaaL1
set_option linter.unusedVariables false
set_option linter.unusedSimpArgs false
set_option maxRecDepth 100000
set_option maxHeartbeats 4000000
namespace Go.Proofs.Ytejbklahkkjmhaa
open Go.K Go.K.Rep

theorem inS_at {l : List Block} {x : Int} {i : Nat} (hi : i < l.length) (h0 : ∀ q (h1 : q < l.length), q < i → x ∉ (l[q]).ids) (hx : x ∈ (l[i]).ids) : inS l x = some (l[i]).hash := by
  unfold inS
  have e : l.find? (fun b => decide (x ∈ b.ids)) = some l[i] := List.find?_eq_some_iff_getElem.2 ⟨decide_eq_true hx, i, hi, rfl, fun j hj => by simpa using h0 j (by omega) hj⟩
  rw [e]; rfl
theorem inS_no {l : List Block} {x : Int} (h0 : ∀ q (h1 : q < l.length), x ∉ (l[q]).ids) : inS l x = none := by
  unfold inS
  have e : l.find? (fun b => decide (x ∈ b.ids)) = none := List.find?_eq_none.2 (fun b hb => by obtain ⟨q, hq, rfl⟩ := List.getElem_of_mem hb; simpa using h0 q hq)
  rw [e]; rfl
theorem okIds_drop (all : List Int) (p : Option Int) (ids : List Int) {k : Nat} (h : k < ids.length) : okIds all p (ids.drop k) = (okId all p ids[k] && okIds all (some ids[k]) (ids.drop (k + 1))) := by
  rw [List.drop_eq_getElem_cons h]; rfl
theorem okBs_drop (all : List Int) (p : Option Int) (l : List Block) {k : Nat} (h : k < l.length) : okBs all p (l.drop k) = (!badB p l[k] && okIds all none l[k].ids && okBs (all ++ l[k].ids) (some l[k].hash) (l.drop (k + 1))) := by
  rw [List.drop_eq_getElem_cons h]; rfl
theorem flatI_take {l : List Block} {i : Nat} (h : i < l.length) : flatI (l.take (i + 1)) = flatI (l.take i) ++ l[i].ids := by
  unfold flatI; rw [List.take_succ_eq_append_getElem h, List.flatMap_append]; simp
theorem flatI_len (l : List Block) : ((flatI l).length : Int) = total l := by
  induction l with
  | nil => rfl
  | cons a l ih =>
    have e : flatI (a :: l) = a.ids ++ flatI l := by simp [flatI]
    rw [show a :: l = [a] ++ l from rfl, total_append, total_one, show flatI ([a] ++ l) = a.ids ++ flatI l from e, List.length_append, ← ih]; simp
namespace F37
noncomputable def c0 : Code := bodyOf Try.f37
noncomputable def c1 : Code := cl c0
noncomputable def o0 : Array Oper := rops c1
noncomputable def c2 : Code := cr c0
noncomputable def c3 : Code := cl c2
noncomputable def c4 : Code := cl c3
noncomputable def o1 : Array Oper := rops c4
noncomputable def c5 : Code := cr c3
noncomputable def c6 : Code := cl c5
noncomputable def c7 : Code := cl c6
noncomputable def c8 : Code := cl c7
noncomputable def c9 : Code := cl c8
noncomputable def o2 : Array Oper := rops c9
noncomputable def c10 : Code := cr c8
noncomputable def c11 : Code := cl c10
noncomputable def c12 : Code := cr c10
noncomputable def c13 : Code := cr c7
noncomputable def c14 : Code := cl c13
noncomputable def c15 : Code := cl c14
noncomputable def c16 : Code := cl c15
noncomputable def o4 : Array Oper := rops c16
noncomputable def c17 : Code := cr c15
noncomputable def c18 : Code := cl c17
noncomputable def c19 : Code := cl c18
noncomputable def o5 : Array Oper := rops c19
noncomputable def c20 : Code := cr c18
noncomputable def c21 : Code := cr c17
noncomputable def c22 : Code := cr c13
noncomputable def o3 : Array Oper := rops c22
noncomputable def c23 : Code := cr c2
noncomputable def c24 : Code := cl c23
noncomputable def o6 : Array Oper := rops c24
noncomputable def c25 : Code := cr c23
end F37
/-- 'has'. -/
theorem has_ok {w₀ : World} {M : Nat → Prop} {l : List Int} {vl : Value} (hl : RV w₀ M l vl) (z : Int) : Calls Try.prog 37 #[vl, .int .i64 z] w₀ (Ret fun v w' => v = .bool (decide (z ∈ l)) ∧ w' = w₀) := by
  refine calls_start (c := F37.c0) (N := 18) [vl, .int .i64 z] Try.func37 (by kernel_rfl) (by kernel_rfl) (by kernel_rfl) ?_
  show Run _ _ _ _ [(0, vl), (1, .int .i64 z)] _ _
  refine run_seq (x := F37.c1) (y := F37.c2) (by kernel_rfl) ?_
  refine run_plain (id := 0) (ops := F37.o0) [(0, true)] (by kernel_rfl) (by kernel_rfl) ?_
  refine yS (by kernel_rfl : opAt F37.o0 0 = some (some 4, .assign (.const (.bool false)), none)) rfl rfl (fun w' hS => val_assign rfl) ?_
  refine Sch.nil ?_
  refine run_seq (x := F37.c3) (y := F37.c23) (by kernel_rfl) ?_
  refine run_seq (x := F37.c4) (y := F37.c5) (by kernel_rfl) ?_
  refine run_plain (id := 1) (ops := F37.o1) [(0, true)] (by kernel_rfl) (by kernel_rfl) ?_
  refine yS (by kernel_rfl : opAt F37.o1 0 = some (some 5, .assign (.const (.int .i64 0)), none)) rfl rfl (fun w' hS => val_assign rfl) ?_
  refine Sch.nil ?_
  refine run_block (x := F37.c6) (id := 0) (by kernel_rfl) ?_
  
  refine run_loop (ι := Nat) (I := fun x w => x ≤ l.length ∧ (∀ q (h1 : q < l.length), q < x → l[q] ≠ z) ∧ w = w₀) (e := fun x => [(0, vl), (1, .int .i64 z), (5, .int .i64 x)]) (m := fun x => l.length - x) (x₀ := 0) (body := F37.c7) (by kernel_rfl) (sub_cons 0 rfl rfl (sub_cons 1 rfl rfl (sub_cons 5 rfl rfl (sub_nil _)))) ?_ ?_
  · exact ⟨Nat.zero_le _, (fun q _ hq => by first | omega | (simp only at hq; omega)), rfl⟩
  intro i w1 hI next
  obtain ⟨hi, h0, rfl⟩ := hI
  try simp only at hi h0
  have next1 := next
  clear next
  show Run _ _ _ _ [(0, vl), (1, .int .i64 z), (5, .int .i64 i)] _ _
  have hle := hl.le
  refine run_seq (x := F37.c8) (y := F37.c13) (by kernel_rfl) ?_
  refine run_seq (x := F37.c9) (y := F37.c10) (by kernel_rfl) ?_
  refine run_plain (id := 2) (ops := F37.o2) [(0, true), (1, true), (2, true), (3, true)] (by kernel_rfl) (by kernel_rfl) ?_
  refine yS (by kernel_rfl : opAt F37.o2 0 = some (some 6, .move (.tmp 5), none)) rfl rfl (fun w' hS => val_move rfl) ?_
  refine yS (by kernel_rfl : opAt F37.o2 1 = some (some 7, .move (.tmp 0), none)) rfl rfl (fun w' hS => val_move rfl) ?_
  refine yS (by kernel_rfl : opAt F37.o2 2 = some (some 8, .call { callee := .builtin .len, args := #[(.tmp 7)], argTypes := #[22] }, none)) rfl rfl (fun w' hS => hl.lenV rfl Try.underlying22 w' ) ?_
  refine yS (by kernel_rfl : opAt F37.o2 3 = some (some 9, .binOp .lss 3 (.tmp 6) (.tmp 8) 3, none)) rfl rfl (fun w' hS => val_lss rfl rfl) ?_
  refine Sch.nil ?_
  refine run_if (x := F37.c11) (y := F37.c12) (o := .tmp 9) (by kernel_rfl) rfl (fun h9 => ?_) (fun h9 => ?_)
  · skip
    have hil : i < l.length := by omega
    refine run_skip (by kernel_rfl) ?_
    refine run_seq (x := F37.c14) (y := F37.c22) (by kernel_rfl) ?_
    refine run_block (x := F37.c15) (id := 1) (by kernel_rfl) ?_
    refine run_seq (x := F37.c16) (y := F37.c17) (by kernel_rfl) ?_
    refine run_plain (id := 4) (ops := F37.o4) [(0, true), (1, true), (2, true), (3, false), (4, true), (5, true)] (by kernel_rfl) (by kernel_rfl) ?_
    refine yS (by kernel_rfl : opAt F37.o4 0 = some (some 12, .move (.tmp 0), none)) rfl rfl (fun w' hS => val_move rfl) ?_
    refine yS (by kernel_rfl : opAt F37.o4 1 = some (some 13, .move (.tmp 5), none)) rfl rfl (fun w' hS => val_move rfl) ?_
    refine iS (e := 3) (by kernel_rfl : opAt F37.o4 2 = some (some 14, .indexAddr 22 (.tmp 12) (.tmp 13), none)) rfl rfl hl rfl (by kernel_rfl) rfl (by omega) (by omega) ?_
    intro b14 o14 h14
    try simp only [Int.toNat_natCast] at h14
    refine lN (by kernel_rfl : opAt F37.o4 3 = some (some 15, .load 3 (.tmp 14), none)) rfl rfl trivial h14 (by kernel_rfl) rfl rfl ?_
    intro v15 g15
    first | (obtain rfl := rv_nat.1 g15) | (obtain rfl := rv_int.1 g15)
    refine yS (by kernel_rfl : opAt F37.o4 4 = some (some 16, .move (.tmp 1), none)) rfl rfl (fun w' hS => val_move rfl) ?_
    refine yS (by kernel_rfl : opAt F37.o4 5 = some (some 17, .binOp .eql 3 (.tmp 15) (.tmp 16) 3, none)) rfl rfl (fun w' hS => val_eql rfl rfl) ?_
    refine Sch.nil ?_
    refine run_if (x := F37.c18) (y := F37.c21) (o := .tmp 17) (by kernel_rfl) rfl (fun h17 => ?_) (fun h17 => ?_)
    · skip
      refine run_seq (x := F37.c19) (y := F37.c20) (by kernel_rfl) ?_
      refine run_plain (id := 5) (ops := F37.o5) [(0, true)] (by kernel_rfl) (by kernel_rfl) ?_
      refine yS (by kernel_rfl : opAt F37.o5 0 = some (some 4, .assign (.const (.bool true)), none)) rfl rfl (fun w' hS => val_assign rfl) ?_
      refine Sch.nil ?_
      refine run_ret1 (by kernel_rfl) Try.func37 Try.results37 rfl ?_
      exact ⟨eq_bool (decide_eq_true (show z ∈ l from h17 ▸ List.getElem_mem hil)).symm, rfl⟩
    · skip
      refine run_skip (by kernel_rfl) ?_
      refine run_inBlock ?_
      refine run_plain (id := 3) (ops := F37.o3) [(0, true), (1, true), (2, true)] (by kernel_rfl) (by kernel_rfl) ?_
      refine yS (by kernel_rfl : opAt F37.o3 0 = some (some 10, .move (.tmp 5), none)) rfl rfl (fun w' hS => val_move rfl) ?_
      refine yS (by kernel_rfl : opAt F37.o3 1 = some (some 11, .binOp .add 3 (.tmp 10) (.const (.int .i64 1)) 3, none)) rfl rfl (fun w' hS => val_addi rfl rfl (by omega) (by omega)) ?_
      refine yS (by kernel_rfl : opAt F37.o3 2 = some (some 5, .assign (.tmp 11), none)) rfl rfl (fun w' hS => val_assign rfl) ?_
      refine Sch.nil ?_
      refine kp (sub_cons 0 rfl rfl (sub_cons 1 rfl rfl (sub_cons 5 rfl (eq_int (by simp)) (sub_nil _)))) (next1 (i + 1) _ ⟨(by first | omega | (simp only; omega)), (fun q h1 hq => by
          try simp only at hq
          by_cases e : q = i
          · subst e; exact h17
          · exact h0 q h1 (by omega)), rfl⟩ (by first | omega | (simp only; omega)))
  · skip
    refine run_exit (id := 0) (by kernel_rfl) rfl ?_
    refine run_seq (x := F37.c24) (y := F37.c25) (by kernel_rfl) ?_
    refine run_plain (id := 6) (ops := F37.o6) [(0, true)] (by kernel_rfl) (by kernel_rfl) ?_
    refine yS (by kernel_rfl : opAt F37.o6 0 = some (some 4, .assign (.const (.bool false)), none)) rfl rfl (fun w' hS => val_assign rfl) ?_
    refine Sch.nil ?_
    refine run_ret1 (by kernel_rfl) Try.func37 Try.results37 rfl ?_
    exact ⟨eq_bool (decide_eq_false (fun hm => by obtain ⟨q, hq, e⟩ := List.getElem_of_mem hm; exact h0 q hq (by omega) e)).symm, rfl⟩
namespace F57
noncomputable def c0 : Code := bodyOf Try.f57
noncomputable def c1 : Code := cl c0
noncomputable def o0 : Array Oper := rops c1
noncomputable def c2 : Code := cr c0
noncomputable def c3 : Code := cl c2
noncomputable def c4 : Code := cl c3
noncomputable def o1 : Array Oper := rops c4
noncomputable def c5 : Code := cr c3
noncomputable def c6 : Code := cl c5
noncomputable def c7 : Code := cl c6
noncomputable def c8 : Code := cl c7
noncomputable def c9 : Code := cl c8
noncomputable def o2 : Array Oper := rops c9
noncomputable def c10 : Code := cr c8
noncomputable def c11 : Code := cl c10
noncomputable def c12 : Code := cr c10
noncomputable def c13 : Code := cr c7
noncomputable def c14 : Code := cl c13
noncomputable def c15 : Code := cl c14
noncomputable def c16 : Code := cl c15
noncomputable def o4 : Array Oper := rops c16
noncomputable def c17 : Code := cr c15
noncomputable def c18 : Code := cl c17
noncomputable def c19 : Code := cl c18
noncomputable def o5 : Array Oper := rops c19
noncomputable def c20 : Code := cr c18
noncomputable def c21 : Code := cr c17
noncomputable def c22 : Code := cr c13
noncomputable def o3 : Array Oper := rops c22
noncomputable def c23 : Code := cr c2
noncomputable def c24 : Code := cl c23
noncomputable def o6 : Array Oper := rops c24
noncomputable def c25 : Code := cr c23
end F57
/-- 'in'. -/
theorem in_ok {w₀ : World} {M : Nat → Prop} {l : List Block} {vl : Value} (hl : RV w₀ M l vl) (z : Int) : Calls Try.prog 57 #[vl, .int .i64 z] w₀ (Ret fun v w' => v = .tuple #[.int .u64 ((inS l z).getD 0), .bool (decide ((inS l z).isSome = true))] ∧ w' = w₀) := by
  refine calls_start (c := F57.c0) (N := 25) [vl, .int .i64 z] Try.func57 (by kernel_rfl) (by kernel_rfl) (by kernel_rfl) ?_
  show Run _ _ _ _ [(0, vl), (1, .int .i64 z)] _ _
  refine run_seq (x := F57.c1) (y := F57.c2) (by kernel_rfl) ?_
  refine run_plain (id := 0) (ops := F57.o0) [(0, true), (1, true)] (by kernel_rfl) (by kernel_rfl) ?_
  refine yS (by kernel_rfl : opAt F57.o0 0 = some (some 4, .assign (.const (.int .u64 0)), none)) rfl rfl (fun w' hS => val_assign rfl) ?_
  refine yS (by kernel_rfl : opAt F57.o0 1 = some (some 5, .assign (.const (.bool false)), none)) rfl rfl (fun w' hS => val_assign rfl) ?_
  refine Sch.nil ?_
  refine run_seq (x := F57.c3) (y := F57.c23) (by kernel_rfl) ?_
  refine run_seq (x := F57.c4) (y := F57.c5) (by kernel_rfl) ?_
  refine run_plain (id := 1) (ops := F57.o1) [(0, true)] (by kernel_rfl) (by kernel_rfl) ?_
  refine yS (by kernel_rfl : opAt F57.o1 0 = some (some 6, .assign (.const (.int .i64 0)), none)) rfl rfl (fun w' hS => val_assign rfl) ?_
  refine Sch.nil ?_
  refine run_block (x := F57.c6) (id := 0) (by kernel_rfl) ?_
  
  refine run_loop (ι := Nat) (I := fun x w => x ≤ l.length ∧ (∀ q (h1 : q < l.length), q < x → z ∉ (l[q]).ids) ∧ w = w₀) (e := fun x => [(0, vl), (1, .int .i64 z), (6, .int .i64 x)]) (m := fun x => l.length - x) (x₀ := 0) (body := F57.c7) (by kernel_rfl) (sub_cons 0 rfl rfl (sub_cons 1 rfl rfl (sub_cons 6 rfl rfl (sub_nil _)))) ?_ ?_
  · exact ⟨Nat.zero_le _, (fun q _ hq => by first | omega | (simp only at hq; omega)), rfl⟩
  intro i w1 hI next
  obtain ⟨hi, h0, rfl⟩ := hI
  try simp only at hi h0
  have next1 := next
  clear next
  show Run _ _ _ _ [(0, vl), (1, .int .i64 z), (6, .int .i64 i)] _ _
  have hle := hl.le
  refine run_seq (x := F57.c8) (y := F57.c13) (by kernel_rfl) ?_
  refine run_seq (x := F57.c9) (y := F57.c10) (by kernel_rfl) ?_
  refine run_plain (id := 2) (ops := F57.o2) [(0, true), (1, true), (2, true), (3, true)] (by kernel_rfl) (by kernel_rfl) ?_
  refine yS (by kernel_rfl : opAt F57.o2 0 = some (some 7, .move (.tmp 6), none)) rfl rfl (fun w' hS => val_move rfl) ?_
  refine yS (by kernel_rfl : opAt F57.o2 1 = some (some 8, .move (.tmp 0), none)) rfl rfl (fun w' hS => val_move rfl) ?_
  refine yS (by kernel_rfl : opAt F57.o2 2 = some (some 9, .call { callee := .builtin .len, args := #[(.tmp 8)], argTypes := #[39] }, none)) rfl rfl (fun w' hS => hl.lenV rfl Try.underlying39 w' ) ?_
  refine yS (by kernel_rfl : opAt F57.o2 3 = some (some 10, .binOp .lss 3 (.tmp 7) (.tmp 9) 3, none)) rfl rfl (fun w' hS => val_lss rfl rfl) ?_
  refine Sch.nil ?_
  refine run_if (x := F57.c11) (y := F57.c12) (o := .tmp 10) (by kernel_rfl) rfl (fun h10 => ?_) (fun h10 => ?_)
  · skip
    have hil : i < l.length := by omega
    refine run_skip (by kernel_rfl) ?_
    refine run_seq (x := F57.c14) (y := F57.c22) (by kernel_rfl) ?_
    refine run_block (x := F57.c15) (id := 1) (by kernel_rfl) ?_
    refine run_seq (x := F57.c16) (y := F57.c17) (by kernel_rfl) ?_
    refine run_plain (id := 4) (ops := F57.o4) [(0, true), (1, true), (2, true), (3, true), (4, false), (5, true), (6, false)] (by kernel_rfl) (by kernel_rfl) ?_
    refine yS (by kernel_rfl : opAt F57.o4 0 = some (some 13, .move (.tmp 0), none)) rfl rfl (fun w' hS => val_move rfl) ?_
    refine yS (by kernel_rfl : opAt F57.o4 1 = some (some 14, .move (.tmp 6), none)) rfl rfl (fun w' hS => val_move rfl) ?_
    refine iS (e := 44) (by kernel_rfl : opAt F57.o4 2 = some (some 15, .indexAddr 39 (.tmp 13) (.tmp 14), none)) rfl rfl hl rfl (by kernel_rfl) rfl (by omega) (by omega) ?_
    intro b15 o15 h15
    try simp only [Int.toNat_natCast] at h15
    have h16 := RA.ids h15
    refine yS (by kernel_rfl : opAt F57.o4 3 = some (some 16, .fieldAddr 44 (.tmp 15) 1, none)) rfl rfl (fun w' hS => val_fieldAddr (off := 1) (by kernel_rfl) rfl) ?_
    refine lN (by kernel_rfl : opAt F57.o4 4 = some (some 17, .load 22 (.tmp 16), none)) rfl rfl trivial h16 (by kernel_rfl) rfl rfl ?_
    intro v17 g17
    refine yS (by kernel_rfl : opAt F57.o4 5 = some (some 18, .move (.tmp 1), none)) rfl rfl (fun w' hS => val_move rfl) ?_
    refine cS (by kernel_rfl : opAt F57.o4 6 = some (some 19, .call { callee := .value (.func 37), args := #[(.tmp 17), (.tmp 18)], argTypes := #[22, 3] }, none)) rfl rfl (ent Try.call37 rfl) (has_ok g17 _) ?_
    rintro vw2 w2 ⟨rfl, rfl⟩
    refine ⟨trivial, ?_⟩
    refine Sch.nil ?_
    refine run_if (x := F57.c18) (y := F57.c21) (o := .tmp 19) (by kernel_rfl) rfl (fun h19 => ?_) (fun h19 => ?_)
    · skip
      refine run_seq (x := F57.c19) (y := F57.c20) (by kernel_rfl) ?_
      refine run_plain (id := 5) (ops := F57.o5) [(0, true), (1, true), (2, true), (3, true), (4, false), (5, true), (6, true)] (by kernel_rfl) (by kernel_rfl) ?_
      refine yS (by kernel_rfl : opAt F57.o5 0 = some (some 20, .move (.tmp 0), none)) rfl rfl (fun w' hS => val_move rfl) ?_
      refine yS (by kernel_rfl : opAt F57.o5 1 = some (some 21, .move (.tmp 6), none)) rfl rfl (fun w' hS => val_move rfl) ?_
      refine iS (e := 44) (by kernel_rfl : opAt F57.o5 2 = some (some 22, .indexAddr 39 (.tmp 20) (.tmp 21), none)) rfl rfl hl rfl (by kernel_rfl) rfl (by omega) (by omega) ?_
      intro b22 o22 h22
      try simp only [Int.toNat_natCast] at h22
      have h23 := RA.hash h22
      refine yS (by kernel_rfl : opAt F57.o5 3 = some (some 23, .fieldAddr 44 (.tmp 22) 0, none)) rfl rfl (fun w' hS => val_fieldAddr (off := 0) (by kernel_rfl) rfl) ?_
      refine lN (by kernel_rfl : opAt F57.o5 4 = some (some 24, .load 42 (.tmp 23), none)) rfl rfl trivial h23 (by kernel_rfl) rfl rfl ?_
      intro v24 g24
      obtain rfl := rv_num.1 g24
      refine yS (by kernel_rfl : opAt F57.o5 5 = some (some 4, .assign (.tmp 24), none)) rfl rfl (fun w' hS => val_assign rfl) ?_
      refine yS (by kernel_rfl : opAt F57.o5 6 = some (some 5, .assign (.const (.bool true)), none)) rfl rfl (fun w' hS => val_assign rfl) ?_
      refine Sch.nil ?_
      refine run_ret2 (by kernel_rfl) Try.func57 Try.results57 rfl rfl ?_
      exact ⟨by rw [inS_at hil h0 h19]; rfl, rfl⟩
    · skip
      refine run_skip (by kernel_rfl) ?_
      refine run_inBlock ?_
      refine run_plain (id := 3) (ops := F57.o3) [(0, true), (1, true), (2, true)] (by kernel_rfl) (by kernel_rfl) ?_
      refine yS (by kernel_rfl : opAt F57.o3 0 = some (some 11, .move (.tmp 6), none)) rfl rfl (fun w' hS => val_move rfl) ?_
      refine yS (by kernel_rfl : opAt F57.o3 1 = some (some 12, .binOp .add 3 (.tmp 11) (.const (.int .i64 1)) 3, none)) rfl rfl (fun w' hS => val_addi rfl rfl (by omega) (by omega)) ?_
      refine yS (by kernel_rfl : opAt F57.o3 2 = some (some 6, .assign (.tmp 12), none)) rfl rfl (fun w' hS => val_assign rfl) ?_
      refine Sch.nil ?_
      refine kp (sub_cons 0 rfl rfl (sub_cons 1 rfl rfl (sub_cons 6 rfl (eq_int (by simp)) (sub_nil _)))) (next1 (i + 1) _ ⟨(by first | omega | (simp only; omega)), (fun q h1 hq => by
          try simp only at hq
          by_cases e : q = i
          · subst e; exact h19
          · exact h0 q h1 (by omega)), rfl⟩ (by first | omega | (simp only; omega)))
  · skip
    refine run_exit (id := 0) (by kernel_rfl) rfl ?_
    refine run_seq (x := F57.c24) (y := F57.c25) (by kernel_rfl) ?_
    refine run_plain (id := 6) (ops := F57.o6) [(0, true), (1, true)] (by kernel_rfl) (by kernel_rfl) ?_
    refine yS (by kernel_rfl : opAt F57.o6 0 = some (some 4, .assign (.const (.int .u64 0)), none)) rfl rfl (fun w' hS => val_assign rfl) ?_
    refine yS (by kernel_rfl : opAt F57.o6 1 = some (some 5, .assign (.const (.bool false)), none)) rfl rfl (fun w' hS => val_assign rfl) ?_
    refine Sch.nil ?_
    refine run_ret2 (by kernel_rfl) Try.func57 Try.results57 rfl rfl ?_
    exact ⟨by rw [inS_no (fun q hq => h0 q hq (by omega))]; rfl, rfl⟩
namespace F22
noncomputable def c0 : Code := bodyOf Try.f22
noncomputable def c1 : Code := cl c0
noncomputable def o0 : Array Oper := rops c1
noncomputable def c2 : Code := cr c0
noncomputable def c3 : Code := cl c2
noncomputable def o1 : Array Oper := rops c3
noncomputable def c4 : Code := cr c2
noncomputable def c5 : Code := cl c4
noncomputable def c6 : Code := cl c5
noncomputable def o2 : Array Oper := rops c6
noncomputable def c7 : Code := cr c5
noncomputable def c8 : Code := cl c7
noncomputable def c9 : Code := cl c8
noncomputable def c10 : Code := cl c9
noncomputable def c11 : Code := cl c10
noncomputable def o3 : Array Oper := rops c11
noncomputable def c12 : Code := cr c10
noncomputable def c13 : Code := cl c12
noncomputable def c14 : Code := cr c12
noncomputable def c15 : Code := cr c9
noncomputable def c16 : Code := cl c15
noncomputable def c17 : Code := cl c16
noncomputable def c18 : Code := cl c17
noncomputable def o5 : Array Oper := rops c18
noncomputable def c19 : Code := cr c17
noncomputable def c20 : Code := cl c19
noncomputable def o6 : Array Oper := rops c20
noncomputable def c21 : Code := cr c19
noncomputable def c22 : Code := cl c21
noncomputable def c23 : Code := cl c22
noncomputable def o7 : Array Oper := rops c23
noncomputable def c24 : Code := cr c22
noncomputable def c25 : Code := cr c21
noncomputable def c26 : Code := cr c15
noncomputable def o4 : Array Oper := rops c26
noncomputable def c27 : Code := cr c4
noncomputable def c28 : Code := cl c27
noncomputable def o8 : Array Oper := rops c28
noncomputable def c29 : Code := cr c27
noncomputable def c30 : Code := cl c29
noncomputable def c31 : Code := cl c30
noncomputable def o9 : Array Oper := rops c31
noncomputable def c32 : Code := cr c30
noncomputable def c33 : Code := cl c32
noncomputable def c34 : Code := cl c33
noncomputable def c35 : Code := cl c34
noncomputable def c36 : Code := cl c35
noncomputable def o10 : Array Oper := rops c36
noncomputable def c37 : Code := cr c35
noncomputable def c38 : Code := cl c37
noncomputable def c39 : Code := cr c37
noncomputable def c40 : Code := cr c34
noncomputable def c41 : Code := cl c40
noncomputable def c42 : Code := cl c41
noncomputable def c43 : Code := cl c42
noncomputable def c44 : Code := cl c43
noncomputable def o12 : Array Oper := rops c44
noncomputable def c45 : Code := cr c43
noncomputable def c46 : Code := cl c45
noncomputable def c47 : Code := cl c46
noncomputable def o13 : Array Oper := rops c47
noncomputable def c48 : Code := cr c46
noncomputable def c49 : Code := cr c45
noncomputable def c50 : Code := cr c42
noncomputable def c51 : Code := cl c50
noncomputable def c52 : Code := cl c51
noncomputable def o14 : Array Oper := rops c52
noncomputable def c53 : Code := cr c51
noncomputable def c54 : Code := cl c53
noncomputable def c55 : Code := cl c54
noncomputable def c56 : Code := cl c55
noncomputable def c57 : Code := cl c56
noncomputable def o15 : Array Oper := rops c57
noncomputable def c58 : Code := cr c56
noncomputable def c59 : Code := cl c58
noncomputable def c60 : Code := cr c58
noncomputable def c61 : Code := cr c55
noncomputable def c62 : Code := cl c61
noncomputable def c63 : Code := cl c62
noncomputable def c64 : Code := cl c63
noncomputable def o17 : Array Oper := rops c64
noncomputable def c65 : Code := cr c63
noncomputable def c66 : Code := cl c65
noncomputable def o18 : Array Oper := rops c66
noncomputable def c67 : Code := cr c65
noncomputable def c68 : Code := cl c67
noncomputable def c69 : Code := cl c68
noncomputable def o19 : Array Oper := rops c69
noncomputable def c70 : Code := cr c68
noncomputable def c71 : Code := cr c67
noncomputable def c72 : Code := cr c61
noncomputable def o16 : Array Oper := rops c72
noncomputable def c73 : Code := cr c50
noncomputable def o20 : Array Oper := rops c73
noncomputable def c74 : Code := cr c40
noncomputable def o11 : Array Oper := rops c74
noncomputable def c75 : Code := cr c29
noncomputable def c76 : Code := cl c75
noncomputable def o21 : Array Oper := rops c76
noncomputable def c77 : Code := cr c75
end F22
/-- The specification's 'Check'. -/
theorem rcheck_ok {w₀ : World} {C : Nat → Nat} {l : List Block} {vl : Value} (hF : Lim w₀ C) (hl : RV w₀ (Mc C) l vl) : Calls Try.prog 22 #[vl] w₀ (Ret fun v w' => v = .int .i64 (checkS l) ∧ Stp [] w₀ C w' C) := by
  have hF0 := hF
  have hT := Stp.refl [2, 3, 4, 5, 6, 7, 8, 9] w₀ (col1 C)
  replace hF := hF.col1
  replace hl : RV w₀ (Mc (col1 C)) l vl := by rw [Mc_col1]; exact hl
  refine calls_start (c := F22.c0) (N := 110) [vl] Try.func22 (by kernel_rfl) (by kernel_rfl) (by kernel_rfl) ?_
  show Run _ _ _ _ [(0, vl)] _ _
  refine run_seq (x := F22.c1) (y := F22.c2) (by kernel_rfl) ?_
  refine run_plain (id := 0) (ops := F22.o0) [(0, true)] (by kernel_rfl) (by kernel_rfl) ?_
  refine yS (by kernel_rfl : opAt F22.o0 0 = some (some 2, .assign (.const (.int .i64 0)), none)) rfl rfl (fun w' hS => val_assign rfl) ?_
  refine Sch.nil ?_
  refine run_seq (x := F22.c3) (y := F22.c4) (by kernel_rfl) ?_
  refine run_plain (id := 1) (ops := F22.o1) [(0, true)] (by kernel_rfl) (by kernel_rfl) ?_
  refine yS (by kernel_rfl : opAt F22.o1 0 = some (some 3, .assign (.const (.int .i64 0)), none)) rfl rfl (fun w' hS => val_assign rfl) ?_
  refine Sch.nil ?_
  refine run_seq (x := F22.c5) (y := F22.c27) (by kernel_rfl) ?_
  refine run_seq (x := F22.c6) (y := F22.c7) (by kernel_rfl) ?_
  refine run_plain (id := 2) (ops := F22.o2) [(0, true)] (by kernel_rfl) (by kernel_rfl) ?_
  refine yS (by kernel_rfl : opAt F22.o2 0 = some (some 4, .assign (.const (.int .i64 0)), none)) rfl rfl (fun w' hS => val_assign rfl) ?_
  refine Sch.nil ?_
  refine run_block (x := F22.c8) (id := 0) (by kernel_rfl) ?_
  
  refine run_loop (ι := Nat × (Nat → Nat)) (I := fun x w => x.1 ≤ l.length ∧ total (l.take x.1) ≤ 64 ∧ Lim w x.2 ∧ Stp [2, 3, 4, 5, 6, 7, 8, 9] w₀ (col1 C) w x.2 ∧ RV w (Mc x.2) l vl) (e := fun x => [(0, vl), (3, .int .i64 (total (l.take x.1))), (4, .int .i64 x.1)]) (m := fun x => l.length - x.1) (x₀ := (0, col1 C)) (body := F22.c9) (by kernel_rfl) (sub_cons 0 rfl rfl (sub_cons 3 rfl rfl (sub_cons 4 rfl rfl (sub_nil _)))) ?_ ?_
  · exact ⟨Nat.zero_le _, (by simp [total]), hF, hT, hl⟩
  intro ⟨i, C1⟩ w1 hI next
  obtain ⟨hi, ht, hF, hT, hl⟩ := hI
  try simp only at hi ht hF hT hl
  have next1 := next
  clear next
  show Run _ _ _ _ [(0, vl), (3, .int .i64 (total (l.take i))), (4, .int .i64 i)] _ _
  have hle := hl.le
  have htn := total_nonneg (l.take i)
  refine run_seq (x := F22.c10) (y := F22.c15) (by kernel_rfl) ?_
  refine run_seq (x := F22.c11) (y := F22.c12) (by kernel_rfl) ?_
  refine run_plain (id := 3) (ops := F22.o3) [(0, true), (1, true), (2, true), (3, true)] (by kernel_rfl) (by kernel_rfl) ?_
  refine yS (by kernel_rfl : opAt F22.o3 0 = some (some 9, .move (.tmp 4), none)) rfl rfl (fun w' hS => val_move rfl) ?_
  refine yS (by kernel_rfl : opAt F22.o3 1 = some (some 10, .move (.tmp 0), none)) rfl rfl (fun w' hS => val_move rfl) ?_
  refine yS (by kernel_rfl : opAt F22.o3 2 = some (some 11, .call { callee := .builtin .len, args := #[(.tmp 10)], argTypes := #[39] }, none)) rfl rfl (fun w' hS => hl.lenV rfl Try.underlying39 w' ) ?_
  refine yS (by kernel_rfl : opAt F22.o3 3 = some (some 12, .binOp .lss 3 (.tmp 9) (.tmp 11) 3, none)) rfl rfl (fun w' hS => val_lss rfl rfl) ?_
  refine Sch.nil ?_
  refine run_if (x := F22.c13) (y := F22.c14) (o := .tmp 12) (by kernel_rfl) rfl (fun h12 => ?_) (fun h12 => ?_)
  · skip
    have hil : i < l.length := by omega
    have htt := total_take l hil
    refine run_skip (by kernel_rfl) ?_
    refine run_seq (x := F22.c16) (y := F22.c26) (by kernel_rfl) ?_
    refine run_block (x := F22.c17) (id := 1) (by kernel_rfl) ?_
    refine run_seq (x := F22.c18) (y := F22.c19) (by kernel_rfl) ?_
    refine run_plain (id := 5) (ops := F22.o5) [(0, true), (1, true), (2, true), (3, true), (4, true), (5, false), (6, true), (7, true), (8, true), (9, true)] (by kernel_rfl) (by kernel_rfl) ?_
    refine yS (by kernel_rfl : opAt F22.o5 0 = some (some 15, .move (.tmp 3), none)) rfl rfl (fun w' hS => val_move rfl) ?_
    refine yS (by kernel_rfl : opAt F22.o5 1 = some (some 16, .move (.tmp 0), none)) rfl rfl (fun w' hS => val_move rfl) ?_
    refine yS (by kernel_rfl : opAt F22.o5 2 = some (some 17, .move (.tmp 4), none)) rfl rfl (fun w' hS => val_move rfl) ?_
    refine iS (e := 44) (by kernel_rfl : opAt F22.o5 3 = some (some 18, .indexAddr 39 (.tmp 16) (.tmp 17), none)) rfl rfl hl rfl (by kernel_rfl) rfl (by omega) (by omega) ?_
    intro b18 o18 h18
    try simp only [Int.toNat_natCast] at h18
    have h19 := RA.ids h18
    refine yS (by kernel_rfl : opAt F22.o5 4 = some (some 19, .fieldAddr 44 (.tmp 18) 1, none)) rfl rfl (fun w' hS => val_fieldAddr (off := 1) (by kernel_rfl) rfl) ?_
    refine lN (by kernel_rfl : opAt F22.o5 5 = some (some 20, .load 22 (.tmp 19), none)) rfl rfl trivial h19 (by kernel_rfl) rfl rfl ?_
    intro v20 g20
    refine yS (by kernel_rfl : opAt F22.o5 6 = some (some 21, .call { callee := .builtin .len, args := #[(.tmp 20)], argTypes := #[22] }, none)) rfl rfl (fun w' hS => g20.lenV rfl Try.underlying22 w' ) ?_
    refine yS (by kernel_rfl : opAt F22.o5 7 = some (some 22, .call { callee := .builtin .min, args := #[(.tmp 21), (.const (.int .i64 65))], argTypes := #[3, 3] }, none)) rfl rfl (fun w' hS => val_min rfl rfl Try.underlying3) ?_
    refine yS (by kernel_rfl : opAt F22.o5 8 = some (some 23, .binOp .add 3 (.tmp 15) (.tmp 22) 3, none)) rfl rfl (fun w' hS => val_addi rfl rfl (by omega) (by omega)) ?_
    refine yS (by kernel_rfl : opAt F22.o5 9 = some (some 3, .assign (.tmp 23), none)) rfl rfl (fun w' hS => val_assign rfl) ?_
    refine Sch.nil ?_
    refine run_seq (x := F22.c20) (y := F22.c21) (by kernel_rfl) ?_
    refine run_plain (id := 6) (ops := F22.o6) [(0, true), (1, true)] (by kernel_rfl) (by kernel_rfl) ?_
    refine yS (by kernel_rfl : opAt F22.o6 0 = some (some 24, .move (.tmp 3), none)) rfl rfl (fun w' hS => val_move rfl) ?_
    refine yS (by kernel_rfl : opAt F22.o6 1 = some (some 25, .binOp .gtr 3 (.tmp 24) (.const (.int .i64 64)) 3, none)) rfl rfl (fun w' hS => val_gtr rfl rfl) ?_
    refine Sch.nil ?_
    refine run_if (x := F22.c22) (y := F22.c25) (o := .tmp 25) (by kernel_rfl) rfl (fun h25 => ?_) (fun h25 => ?_)
    · skip
      refine run_seq (x := F22.c23) (y := F22.c24) (by kernel_rfl) ?_
      refine run_plain (id := 7) (ops := F22.o7) [(0, true)] (by kernel_rfl) (by kernel_rfl) ?_
      refine yS (by kernel_rfl : opAt F22.o7 0 = some (some 2, .assign (.const (.int .i64 1)), none)) rfl rfl (fun w' hS => val_assign rfl) ?_
      refine Sch.nil ?_
      refine run_ret1 (by kernel_rfl) Try.func22 Try.results22 rfl ?_
      have htl2 := total_le l (i + 1)
      exact ⟨by rw [check_okBs, if_pos (by omega)], hT.out1 (by decide)⟩
    · skip
      have hmn : min ((l[i].ids.length : Nat) : Int) 65 = (l[i].ids.length : Nat) := by omega
      refine run_skip (by kernel_rfl) ?_
      refine run_inBlock ?_
      refine run_plain (id := 4) (ops := F22.o4) [(0, true), (1, true), (2, true)] (by kernel_rfl) (by kernel_rfl) ?_
      refine yS (by kernel_rfl : opAt F22.o4 0 = some (some 13, .move (.tmp 4), none)) rfl rfl (fun w' hS => val_move rfl) ?_
      refine yS (by kernel_rfl : opAt F22.o4 1 = some (some 14, .binOp .add 3 (.tmp 13) (.const (.int .i64 1)) 3, none)) rfl rfl (fun w' hS => val_addi rfl rfl (by omega) (by omega)) ?_
      refine yS (by kernel_rfl : opAt F22.o4 2 = some (some 4, .assign (.tmp 14), none)) rfl rfl (fun w' hS => val_assign rfl) ?_
      refine Sch.nil ?_
      refine kp (sub_cons 0 rfl rfl (sub_cons 3 rfl (eq_int (by simp only; omega)) (sub_cons 4 rfl (eq_int (by simp)) (sub_nil _)))) (next1 (i + 1, C1) _ ⟨(by first | omega | (simp only; omega)), (by simp only; omega), hF, hT, hl⟩ (by first | omega | (simp only; omega)))
  · skip
    obtain rfl : i = l.length := by omega
    rw [List.take_length] at ht
    refine run_exit (id := 0) (by kernel_rfl) rfl ?_
    refine run_seq (x := F22.c28) (y := F22.c29) (by kernel_rfl) ?_
    refine run_plain (id := 8) (ops := F22.o8) [(0, true)] (by kernel_rfl) (by kernel_rfl) ?_
    refine yS (by kernel_rfl : opAt F22.o8 0 = some (some 5, .assign (.const (.slice none 0 0)), none)) rfl rfl (fun w' hS => val_assign rfl) ?_
    refine Sch.nil ?_
    refine run_seq (x := F22.c30) (y := F22.c75) (by kernel_rfl) ?_
    refine run_seq (x := F22.c31) (y := F22.c32) (by kernel_rfl) ?_
    refine run_plain (id := 9) (ops := F22.o9) [(0, true)] (by kernel_rfl) (by kernel_rfl) ?_
    refine yS (by kernel_rfl : opAt F22.o9 0 = some (some 6, .assign (.const (.int .i64 0)), none)) rfl rfl (fun w' hS => val_assign rfl) ?_
    refine Sch.nil ?_
    refine run_block (x := F22.c33) (id := 2) (by kernel_rfl) ?_
    
    refine run_loop (ι := Nat × Value × (Nat → Nat)) (I := fun x w => x.1 ≤ l.length ∧ okBs (flatI (l.take x.1)) (lastH l x.1) (l.drop x.1) = okBs [] none l ∧ Lim w x.2.2 ∧ Stp [2, 3, 4, 5, 6, 7, 8, 9] w₀ (col1 C) w x.2.2 ∧ RV w (Mc x.2.2) l vl ∧ OwnL w x.2.2 3 3 x.2.1 (flatI (l.take x.1))) (e := fun x => [(0, vl), (5, x.2.1), (6, .int .i64 x.1)]) (m := fun x => l.length - x.1) (x₀ := (0, .slice none 0 0, C1)) (body := F22.c34) (by kernel_rfl) (sub_cons 0 rfl rfl (sub_cons 5 rfl rfl (sub_cons 6 rfl rfl (sub_nil _)))) ?_ ?_
    · exact ⟨Nat.zero_le _, rfl, hF, hT, hl, OwnL.nil⟩
    intro ⟨i, va, C2⟩ w2 hI next
    obtain ⟨hi, hv, hF, hT, hl, ho⟩ := hI
    try simp only at hi hv hF hT hl ho
    have next2 := next
    clear next
    show Run _ _ _ _ [(0, vl), (5, va), (6, .int .i64 i)] _ _
    have hle := hl.le
    have hfl := flatI_len (l.take i)
    have htl := total_le l i
    have htn := total_nonneg (l.take i)
    refine run_seq (x := F22.c35) (y := F22.c40) (by kernel_rfl) ?_
    refine run_seq (x := F22.c36) (y := F22.c37) (by kernel_rfl) ?_
    refine run_plain (id := 10) (ops := F22.o10) [(0, true), (1, true), (2, true), (3, true)] (by kernel_rfl) (by kernel_rfl) ?_
    refine yS (by kernel_rfl : opAt F22.o10 0 = some (some 26, .move (.tmp 6), none)) rfl rfl (fun w' hS => val_move rfl) ?_
    refine yS (by kernel_rfl : opAt F22.o10 1 = some (some 27, .move (.tmp 0), none)) rfl rfl (fun w' hS => val_move rfl) ?_
    refine yS (by kernel_rfl : opAt F22.o10 2 = some (some 28, .call { callee := .builtin .len, args := #[(.tmp 27)], argTypes := #[39] }, none)) rfl rfl (fun w' hS => hl.lenV rfl Try.underlying39 w' ) ?_
    refine yS (by kernel_rfl : opAt F22.o10 3 = some (some 29, .binOp .lss 3 (.tmp 26) (.tmp 28) 3, none)) rfl rfl (fun w' hS => val_lss rfl rfl) ?_
    refine Sch.nil ?_
    refine run_if (x := F22.c38) (y := F22.c39) (o := .tmp 29) (by kernel_rfl) rfl (fun h29 => ?_) (fun h29 => ?_)
    · skip
      have hil : i < l.length := by omega
      have hbd := okBs_drop (flatI (l.take i)) (lastH l i) l hil
      have htt := total_take l hil
      have htl2 := total_le l (i + 1)
      refine run_skip (by kernel_rfl) ?_
      refine run_seq (x := F22.c41) (y := F22.c74) (by kernel_rfl) ?_
      refine run_block (x := F22.c42) (id := 3) (by kernel_rfl) ?_
      refine run_seq (x := F22.c43) (y := F22.c50) (by kernel_rfl) ?_
      refine run_seq (x := F22.c44) (y := F22.c45) (by kernel_rfl) ?_
      refine run_cut 56 (badB (lastH l i) (l[i])) (C2) ?_ ?_
      · intro hcut
        by_cases hA : (0 : Int) < i
        · skip
          by_cases hB : (l[i]).hash ≤ (l[i - 1]).hash
          · skip
            refine run_draw (id := 12) (ops := F22.o12) [] (C2) [(0, true), (1, true), (2, true), (3, true), (4, true), (5, true), (6, true), (7, true), (8, true), (9, true), (10, true), (11, true), (12, true), (13, true), (14, true), (15, true), (16, true), (17, true), (18, true), (19, true), (20, true), (21, true), (22, true), (23, true), (24, true)] Try_mixed (by kernel_rfl) (by kernel_rfl) (by kernel_rfl) ?_
            intro w3 hs
            replace hF := hF.st hs
            replace hT := hT.trans hs (by simp)
            replace hl := hl.st hs (by first | decide | (simp <;> omega))
            replace ho := ho.st hs (by first | decide | (simp <;> omega)) (by first | decide | (simp <;> omega))
            have hcs := hs
            refine yS (by kernel_rfl : opAt F22.o12 0 = some (some 32, .move (.tmp 6), none)) rfl rfl (fun w' hS => val_move rfl) ?_
            refine yS (by kernel_rfl : opAt F22.o12 1 = some (some 33, .binOp .gtr 3 (.tmp 32) (.const (.int .i64 0)) 3, none)) rfl rfl (fun w' hS => val_T (val_gtr rfl rfl) hA) ?_
            refine yS (by kernel_rfl : opAt F22.o12 2 = some (some 34, .move (.tmp 33), none)) rfl rfl (fun w' hS => val_move rfl) ?_
            refine yS (by kernel_rfl : opAt F22.o12 3 = some (some 35, .move (.tmp 0), (some (2, true)))) rfl rfl (fun w' hS => val_move rfl) ?_
            refine yS (by kernel_rfl : opAt F22.o12 4 = some (some 36, .move (.tmp 6), (some (2, true)))) rfl rfl (fun w' hS => val_move rfl) ?_
            refine iS (e := 44) (by kernel_rfl : opAt F22.o12 5 = some (some 37, .indexAddr 39 (.tmp 35) (.tmp 36), (some (2, true)))) rfl rfl hl rfl (by kernel_rfl) rfl (by omega) (by omega) ?_
            intro b37 o37 h37
            try simp only [Int.toNat_natCast] at h37
            have h38 := RA.hash h37
            refine yS (by kernel_rfl : opAt F22.o12 6 = some (some 38, .fieldAddr 44 (.tmp 37) 0, (some (2, true)))) rfl rfl (fun w' hS => val_fieldAddr (off := 0) (by kernel_rfl) rfl) ?_
            refine lS (by kernel_rfl : opAt F22.o12 7 = some (some 39, .load 42 (.tmp 38), (some (2, true)))) rfl rfl (fun w' hS => h38.stay hS (by first | decide | (simp <;> omega))) h38 (by kernel_rfl) rfl rfl ?_
            intro v39 g39
            obtain rfl := rv_num.1 g39
            refine yS (by kernel_rfl : opAt F22.o12 8 = some (some 40, .move (.tmp 0), (some (2, true)))) rfl rfl (fun w' hS => val_move rfl) ?_
            refine yS (by kernel_rfl : opAt F22.o12 9 = some (some 41, .move (.tmp 6), (some (2, true)))) rfl rfl (fun w' hS => val_move rfl) ?_
            refine yS (by kernel_rfl : opAt F22.o12 10 = some (some 42, .binOp .sub 3 (.tmp 41) (.const (.int .i64 1)) 3, (some (2, true)))) rfl rfl (fun w' hS => val_subi rfl rfl (by omega) (by omega)) ?_
            refine iS (e := 44) (by kernel_rfl : opAt F22.o12 11 = some (some 43, .indexAddr 39 (.tmp 40) (.tmp 42), (some (2, true)))) rfl rfl hl rfl (by kernel_rfl) rfl (by omega) (by omega) ?_
            intro b43 o43 h43
            try simp only [Int.toNat_natCast] at h43
            simp only [show ((i : Int) - 1).toNat = i - 1 from by omega] at h43
            have h44 := RA.hash h43
            refine yS (by kernel_rfl : opAt F22.o12 12 = some (some 44, .fieldAddr 44 (.tmp 43) 0, (some (2, true)))) rfl rfl (fun w' hS => val_fieldAddr (off := 0) (by kernel_rfl) rfl) ?_
            refine lS (by kernel_rfl : opAt F22.o12 13 = some (some 45, .load 42 (.tmp 44), (some (2, true)))) rfl rfl (fun w' hS => h44.stay hS (by first | decide | (simp <;> omega))) h44 (by kernel_rfl) rfl rfl ?_
            intro v45 g45
            obtain rfl := rv_num.1 g45
            refine yS (by kernel_rfl : opAt F22.o12 14 = some (some 46, .binOp .leq 42 (.tmp 39) (.tmp 45) 42, (some (2, true)))) rfl rfl (fun w' hS => val_T (val_leq rfl rfl) hB) ?_
            refine yS (by kernel_rfl : opAt F22.o12 15 = some (some 47, .pick (.tmp 34) (.tmp 46) (.const (.bool false)), none)) rfl rfl (fun w' hS => val_pick_t rfl rfl) ?_
            refine yS (by kernel_rfl : opAt F22.o12 16 = some (some 48, .move (.tmp 47), none)) rfl rfl (fun w' hS => val_move rfl) ?_
            refine pS (by kernel_rfl : opAt F22.o12 17 = some (some 49, .move (.tmp 0), (some (16, false)))) rfl rfl ?_
            refine pS (by kernel_rfl : opAt F22.o12 18 = some (some 50, .move (.tmp 6), (some (16, false)))) rfl rfl ?_
            refine pS (by kernel_rfl : opAt F22.o12 19 = some (some 51, .indexAddr 39 (.tmp 49) (.tmp 50), (some (16, false)))) rfl rfl ?_
            refine pS (by kernel_rfl : opAt F22.o12 20 = some (some 52, .fieldAddr 44 (.tmp 51) 1, (some (16, false)))) rfl rfl ?_
            refine pS (by kernel_rfl : opAt F22.o12 21 = some (some 53, .load 22 (.tmp 52), (some (16, false)))) rfl rfl ?_
            refine pS (by kernel_rfl : opAt F22.o12 22 = some (some 54, .call { callee := .builtin .len, args := #[(.tmp 53)], argTypes := #[22] }, (some (16, false)))) rfl rfl ?_
            refine pS (by kernel_rfl : opAt F22.o12 23 = some (some 55, .binOp .eql 3 (.tmp 54) (.const (.int .i64 0)) 3, (some (16, false)))) rfl rfl ?_
            refine yS (by kernel_rfl : opAt F22.o12 24 = some (some 56, .pick (.tmp 48) (.const (.bool true)) (.tmp 55), none)) rfl rfl (fun w' hS => val_pick_t rfl rfl) ?_
            exact Sch.nil (hcut _ _ _ hcs rfl (by rw [lastH_pos l (by omega) hi]; simp [badB, overB, hB]) (sub_skip rfl (sub_skip rfl (sub_skip rfl (sub_skip rfl (sub_skip rfl (sub_skip rfl (sub_skip rfl (sub_skip rfl (sub_skip rfl (sub_skip rfl (sub_skip rfl (sub_skip rfl (sub_skip rfl (sub_skip rfl (sub_skip rfl (sub_skip rfl (sub_skip rfl (sub_skip rfl (sub_skip rfl (sub_skip rfl (sub_skip rfl (sub_skip rfl (sub_skip rfl (sub_skip rfl (sub_skip rfl (Sub.refl _)))))))))))))))))))))))))))
          · skip
            refine run_draw (id := 12) (ops := F22.o12) [] (C2) [(0, true), (1, true), (2, true), (3, true), (4, true), (5, true), (6, true), (7, true), (8, true), (9, true), (10, true), (11, true), (12, true), (13, true), (14, true), (15, true), (16, true), (17, true), (18, true), (19, true), (20, true), (21, true), (22, true), (23, true), (24, true)] Try_mixed (by kernel_rfl) (by kernel_rfl) (by kernel_rfl) ?_
            intro w4 hs
            replace hF := hF.st hs
            replace hT := hT.trans hs (by simp)
            replace hl := hl.st hs (by first | decide | (simp <;> omega))
            replace ho := ho.st hs (by first | decide | (simp <;> omega)) (by first | decide | (simp <;> omega))
            have hcs := hs
            refine yS (by kernel_rfl : opAt F22.o12 0 = some (some 32, .move (.tmp 6), none)) rfl rfl (fun w' hS => val_move rfl) ?_
            refine yS (by kernel_rfl : opAt F22.o12 1 = some (some 33, .binOp .gtr 3 (.tmp 32) (.const (.int .i64 0)) 3, none)) rfl rfl (fun w' hS => val_T (val_gtr rfl rfl) hA) ?_
            refine yS (by kernel_rfl : opAt F22.o12 2 = some (some 34, .move (.tmp 33), none)) rfl rfl (fun w' hS => val_move rfl) ?_
            refine yS (by kernel_rfl : opAt F22.o12 3 = some (some 35, .move (.tmp 0), (some (2, true)))) rfl rfl (fun w' hS => val_move rfl) ?_
            refine yS (by kernel_rfl : opAt F22.o12 4 = some (some 36, .move (.tmp 6), (some (2, true)))) rfl rfl (fun w' hS => val_move rfl) ?_
            refine iS (e := 44) (by kernel_rfl : opAt F22.o12 5 = some (some 37, .indexAddr 39 (.tmp 35) (.tmp 36), (some (2, true)))) rfl rfl hl rfl (by kernel_rfl) rfl (by omega) (by omega) ?_
            intro b37 o37 h37
            try simp only [Int.toNat_natCast] at h37
            have h38 := RA.hash h37
            refine yS (by kernel_rfl : opAt F22.o12 6 = some (some 38, .fieldAddr 44 (.tmp 37) 0, (some (2, true)))) rfl rfl (fun w' hS => val_fieldAddr (off := 0) (by kernel_rfl) rfl) ?_
            refine lS (by kernel_rfl : opAt F22.o12 7 = some (some 39, .load 42 (.tmp 38), (some (2, true)))) rfl rfl (fun w' hS => h38.stay hS (by first | decide | (simp <;> omega))) h38 (by kernel_rfl) rfl rfl ?_
            intro v39 g39
            obtain rfl := rv_num.1 g39
            refine yS (by kernel_rfl : opAt F22.o12 8 = some (some 40, .move (.tmp 0), (some (2, true)))) rfl rfl (fun w' hS => val_move rfl) ?_
            refine yS (by kernel_rfl : opAt F22.o12 9 = some (some 41, .move (.tmp 6), (some (2, true)))) rfl rfl (fun w' hS => val_move rfl) ?_
            refine yS (by kernel_rfl : opAt F22.o12 10 = some (some 42, .binOp .sub 3 (.tmp 41) (.const (.int .i64 1)) 3, (some (2, true)))) rfl rfl (fun w' hS => val_subi rfl rfl (by omega) (by omega)) ?_
            refine iS (e := 44) (by kernel_rfl : opAt F22.o12 11 = some (some 43, .indexAddr 39 (.tmp 40) (.tmp 42), (some (2, true)))) rfl rfl hl rfl (by kernel_rfl) rfl (by omega) (by omega) ?_
            intro b43 o43 h43
            try simp only [Int.toNat_natCast] at h43
            simp only [show ((i : Int) - 1).toNat = i - 1 from by omega] at h43
            have h44 := RA.hash h43
            refine yS (by kernel_rfl : opAt F22.o12 12 = some (some 44, .fieldAddr 44 (.tmp 43) 0, (some (2, true)))) rfl rfl (fun w' hS => val_fieldAddr (off := 0) (by kernel_rfl) rfl) ?_
            refine lS (by kernel_rfl : opAt F22.o12 13 = some (some 45, .load 42 (.tmp 44), (some (2, true)))) rfl rfl (fun w' hS => h44.stay hS (by first | decide | (simp <;> omega))) h44 (by kernel_rfl) rfl rfl ?_
            intro v45 g45
            obtain rfl := rv_num.1 g45
            refine yS (by kernel_rfl : opAt F22.o12 14 = some (some 46, .binOp .leq 42 (.tmp 39) (.tmp 45) 42, (some (2, true)))) rfl rfl (fun w' hS => val_F (val_leq rfl rfl) hB) ?_
            refine yS (by kernel_rfl : opAt F22.o12 15 = some (some 47, .pick (.tmp 34) (.tmp 46) (.const (.bool false)), none)) rfl rfl (fun w' hS => val_pick_t rfl rfl) ?_
            refine yS (by kernel_rfl : opAt F22.o12 16 = some (some 48, .move (.tmp 47), none)) rfl rfl (fun w' hS => val_move rfl) ?_
            refine yS (by kernel_rfl : opAt F22.o12 17 = some (some 49, .move (.tmp 0), (some (16, false)))) rfl rfl (fun w' hS => val_move rfl) ?_
            refine yS (by kernel_rfl : opAt F22.o12 18 = some (some 50, .move (.tmp 6), (some (16, false)))) rfl rfl (fun w' hS => val_move rfl) ?_
            refine iS (e := 44) (by kernel_rfl : opAt F22.o12 19 = some (some 51, .indexAddr 39 (.tmp 49) (.tmp 50), (some (16, false)))) rfl rfl hl rfl (by kernel_rfl) rfl (by omega) (by omega) ?_
            intro b51 o51 h51
            try simp only [Int.toNat_natCast] at h51
            have h52 := RA.ids h51
            refine yS (by kernel_rfl : opAt F22.o12 20 = some (some 52, .fieldAddr 44 (.tmp 51) 1, (some (16, false)))) rfl rfl (fun w' hS => val_fieldAddr (off := 1) (by kernel_rfl) rfl) ?_
            refine lS (by kernel_rfl : opAt F22.o12 21 = some (some 53, .load 22 (.tmp 52), (some (16, false)))) rfl rfl (fun w' hS => h52.stay hS (by first | decide | (simp <;> omega))) h52 (by kernel_rfl) rfl rfl ?_
            intro v53 g53
            refine yS (by kernel_rfl : opAt F22.o12 22 = some (some 54, .call { callee := .builtin .len, args := #[(.tmp 53)], argTypes := #[22] }, (some (16, false)))) rfl rfl (fun w' hS => g53.lenV rfl Try.underlying22 w' ) ?_
            refine yS (by kernel_rfl : opAt F22.o12 23 = some (some 55, .binOp .eql 3 (.tmp 54) (.const (.int .i64 0)) 3, (some (16, false)))) rfl rfl (fun w' hS => val_eql rfl rfl) ?_
            refine yS (by kernel_rfl : opAt F22.o12 24 = some (some 56, .pick (.tmp 48) (.const (.bool true)) (.tmp 55), none)) rfl rfl (fun w' hS => val_pick_f rfl rfl) ?_
            exact Sch.nil (hcut _ _ _ hcs rfl (by rw [lastH_pos l (by omega) hi]; simp [badB, overB, hB]) (sub_skip rfl (sub_skip rfl (sub_skip rfl (sub_skip rfl (sub_skip rfl (sub_skip rfl (sub_skip rfl (sub_skip rfl (sub_skip rfl (sub_skip rfl (sub_skip rfl (sub_skip rfl (sub_skip rfl (sub_skip rfl (sub_skip rfl (sub_skip rfl (sub_skip rfl (sub_skip rfl (sub_skip rfl (sub_skip rfl (sub_skip rfl (sub_skip rfl (sub_skip rfl (sub_skip rfl (sub_skip rfl (Sub.refl _)))))))))))))))))))))))))))
        · skip
          refine run_draw (id := 12) (ops := F22.o12) [] (C2) [(0, true), (1, true), (2, true), (3, true), (4, true), (5, true), (6, true), (7, true), (8, true), (9, true), (10, true), (11, true), (12, true), (13, true), (14, true), (15, true), (16, true), (17, true), (18, true), (19, true), (20, true), (21, true), (22, true), (23, true), (24, true)] Try_mixed (by kernel_rfl) (by kernel_rfl) (by kernel_rfl) ?_
          intro w5 hs
          replace hF := hF.st hs
          replace hT := hT.trans hs (by simp)
          replace hl := hl.st hs (by first | decide | (simp <;> omega))
          replace ho := ho.st hs (by first | decide | (simp <;> omega)) (by first | decide | (simp <;> omega))
          have hcs := hs
          refine yS (by kernel_rfl : opAt F22.o12 0 = some (some 32, .move (.tmp 6), none)) rfl rfl (fun w' hS => val_move rfl) ?_
          refine yS (by kernel_rfl : opAt F22.o12 1 = some (some 33, .binOp .gtr 3 (.tmp 32) (.const (.int .i64 0)) 3, none)) rfl rfl (fun w' hS => val_F (val_gtr rfl rfl) hA) ?_
          refine yS (by kernel_rfl : opAt F22.o12 2 = some (some 34, .move (.tmp 33), none)) rfl rfl (fun w' hS => val_move rfl) ?_
          refine pS (by kernel_rfl : opAt F22.o12 3 = some (some 35, .move (.tmp 0), (some (2, true)))) rfl rfl ?_
          refine pS (by kernel_rfl : opAt F22.o12 4 = some (some 36, .move (.tmp 6), (some (2, true)))) rfl rfl ?_
          refine pS (by kernel_rfl : opAt F22.o12 5 = some (some 37, .indexAddr 39 (.tmp 35) (.tmp 36), (some (2, true)))) rfl rfl ?_
          refine pS (by kernel_rfl : opAt F22.o12 6 = some (some 38, .fieldAddr 44 (.tmp 37) 0, (some (2, true)))) rfl rfl ?_
          refine pS (by kernel_rfl : opAt F22.o12 7 = some (some 39, .load 42 (.tmp 38), (some (2, true)))) rfl rfl ?_
          refine pS (by kernel_rfl : opAt F22.o12 8 = some (some 40, .move (.tmp 0), (some (2, true)))) rfl rfl ?_
          refine pS (by kernel_rfl : opAt F22.o12 9 = some (some 41, .move (.tmp 6), (some (2, true)))) rfl rfl ?_
          refine pS (by kernel_rfl : opAt F22.o12 10 = some (some 42, .binOp .sub 3 (.tmp 41) (.const (.int .i64 1)) 3, (some (2, true)))) rfl rfl ?_
          refine pS (by kernel_rfl : opAt F22.o12 11 = some (some 43, .indexAddr 39 (.tmp 40) (.tmp 42), (some (2, true)))) rfl rfl ?_
          refine pS (by kernel_rfl : opAt F22.o12 12 = some (some 44, .fieldAddr 44 (.tmp 43) 0, (some (2, true)))) rfl rfl ?_
          refine pS (by kernel_rfl : opAt F22.o12 13 = some (some 45, .load 42 (.tmp 44), (some (2, true)))) rfl rfl ?_
          refine pS (by kernel_rfl : opAt F22.o12 14 = some (some 46, .binOp .leq 42 (.tmp 39) (.tmp 45) 42, (some (2, true)))) rfl rfl ?_
          refine yS (by kernel_rfl : opAt F22.o12 15 = some (some 47, .pick (.tmp 34) (.tmp 46) (.const (.bool false)), none)) rfl rfl (fun w' hS => val_pick_f rfl rfl) ?_
          refine yS (by kernel_rfl : opAt F22.o12 16 = some (some 48, .move (.tmp 47), none)) rfl rfl (fun w' hS => val_move rfl) ?_
          refine yS (by kernel_rfl : opAt F22.o12 17 = some (some 49, .move (.tmp 0), (some (16, false)))) rfl rfl (fun w' hS => val_move rfl) ?_
          refine yS (by kernel_rfl : opAt F22.o12 18 = some (some 50, .move (.tmp 6), (some (16, false)))) rfl rfl (fun w' hS => val_move rfl) ?_
          refine iS (e := 44) (by kernel_rfl : opAt F22.o12 19 = some (some 51, .indexAddr 39 (.tmp 49) (.tmp 50), (some (16, false)))) rfl rfl hl rfl (by kernel_rfl) rfl (by omega) (by omega) ?_
          intro b51 o51 h51
          try simp only [Int.toNat_natCast] at h51
          have h52 := RA.ids h51
          refine yS (by kernel_rfl : opAt F22.o12 20 = some (some 52, .fieldAddr 44 (.tmp 51) 1, (some (16, false)))) rfl rfl (fun w' hS => val_fieldAddr (off := 1) (by kernel_rfl) rfl) ?_
          refine lS (by kernel_rfl : opAt F22.o12 21 = some (some 53, .load 22 (.tmp 52), (some (16, false)))) rfl rfl (fun w' hS => h52.stay hS (by first | decide | (simp <;> omega))) h52 (by kernel_rfl) rfl rfl ?_
          intro v53 g53
          refine yS (by kernel_rfl : opAt F22.o12 22 = some (some 54, .call { callee := .builtin .len, args := #[(.tmp 53)], argTypes := #[22] }, (some (16, false)))) rfl rfl (fun w' hS => g53.lenV rfl Try.underlying22 w' ) ?_
          refine yS (by kernel_rfl : opAt F22.o12 23 = some (some 55, .binOp .eql 3 (.tmp 54) (.const (.int .i64 0)) 3, (some (16, false)))) rfl rfl (fun w' hS => val_eql rfl rfl) ?_
          refine yS (by kernel_rfl : opAt F22.o12 24 = some (some 56, .pick (.tmp 48) (.const (.bool true)) (.tmp 55), none)) rfl rfl (fun w' hS => val_pick_f rfl rfl) ?_
          exact Sch.nil (hcut _ _ _ hcs rfl (by (obtain rfl : i = 0 := by omega); simp [badB, overB, lastH]) (sub_skip rfl (sub_skip rfl (sub_skip rfl (sub_skip rfl (sub_skip rfl (sub_skip rfl (sub_skip rfl (sub_skip rfl (sub_skip rfl (sub_skip rfl (sub_skip rfl (sub_skip rfl (sub_skip rfl (sub_skip rfl (sub_skip rfl (sub_skip rfl (sub_skip rfl (sub_skip rfl (sub_skip rfl (sub_skip rfl (sub_skip rfl (sub_skip rfl (sub_skip rfl (sub_skip rfl (sub_skip rfl (Sub.refl _)))))))))))))))))))))))))))
      intro w6 hs
      replace hF := hF.st hs
      replace hT := hT.trans hs (by simp)
      replace hl := hl.st hs (by first | decide | (simp <;> omega))
      replace ho := ho.st hs (by first | decide | (simp <;> omega)) (by first | decide | (simp <;> omega))
      refine run_cond (x := F22.c46) (y := F22.c49) (o := .tmp 56) (by kernel_rfl) rfl (fun h56 => ?_) (fun h56 => ?_)
      · skip
        rw [h56] at hbd
        refine run_seq (x := F22.c47) (y := F22.c48) (by kernel_rfl) ?_
        refine run_plain (id := 13) (ops := F22.o13) [(0, true)] (by kernel_rfl) (by kernel_rfl) ?_
        refine yS (by kernel_rfl : opAt F22.o13 0 = some (some 2, .assign (.const (.int .i64 12)), none)) rfl rfl (fun w' hS => val_assign rfl) ?_
        refine Sch.nil ?_
        refine run_ret1 (by kernel_rfl) Try.func22 Try.results22 rfl ?_
        rw [hbd] at hv
        exact ⟨by rw [check_okBs, if_neg (by omega), ← hv]; rfl, hT.out1 (by decide)⟩
      · skip
        rw [h56] at hbd
        refine run_skip (by kernel_rfl) ?_
        refine run_seq (x := F22.c51) (y := F22.c73) (by kernel_rfl) ?_
        refine run_seq (x := F22.c52) (y := F22.c53) (by kernel_rfl) ?_
        refine run_plain (id := 14) (ops := F22.o14) [(0, true)] (by kernel_rfl) (by kernel_rfl) ?_
        refine yS (by kernel_rfl : opAt F22.o14 0 = some (some 7, .assign (.const (.int .i64 0)), none)) rfl rfl (fun w' hS => val_assign rfl) ?_
        refine Sch.nil ?_
        refine run_block (x := F22.c54) (id := 4) (by kernel_rfl) ?_
        
        refine run_loop (ι := Nat × (Nat → Nat)) (I := fun x w => x.1 ≤ l[i].ids.length ∧ okIds (flatI (l.take i)) (lastI l[i].ids x.1) (l[i].ids.drop x.1) = okIds (flatI (l.take i)) none l[i].ids ∧ Lim w x.2 ∧ Stp [2, 3, 4, 5, 6, 7, 8, 9] w₀ (col1 C) w x.2 ∧ RV w (Mc x.2) l vl ∧ OwnL w x.2 3 3 va (flatI (l.take i))) (e := fun x => [(0, vl), (5, va), (6, .int .i64 i), (7, .int .i64 x.1)]) (m := fun x => l[i].ids.length - x.1) (x₀ := (0, C2)) (body := F22.c55) (by kernel_rfl) (sub_cons 0 rfl rfl (sub_cons 5 rfl rfl (sub_cons 6 rfl rfl (sub_cons 7 rfl rfl (sub_nil _))))) ?_ ?_
        · exact ⟨Nat.zero_le _, rfl, hF, hT, hl, ho⟩
        intro ⟨k, C3⟩ w7 hI next
        obtain ⟨hk, hok, hF, hT, hl, ho⟩ := hI
        try simp only at hk hok hF hT hl ho
        have next3 := next
        clear next
        show Run _ _ _ _ [(0, vl), (5, va), (6, .int .i64 i), (7, .int .i64 k)] _ _
        refine run_seq (x := F22.c56) (y := F22.c61) (by kernel_rfl) ?_
        refine run_seq (x := F22.c57) (y := F22.c58) (by kernel_rfl) ?_
        refine run_plain (id := 15) (ops := F22.o15) [(0, true), (1, true), (2, true), (3, true), (4, true), (5, false), (6, true), (7, true)] (by kernel_rfl) (by kernel_rfl) ?_
        refine yS (by kernel_rfl : opAt F22.o15 0 = some (some 57, .move (.tmp 7), none)) rfl rfl (fun w' hS => val_move rfl) ?_
        refine yS (by kernel_rfl : opAt F22.o15 1 = some (some 58, .move (.tmp 0), none)) rfl rfl (fun w' hS => val_move rfl) ?_
        refine yS (by kernel_rfl : opAt F22.o15 2 = some (some 59, .move (.tmp 6), none)) rfl rfl (fun w' hS => val_move rfl) ?_
        refine iS (e := 44) (by kernel_rfl : opAt F22.o15 3 = some (some 60, .indexAddr 39 (.tmp 58) (.tmp 59), none)) rfl rfl hl rfl (by kernel_rfl) rfl (by omega) (by omega) ?_
        intro b60 o60 h60
        try simp only [Int.toNat_natCast] at h60
        have h61 := RA.ids h60
        refine yS (by kernel_rfl : opAt F22.o15 4 = some (some 61, .fieldAddr 44 (.tmp 60) 1, none)) rfl rfl (fun w' hS => val_fieldAddr (off := 1) (by kernel_rfl) rfl) ?_
        refine lN (by kernel_rfl : opAt F22.o15 5 = some (some 62, .load 22 (.tmp 61), none)) rfl rfl trivial h61 (by kernel_rfl) rfl rfl ?_
        intro v62 g62
        refine yS (by kernel_rfl : opAt F22.o15 6 = some (some 63, .call { callee := .builtin .len, args := #[(.tmp 62)], argTypes := #[22] }, none)) rfl rfl (fun w' hS => g62.lenV rfl Try.underlying22 w' ) ?_
        refine yS (by kernel_rfl : opAt F22.o15 7 = some (some 64, .binOp .lss 3 (.tmp 57) (.tmp 63) 3, none)) rfl rfl (fun w' hS => val_lss rfl rfl) ?_
        refine Sch.nil ?_
        refine run_if (x := F22.c59) (y := F22.c60) (o := .tmp 64) (by kernel_rfl) rfl (fun h64 => ?_) (fun h64 => ?_)
        · skip
          have hkl : k < l[i].ids.length := by omega
          have hid := okIds_drop (flatI (l.take i)) (lastI l[i].ids k) l[i].ids hkl
          refine run_skip (by kernel_rfl) ?_
          refine run_seq (x := F22.c62) (y := F22.c72) (by kernel_rfl) ?_
          refine run_block (x := F22.c63) (id := 5) (by kernel_rfl) ?_
          refine run_seq (x := F22.c64) (y := F22.c65) (by kernel_rfl) ?_
          refine run_plain (id := 17) (ops := F22.o17) [(0, true), (1, true), (2, true), (3, true), (4, false), (5, true), (6, true), (7, false), (8, true)] (by kernel_rfl) (by kernel_rfl) ?_
          refine yS (by kernel_rfl : opAt F22.o17 0 = some (some 67, .move (.tmp 0), none)) rfl rfl (fun w' hS => val_move rfl) ?_
          refine yS (by kernel_rfl : opAt F22.o17 1 = some (some 68, .move (.tmp 6), none)) rfl rfl (fun w' hS => val_move rfl) ?_
          refine iS (e := 44) (by kernel_rfl : opAt F22.o17 2 = some (some 69, .indexAddr 39 (.tmp 67) (.tmp 68), none)) rfl rfl hl rfl (by kernel_rfl) rfl (by omega) (by omega) ?_
          intro b69 o69 h69
          try simp only [Int.toNat_natCast] at h69
          have h70 := RA.ids h69
          refine yS (by kernel_rfl : opAt F22.o17 3 = some (some 70, .fieldAddr 44 (.tmp 69) 1, none)) rfl rfl (fun w' hS => val_fieldAddr (off := 1) (by kernel_rfl) rfl) ?_
          refine lN (by kernel_rfl : opAt F22.o17 4 = some (some 71, .load 22 (.tmp 70), none)) rfl rfl trivial h70 (by kernel_rfl) rfl rfl ?_
          intro v71 g71
          refine yS (by kernel_rfl : opAt F22.o17 5 = some (some 72, .move (.tmp 7), none)) rfl rfl (fun w' hS => val_move rfl) ?_
          refine iS (e := 3) (by kernel_rfl : opAt F22.o17 6 = some (some 73, .indexAddr 22 (.tmp 71) (.tmp 72), none)) rfl rfl g71 rfl (by kernel_rfl) rfl (by omega) (by omega) ?_
          intro b73 o73 h73
          try simp only [Int.toNat_natCast] at h73
          refine lN (by kernel_rfl : opAt F22.o17 7 = some (some 74, .load 3 (.tmp 73), none)) rfl rfl trivial h73 (by kernel_rfl) rfl rfl ?_
          intro v74 g74
          first | (obtain rfl := rv_nat.1 g74) | (obtain rfl := rv_int.1 g74)
          refine yS (by kernel_rfl : opAt F22.o17 8 = some (some 8, .assign (.tmp 74), none)) rfl rfl (fun w' hS => val_assign rfl) ?_
          refine Sch.nil ?_
          refine run_seq (x := F22.c66) (y := F22.c67) (by kernel_rfl) ?_
          refine run_cut 102 (!okId (flatI (l.take i)) (lastI l[i].ids k) l[i].ids[k]) (C3) ?_ ?_
          · intro hcut
            by_cases hA : l[i].ids[k] < 1
            · skip
              refine run_plain (id := 18) (ops := F22.o18) [(0, true), (1, true), (2, true), (3, true), (4, true), (5, true), (6, true), (7, true), (8, true), (9, true), (10, true), (11, true), (12, true), (13, true), (14, true), (15, false), (16, true), (17, true), (18, true), (19, false), (20, true), (21, true), (22, true), (23, true), (24, true), (25, true), (26, false), (27, true)] (by kernel_rfl) (by kernel_rfl) ?_
              have hcs := Stp.reflF hF
              refine yS (by kernel_rfl : opAt F22.o18 0 = some (some 75, .move (.tmp 8), none)) rfl rfl (fun w' hS => val_move rfl) ?_
              refine yS (by kernel_rfl : opAt F22.o18 1 = some (some 76, .binOp .lss 3 (.tmp 75) (.const (.int .i64 1)) 3, none)) rfl rfl (fun w' hS => val_T (val_lss rfl rfl) hA) ?_
              refine yS (by kernel_rfl : opAt F22.o18 2 = some (some 77, .move (.tmp 76), none)) rfl rfl (fun w' hS => val_move rfl) ?_
              refine pS (by kernel_rfl : opAt F22.o18 3 = some (some 78, .move (.tmp 8), (some (2, false)))) rfl rfl ?_
              refine pS (by kernel_rfl : opAt F22.o18 4 = some (some 79, .binOp .gtr 3 (.tmp 78) (.const (.int .i64 1048576)) 3, (some (2, false)))) rfl rfl ?_
              refine yS (by kernel_rfl : opAt F22.o18 5 = some (some 80, .pick (.tmp 77) (.const (.bool true)) (.tmp 79), none)) rfl rfl (fun w' hS => val_pick_t rfl rfl) ?_
              refine yS (by kernel_rfl : opAt F22.o18 6 = some (some 81, .move (.tmp 80), none)) rfl rfl (fun w' hS => val_move rfl) ?_
              refine pS (by kernel_rfl : opAt F22.o18 7 = some (some 82, .move (.tmp 7), (some (6, false)))) rfl rfl ?_
              refine pS (by kernel_rfl : opAt F22.o18 8 = some (some 83, .binOp .gtr 3 (.tmp 82) (.const (.int .i64 0)) 3, (some (6, false)))) rfl rfl ?_
              refine pS (by kernel_rfl : opAt F22.o18 9 = some (some 84, .move (.tmp 83), (some (6, false)))) rfl rfl ?_
              refine pS (by kernel_rfl : opAt F22.o18 10 = some (some 85, .move (.tmp 8), (some (9, true)))) rfl rfl ?_
              refine pS (by kernel_rfl : opAt F22.o18 11 = some (some 86, .move (.tmp 0), (some (9, true)))) rfl rfl ?_
              refine pS (by kernel_rfl : opAt F22.o18 12 = some (some 87, .move (.tmp 6), (some (9, true)))) rfl rfl ?_
              refine pS (by kernel_rfl : opAt F22.o18 13 = some (some 88, .indexAddr 39 (.tmp 86) (.tmp 87), (some (9, true)))) rfl rfl ?_
              refine pS (by kernel_rfl : opAt F22.o18 14 = some (some 89, .fieldAddr 44 (.tmp 88) 1, (some (9, true)))) rfl rfl ?_
              refine pW (by kernel_rfl : opAt F22.o18 15 = some (some 90, .load 22 (.tmp 89), (some (9, true)))) rfl rfl trivial ?_
              refine pS (by kernel_rfl : opAt F22.o18 16 = some (some 91, .move (.tmp 7), (some (9, true)))) rfl rfl ?_
              refine pS (by kernel_rfl : opAt F22.o18 17 = some (some 92, .binOp .sub 3 (.tmp 91) (.const (.int .i64 1)) 3, (some (9, true)))) rfl rfl ?_
              refine pS (by kernel_rfl : opAt F22.o18 18 = some (some 93, .indexAddr 22 (.tmp 90) (.tmp 92), (some (9, true)))) rfl rfl ?_
              refine pW (by kernel_rfl : opAt F22.o18 19 = some (some 94, .load 3 (.tmp 93), (some (9, true)))) rfl rfl trivial ?_
              refine pS (by kernel_rfl : opAt F22.o18 20 = some (some 95, .binOp .leq 3 (.tmp 85) (.tmp 94) 3, (some (9, true)))) rfl rfl ?_
              refine pS (by kernel_rfl : opAt F22.o18 21 = some (some 96, .pick (.tmp 84) (.tmp 95) (.const (.bool false)), (some (6, false)))) rfl rfl ?_
              refine yS (by kernel_rfl : opAt F22.o18 22 = some (some 97, .pick (.tmp 81) (.const (.bool true)) (.tmp 96), none)) rfl rfl (fun w' hS => val_pick_t rfl rfl) ?_
              refine yS (by kernel_rfl : opAt F22.o18 23 = some (some 98, .move (.tmp 97), none)) rfl rfl (fun w' hS => val_move rfl) ?_
              refine pS (by kernel_rfl : opAt F22.o18 24 = some (some 99, .move (.tmp 5), (some (23, false)))) rfl rfl ?_
              refine pS (by kernel_rfl : opAt F22.o18 25 = some (some 100, .move (.tmp 8), (some (23, false)))) rfl rfl ?_
              refine pW (by kernel_rfl : opAt F22.o18 26 = some (some 101, .call { callee := .value (.func 37), args := #[(.tmp 99), (.tmp 100)], argTypes := #[22, 3] }, (some (23, false)))) rfl rfl trivial ?_
              refine yS (by kernel_rfl : opAt F22.o18 27 = some (some 102, .pick (.tmp 98) (.const (.bool true)) (.tmp 101), none)) rfl rfl (fun w' hS => val_pick_t rfl rfl) ?_
              exact Sch.nil (hcut _ _ _ hcs rfl (by simp [okId, hA]) (sub_skip rfl (sub_skip rfl (sub_skip rfl (sub_skip rfl (sub_skip rfl (sub_skip rfl (sub_skip rfl (sub_skip rfl (sub_skip rfl (sub_skip rfl (sub_skip rfl (sub_skip rfl (sub_skip rfl (sub_skip rfl (sub_skip rfl (sub_skip rfl (sub_skip rfl (sub_skip rfl (sub_skip rfl (sub_skip rfl (sub_skip rfl (sub_skip rfl (sub_skip rfl (sub_skip rfl (sub_skip rfl (sub_skip rfl (sub_skip rfl (sub_skip rfl (Sub.refl _))))))))))))))))))))))))))))))
            · skip
              by_cases hB : 1048576 < l[i].ids[k]
              · skip
                refine run_plain (id := 18) (ops := F22.o18) [(0, true), (1, true), (2, true), (3, true), (4, true), (5, true), (6, true), (7, true), (8, true), (9, true), (10, true), (11, true), (12, true), (13, true), (14, true), (15, false), (16, true), (17, true), (18, true), (19, false), (20, true), (21, true), (22, true), (23, true), (24, true), (25, true), (26, false), (27, true)] (by kernel_rfl) (by kernel_rfl) ?_
                have hcs := Stp.reflF hF
                refine yS (by kernel_rfl : opAt F22.o18 0 = some (some 75, .move (.tmp 8), none)) rfl rfl (fun w' hS => val_move rfl) ?_
                refine yS (by kernel_rfl : opAt F22.o18 1 = some (some 76, .binOp .lss 3 (.tmp 75) (.const (.int .i64 1)) 3, none)) rfl rfl (fun w' hS => val_F (val_lss rfl rfl) hA) ?_
                refine yS (by kernel_rfl : opAt F22.o18 2 = some (some 77, .move (.tmp 76), none)) rfl rfl (fun w' hS => val_move rfl) ?_
                refine yS (by kernel_rfl : opAt F22.o18 3 = some (some 78, .move (.tmp 8), (some (2, false)))) rfl rfl (fun w' hS => val_move rfl) ?_
                refine yS (by kernel_rfl : opAt F22.o18 4 = some (some 79, .binOp .gtr 3 (.tmp 78) (.const (.int .i64 1048576)) 3, (some (2, false)))) rfl rfl (fun w' hS => val_T (val_gtr rfl rfl) hB) ?_
                refine yS (by kernel_rfl : opAt F22.o18 5 = some (some 80, .pick (.tmp 77) (.const (.bool true)) (.tmp 79), none)) rfl rfl (fun w' hS => val_pick_f rfl rfl) ?_
                refine yS (by kernel_rfl : opAt F22.o18 6 = some (some 81, .move (.tmp 80), none)) rfl rfl (fun w' hS => val_move rfl) ?_
                refine pS (by kernel_rfl : opAt F22.o18 7 = some (some 82, .move (.tmp 7), (some (6, false)))) rfl rfl ?_
                refine pS (by kernel_rfl : opAt F22.o18 8 = some (some 83, .binOp .gtr 3 (.tmp 82) (.const (.int .i64 0)) 3, (some (6, false)))) rfl rfl ?_
                refine pS (by kernel_rfl : opAt F22.o18 9 = some (some 84, .move (.tmp 83), (some (6, false)))) rfl rfl ?_
                refine pS (by kernel_rfl : opAt F22.o18 10 = some (some 85, .move (.tmp 8), (some (9, true)))) rfl rfl ?_
                refine pS (by kernel_rfl : opAt F22.o18 11 = some (some 86, .move (.tmp 0), (some (9, true)))) rfl rfl ?_
                refine pS (by kernel_rfl : opAt F22.o18 12 = some (some 87, .move (.tmp 6), (some (9, true)))) rfl rfl ?_
                refine pS (by kernel_rfl : opAt F22.o18 13 = some (some 88, .indexAddr 39 (.tmp 86) (.tmp 87), (some (9, true)))) rfl rfl ?_
                refine pS (by kernel_rfl : opAt F22.o18 14 = some (some 89, .fieldAddr 44 (.tmp 88) 1, (some (9, true)))) rfl rfl ?_
                refine pW (by kernel_rfl : opAt F22.o18 15 = some (some 90, .load 22 (.tmp 89), (some (9, true)))) rfl rfl trivial ?_
                refine pS (by kernel_rfl : opAt F22.o18 16 = some (some 91, .move (.tmp 7), (some (9, true)))) rfl rfl ?_
                refine pS (by kernel_rfl : opAt F22.o18 17 = some (some 92, .binOp .sub 3 (.tmp 91) (.const (.int .i64 1)) 3, (some (9, true)))) rfl rfl ?_
                refine pS (by kernel_rfl : opAt F22.o18 18 = some (some 93, .indexAddr 22 (.tmp 90) (.tmp 92), (some (9, true)))) rfl rfl ?_
                refine pW (by kernel_rfl : opAt F22.o18 19 = some (some 94, .load 3 (.tmp 93), (some (9, true)))) rfl rfl trivial ?_
                refine pS (by kernel_rfl : opAt F22.o18 20 = some (some 95, .binOp .leq 3 (.tmp 85) (.tmp 94) 3, (some (9, true)))) rfl rfl ?_
                refine pS (by kernel_rfl : opAt F22.o18 21 = some (some 96, .pick (.tmp 84) (.tmp 95) (.const (.bool false)), (some (6, false)))) rfl rfl ?_
                refine yS (by kernel_rfl : opAt F22.o18 22 = some (some 97, .pick (.tmp 81) (.const (.bool true)) (.tmp 96), none)) rfl rfl (fun w' hS => val_pick_t rfl rfl) ?_
                refine yS (by kernel_rfl : opAt F22.o18 23 = some (some 98, .move (.tmp 97), none)) rfl rfl (fun w' hS => val_move rfl) ?_
                refine pS (by kernel_rfl : opAt F22.o18 24 = some (some 99, .move (.tmp 5), (some (23, false)))) rfl rfl ?_
                refine pS (by kernel_rfl : opAt F22.o18 25 = some (some 100, .move (.tmp 8), (some (23, false)))) rfl rfl ?_
                refine pW (by kernel_rfl : opAt F22.o18 26 = some (some 101, .call { callee := .value (.func 37), args := #[(.tmp 99), (.tmp 100)], argTypes := #[22, 3] }, (some (23, false)))) rfl rfl trivial ?_
                refine yS (by kernel_rfl : opAt F22.o18 27 = some (some 102, .pick (.tmp 98) (.const (.bool true)) (.tmp 101), none)) rfl rfl (fun w' hS => val_pick_t rfl rfl) ?_
                exact Sch.nil (hcut _ _ _ hcs rfl (by simp [okId, hB]) (sub_skip rfl (sub_skip rfl (sub_skip rfl (sub_skip rfl (sub_skip rfl (sub_skip rfl (sub_skip rfl (sub_skip rfl (sub_skip rfl (sub_skip rfl (sub_skip rfl (sub_skip rfl (sub_skip rfl (sub_skip rfl (sub_skip rfl (sub_skip rfl (sub_skip rfl (sub_skip rfl (sub_skip rfl (sub_skip rfl (sub_skip rfl (sub_skip rfl (sub_skip rfl (sub_skip rfl (sub_skip rfl (sub_skip rfl (sub_skip rfl (sub_skip rfl (Sub.refl _))))))))))))))))))))))))))))))
              · skip
                by_cases hC : (0 : Int) < k
                · skip
                  by_cases hD : l[i].ids[k] ≤ l[i].ids[k - 1]
                  · skip
                    refine run_plain (id := 18) (ops := F22.o18) [(0, true), (1, true), (2, true), (3, true), (4, true), (5, true), (6, true), (7, true), (8, true), (9, true), (10, true), (11, true), (12, true), (13, true), (14, true), (15, false), (16, true), (17, true), (18, true), (19, false), (20, true), (21, true), (22, true), (23, true), (24, true), (25, true), (26, false), (27, true)] (by kernel_rfl) (by kernel_rfl) ?_
                    have hcs := Stp.reflF hF
                    refine yS (by kernel_rfl : opAt F22.o18 0 = some (some 75, .move (.tmp 8), none)) rfl rfl (fun w' hS => val_move rfl) ?_
                    refine yS (by kernel_rfl : opAt F22.o18 1 = some (some 76, .binOp .lss 3 (.tmp 75) (.const (.int .i64 1)) 3, none)) rfl rfl (fun w' hS => val_F (val_lss rfl rfl) hA) ?_
                    refine yS (by kernel_rfl : opAt F22.o18 2 = some (some 77, .move (.tmp 76), none)) rfl rfl (fun w' hS => val_move rfl) ?_
                    refine yS (by kernel_rfl : opAt F22.o18 3 = some (some 78, .move (.tmp 8), (some (2, false)))) rfl rfl (fun w' hS => val_move rfl) ?_
                    refine yS (by kernel_rfl : opAt F22.o18 4 = some (some 79, .binOp .gtr 3 (.tmp 78) (.const (.int .i64 1048576)) 3, (some (2, false)))) rfl rfl (fun w' hS => val_F (val_gtr rfl rfl) hB) ?_
                    refine yS (by kernel_rfl : opAt F22.o18 5 = some (some 80, .pick (.tmp 77) (.const (.bool true)) (.tmp 79), none)) rfl rfl (fun w' hS => val_pick_f rfl rfl) ?_
                    refine yS (by kernel_rfl : opAt F22.o18 6 = some (some 81, .move (.tmp 80), none)) rfl rfl (fun w' hS => val_move rfl) ?_
                    refine yS (by kernel_rfl : opAt F22.o18 7 = some (some 82, .move (.tmp 7), (some (6, false)))) rfl rfl (fun w' hS => val_move rfl) ?_
                    refine yS (by kernel_rfl : opAt F22.o18 8 = some (some 83, .binOp .gtr 3 (.tmp 82) (.const (.int .i64 0)) 3, (some (6, false)))) rfl rfl (fun w' hS => val_T (val_gtr rfl rfl) hC) ?_
                    refine yS (by kernel_rfl : opAt F22.o18 9 = some (some 84, .move (.tmp 83), (some (6, false)))) rfl rfl (fun w' hS => val_move rfl) ?_
                    refine yS (by kernel_rfl : opAt F22.o18 10 = some (some 85, .move (.tmp 8), (some (9, true)))) rfl rfl (fun w' hS => val_move rfl) ?_
                    refine yS (by kernel_rfl : opAt F22.o18 11 = some (some 86, .move (.tmp 0), (some (9, true)))) rfl rfl (fun w' hS => val_move rfl) ?_
                    refine yS (by kernel_rfl : opAt F22.o18 12 = some (some 87, .move (.tmp 6), (some (9, true)))) rfl rfl (fun w' hS => val_move rfl) ?_
                    refine iS (e := 44) (by kernel_rfl : opAt F22.o18 13 = some (some 88, .indexAddr 39 (.tmp 86) (.tmp 87), (some (9, true)))) rfl rfl hl rfl (by kernel_rfl) rfl (by omega) (by omega) ?_
                    intro b88 o88 h88
                    try simp only [Int.toNat_natCast] at h88
                    have h89 := RA.ids h88
                    refine yS (by kernel_rfl : opAt F22.o18 14 = some (some 89, .fieldAddr 44 (.tmp 88) 1, (some (9, true)))) rfl rfl (fun w' hS => val_fieldAddr (off := 1) (by kernel_rfl) rfl) ?_
                    refine lN (by kernel_rfl : opAt F22.o18 15 = some (some 90, .load 22 (.tmp 89), (some (9, true)))) rfl rfl trivial h89 (by kernel_rfl) rfl rfl ?_
                    intro v90 g90
                    refine yS (by kernel_rfl : opAt F22.o18 16 = some (some 91, .move (.tmp 7), (some (9, true)))) rfl rfl (fun w' hS => val_move rfl) ?_
                    refine yS (by kernel_rfl : opAt F22.o18 17 = some (some 92, .binOp .sub 3 (.tmp 91) (.const (.int .i64 1)) 3, (some (9, true)))) rfl rfl (fun w' hS => val_subi rfl rfl (by omega) (by omega)) ?_
                    refine iS (e := 3) (by kernel_rfl : opAt F22.o18 18 = some (some 93, .indexAddr 22 (.tmp 90) (.tmp 92), (some (9, true)))) rfl rfl g90 rfl (by kernel_rfl) rfl (by omega) (by omega) ?_
                    intro b93 o93 h93
                    try simp only [Int.toNat_natCast] at h93
                    simp only [show ((k : Int) - 1).toNat = k - 1 from by omega] at h93
                    refine lN (by kernel_rfl : opAt F22.o18 19 = some (some 94, .load 3 (.tmp 93), (some (9, true)))) rfl rfl trivial h93 (by kernel_rfl) rfl rfl ?_
                    intro v94 g94
                    first | (obtain rfl := rv_nat.1 g94) | (obtain rfl := rv_int.1 g94)
                    refine yS (by kernel_rfl : opAt F22.o18 20 = some (some 95, .binOp .leq 3 (.tmp 85) (.tmp 94) 3, (some (9, true)))) rfl rfl (fun w' hS => val_T (val_leq rfl rfl) hD) ?_
                    refine yS (by kernel_rfl : opAt F22.o18 21 = some (some 96, .pick (.tmp 84) (.tmp 95) (.const (.bool false)), (some (6, false)))) rfl rfl (fun w' hS => val_pick_t rfl rfl) ?_
                    refine yS (by kernel_rfl : opAt F22.o18 22 = some (some 97, .pick (.tmp 81) (.const (.bool true)) (.tmp 96), none)) rfl rfl (fun w' hS => val_pick_f rfl rfl) ?_
                    refine yS (by kernel_rfl : opAt F22.o18 23 = some (some 98, .move (.tmp 97), none)) rfl rfl (fun w' hS => val_move rfl) ?_
                    refine pS (by kernel_rfl : opAt F22.o18 24 = some (some 99, .move (.tmp 5), (some (23, false)))) rfl rfl ?_
                    refine pS (by kernel_rfl : opAt F22.o18 25 = some (some 100, .move (.tmp 8), (some (23, false)))) rfl rfl ?_
                    refine pW (by kernel_rfl : opAt F22.o18 26 = some (some 101, .call { callee := .value (.func 37), args := #[(.tmp 99), (.tmp 100)], argTypes := #[22, 3] }, (some (23, false)))) rfl rfl trivial ?_
                    refine yS (by kernel_rfl : opAt F22.o18 27 = some (some 102, .pick (.tmp 98) (.const (.bool true)) (.tmp 101), none)) rfl rfl (fun w' hS => val_pick_t rfl rfl) ?_
                    exact Sch.nil (hcut _ _ _ hcs rfl (by rw [lastI_pos _ (by omega) hk]; simp [okId, overB, hD]) (sub_skip rfl (sub_skip rfl (sub_skip rfl (sub_skip rfl (sub_skip rfl (sub_skip rfl (sub_skip rfl (sub_skip rfl (sub_skip rfl (sub_skip rfl (sub_skip rfl (sub_skip rfl (sub_skip rfl (sub_skip rfl (sub_skip rfl (sub_skip rfl (sub_skip rfl (sub_skip rfl (sub_skip rfl (sub_skip rfl (sub_skip rfl (sub_skip rfl (sub_skip rfl (sub_skip rfl (sub_skip rfl (sub_skip rfl (sub_skip rfl (sub_skip rfl (Sub.refl _))))))))))))))))))))))))))))))
                  · skip
                    refine run_plain (id := 18) (ops := F22.o18) [(0, true), (1, true), (2, true), (3, true), (4, true), (5, true), (6, true), (7, true), (8, true), (9, true), (10, true), (11, true), (12, true), (13, true), (14, true), (15, false), (16, true), (17, true), (18, true), (19, false), (20, true), (21, true), (22, true), (23, true), (24, true), (25, true), (26, false), (27, true)] (by kernel_rfl) (by kernel_rfl) ?_
                    have hcs := Stp.reflF hF
                    refine yS (by kernel_rfl : opAt F22.o18 0 = some (some 75, .move (.tmp 8), none)) rfl rfl (fun w' hS => val_move rfl) ?_
                    refine yS (by kernel_rfl : opAt F22.o18 1 = some (some 76, .binOp .lss 3 (.tmp 75) (.const (.int .i64 1)) 3, none)) rfl rfl (fun w' hS => val_F (val_lss rfl rfl) hA) ?_
                    refine yS (by kernel_rfl : opAt F22.o18 2 = some (some 77, .move (.tmp 76), none)) rfl rfl (fun w' hS => val_move rfl) ?_
                    refine yS (by kernel_rfl : opAt F22.o18 3 = some (some 78, .move (.tmp 8), (some (2, false)))) rfl rfl (fun w' hS => val_move rfl) ?_
                    refine yS (by kernel_rfl : opAt F22.o18 4 = some (some 79, .binOp .gtr 3 (.tmp 78) (.const (.int .i64 1048576)) 3, (some (2, false)))) rfl rfl (fun w' hS => val_F (val_gtr rfl rfl) hB) ?_
                    refine yS (by kernel_rfl : opAt F22.o18 5 = some (some 80, .pick (.tmp 77) (.const (.bool true)) (.tmp 79), none)) rfl rfl (fun w' hS => val_pick_f rfl rfl) ?_
                    refine yS (by kernel_rfl : opAt F22.o18 6 = some (some 81, .move (.tmp 80), none)) rfl rfl (fun w' hS => val_move rfl) ?_
                    refine yS (by kernel_rfl : opAt F22.o18 7 = some (some 82, .move (.tmp 7), (some (6, false)))) rfl rfl (fun w' hS => val_move rfl) ?_
                    refine yS (by kernel_rfl : opAt F22.o18 8 = some (some 83, .binOp .gtr 3 (.tmp 82) (.const (.int .i64 0)) 3, (some (6, false)))) rfl rfl (fun w' hS => val_T (val_gtr rfl rfl) hC) ?_
                    refine yS (by kernel_rfl : opAt F22.o18 9 = some (some 84, .move (.tmp 83), (some (6, false)))) rfl rfl (fun w' hS => val_move rfl) ?_
                    refine yS (by kernel_rfl : opAt F22.o18 10 = some (some 85, .move (.tmp 8), (some (9, true)))) rfl rfl (fun w' hS => val_move rfl) ?_
                    refine yS (by kernel_rfl : opAt F22.o18 11 = some (some 86, .move (.tmp 0), (some (9, true)))) rfl rfl (fun w' hS => val_move rfl) ?_
                    refine yS (by kernel_rfl : opAt F22.o18 12 = some (some 87, .move (.tmp 6), (some (9, true)))) rfl rfl (fun w' hS => val_move rfl) ?_
                    refine iS (e := 44) (by kernel_rfl : opAt F22.o18 13 = some (some 88, .indexAddr 39 (.tmp 86) (.tmp 87), (some (9, true)))) rfl rfl hl rfl (by kernel_rfl) rfl (by omega) (by omega) ?_
                    intro b88 o88 h88
                    try simp only [Int.toNat_natCast] at h88
                    have h89 := RA.ids h88
                    refine yS (by kernel_rfl : opAt F22.o18 14 = some (some 89, .fieldAddr 44 (.tmp 88) 1, (some (9, true)))) rfl rfl (fun w' hS => val_fieldAddr (off := 1) (by kernel_rfl) rfl) ?_
                    refine lN (by kernel_rfl : opAt F22.o18 15 = some (some 90, .load 22 (.tmp 89), (some (9, true)))) rfl rfl trivial h89 (by kernel_rfl) rfl rfl ?_
                    intro v90 g90
                    refine yS (by kernel_rfl : opAt F22.o18 16 = some (some 91, .move (.tmp 7), (some (9, true)))) rfl rfl (fun w' hS => val_move rfl) ?_
                    refine yS (by kernel_rfl : opAt F22.o18 17 = some (some 92, .binOp .sub 3 (.tmp 91) (.const (.int .i64 1)) 3, (some (9, true)))) rfl rfl (fun w' hS => val_subi rfl rfl (by omega) (by omega)) ?_
                    refine iS (e := 3) (by kernel_rfl : opAt F22.o18 18 = some (some 93, .indexAddr 22 (.tmp 90) (.tmp 92), (some (9, true)))) rfl rfl g90 rfl (by kernel_rfl) rfl (by omega) (by omega) ?_
                    intro b93 o93 h93
                    try simp only [Int.toNat_natCast] at h93
                    simp only [show ((k : Int) - 1).toNat = k - 1 from by omega] at h93
                    refine lN (by kernel_rfl : opAt F22.o18 19 = some (some 94, .load 3 (.tmp 93), (some (9, true)))) rfl rfl trivial h93 (by kernel_rfl) rfl rfl ?_
                    intro v94 g94
                    first | (obtain rfl := rv_nat.1 g94) | (obtain rfl := rv_int.1 g94)
                    refine yS (by kernel_rfl : opAt F22.o18 20 = some (some 95, .binOp .leq 3 (.tmp 85) (.tmp 94) 3, (some (9, true)))) rfl rfl (fun w' hS => val_F (val_leq rfl rfl) hD) ?_
                    refine yS (by kernel_rfl : opAt F22.o18 21 = some (some 96, .pick (.tmp 84) (.tmp 95) (.const (.bool false)), (some (6, false)))) rfl rfl (fun w' hS => val_pick_t rfl rfl) ?_
                    refine yS (by kernel_rfl : opAt F22.o18 22 = some (some 97, .pick (.tmp 81) (.const (.bool true)) (.tmp 96), none)) rfl rfl (fun w' hS => val_pick_f rfl rfl) ?_
                    refine yS (by kernel_rfl : opAt F22.o18 23 = some (some 98, .move (.tmp 97), none)) rfl rfl (fun w' hS => val_move rfl) ?_
                    refine yS (by kernel_rfl : opAt F22.o18 24 = some (some 99, .move (.tmp 5), (some (23, false)))) rfl rfl (fun w' hS => val_move rfl) ?_
                    refine yS (by kernel_rfl : opAt F22.o18 25 = some (some 100, .move (.tmp 8), (some (23, false)))) rfl rfl (fun w' hS => val_move rfl) ?_
                    refine cS (by kernel_rfl : opAt F22.o18 26 = some (some 101, .call { callee := .value (.func 37), args := #[(.tmp 99), (.tmp 100)], argTypes := #[22, 3] }, (some (23, false)))) rfl rfl (ent Try.call37 rfl) (has_ok (ho.frz (n := 3) (by decide) (by omega)) _) ?_
                    rintro vw8 w8 ⟨rfl, rfl⟩
                    refine ⟨trivial, ?_⟩
                    refine yS (by kernel_rfl : opAt F22.o18 27 = some (some 102, .pick (.tmp 98) (.const (.bool true)) (.tmp 101), none)) rfl rfl (fun w' hS => val_pick_f rfl rfl) ?_
                    exact Sch.nil (hcut _ _ _ hcs rfl (by rw [lastI_pos _ (by omega) hk]; simp [okId, overB, hA, hB, hD]) (sub_skip rfl (sub_skip rfl (sub_skip rfl (sub_skip rfl (sub_skip rfl (sub_skip rfl (sub_skip rfl (sub_skip rfl (sub_skip rfl (sub_skip rfl (sub_skip rfl (sub_skip rfl (sub_skip rfl (sub_skip rfl (sub_skip rfl (sub_skip rfl (sub_skip rfl (sub_skip rfl (sub_skip rfl (sub_skip rfl (sub_skip rfl (sub_skip rfl (sub_skip rfl (sub_skip rfl (sub_skip rfl (sub_skip rfl (sub_skip rfl (sub_skip rfl (Sub.refl _))))))))))))))))))))))))))))))
                · skip
                  refine run_plain (id := 18) (ops := F22.o18) [(0, true), (1, true), (2, true), (3, true), (4, true), (5, true), (6, true), (7, true), (8, true), (9, true), (10, true), (11, true), (12, true), (13, true), (14, true), (15, false), (16, true), (17, true), (18, true), (19, false), (20, true), (21, true), (22, true), (23, true), (24, true), (25, true), (26, false), (27, true)] (by kernel_rfl) (by kernel_rfl) ?_
                  have hcs := Stp.reflF hF
                  refine yS (by kernel_rfl : opAt F22.o18 0 = some (some 75, .move (.tmp 8), none)) rfl rfl (fun w' hS => val_move rfl) ?_
                  refine yS (by kernel_rfl : opAt F22.o18 1 = some (some 76, .binOp .lss 3 (.tmp 75) (.const (.int .i64 1)) 3, none)) rfl rfl (fun w' hS => val_F (val_lss rfl rfl) hA) ?_
                  refine yS (by kernel_rfl : opAt F22.o18 2 = some (some 77, .move (.tmp 76), none)) rfl rfl (fun w' hS => val_move rfl) ?_
                  refine yS (by kernel_rfl : opAt F22.o18 3 = some (some 78, .move (.tmp 8), (some (2, false)))) rfl rfl (fun w' hS => val_move rfl) ?_
                  refine yS (by kernel_rfl : opAt F22.o18 4 = some (some 79, .binOp .gtr 3 (.tmp 78) (.const (.int .i64 1048576)) 3, (some (2, false)))) rfl rfl (fun w' hS => val_F (val_gtr rfl rfl) hB) ?_
                  refine yS (by kernel_rfl : opAt F22.o18 5 = some (some 80, .pick (.tmp 77) (.const (.bool true)) (.tmp 79), none)) rfl rfl (fun w' hS => val_pick_f rfl rfl) ?_
                  refine yS (by kernel_rfl : opAt F22.o18 6 = some (some 81, .move (.tmp 80), none)) rfl rfl (fun w' hS => val_move rfl) ?_
                  refine yS (by kernel_rfl : opAt F22.o18 7 = some (some 82, .move (.tmp 7), (some (6, false)))) rfl rfl (fun w' hS => val_move rfl) ?_
                  refine yS (by kernel_rfl : opAt F22.o18 8 = some (some 83, .binOp .gtr 3 (.tmp 82) (.const (.int .i64 0)) 3, (some (6, false)))) rfl rfl (fun w' hS => val_F (val_gtr rfl rfl) hC) ?_
                  refine yS (by kernel_rfl : opAt F22.o18 9 = some (some 84, .move (.tmp 83), (some (6, false)))) rfl rfl (fun w' hS => val_move rfl) ?_
                  refine pS (by kernel_rfl : opAt F22.o18 10 = some (some 85, .move (.tmp 8), (some (9, true)))) rfl rfl ?_
                  refine pS (by kernel_rfl : opAt F22.o18 11 = some (some 86, .move (.tmp 0), (some (9, true)))) rfl rfl ?_
                  refine pS (by kernel_rfl : opAt F22.o18 12 = some (some 87, .move (.tmp 6), (some (9, true)))) rfl rfl ?_
                  refine pS (by kernel_rfl : opAt F22.o18 13 = some (some 88, .indexAddr 39 (.tmp 86) (.tmp 87), (some (9, true)))) rfl rfl ?_
                  refine pS (by kernel_rfl : opAt F22.o18 14 = some (some 89, .fieldAddr 44 (.tmp 88) 1, (some (9, true)))) rfl rfl ?_
                  refine pW (by kernel_rfl : opAt F22.o18 15 = some (some 90, .load 22 (.tmp 89), (some (9, true)))) rfl rfl trivial ?_
                  refine pS (by kernel_rfl : opAt F22.o18 16 = some (some 91, .move (.tmp 7), (some (9, true)))) rfl rfl ?_
                  refine pS (by kernel_rfl : opAt F22.o18 17 = some (some 92, .binOp .sub 3 (.tmp 91) (.const (.int .i64 1)) 3, (some (9, true)))) rfl rfl ?_
                  refine pS (by kernel_rfl : opAt F22.o18 18 = some (some 93, .indexAddr 22 (.tmp 90) (.tmp 92), (some (9, true)))) rfl rfl ?_
                  refine pW (by kernel_rfl : opAt F22.o18 19 = some (some 94, .load 3 (.tmp 93), (some (9, true)))) rfl rfl trivial ?_
                  refine pS (by kernel_rfl : opAt F22.o18 20 = some (some 95, .binOp .leq 3 (.tmp 85) (.tmp 94) 3, (some (9, true)))) rfl rfl ?_
                  refine yS (by kernel_rfl : opAt F22.o18 21 = some (some 96, .pick (.tmp 84) (.tmp 95) (.const (.bool false)), (some (6, false)))) rfl rfl (fun w' hS => val_pick_f rfl rfl) ?_
                  refine yS (by kernel_rfl : opAt F22.o18 22 = some (some 97, .pick (.tmp 81) (.const (.bool true)) (.tmp 96), none)) rfl rfl (fun w' hS => val_pick_f rfl rfl) ?_
                  refine yS (by kernel_rfl : opAt F22.o18 23 = some (some 98, .move (.tmp 97), none)) rfl rfl (fun w' hS => val_move rfl) ?_
                  refine yS (by kernel_rfl : opAt F22.o18 24 = some (some 99, .move (.tmp 5), (some (23, false)))) rfl rfl (fun w' hS => val_move rfl) ?_
                  refine yS (by kernel_rfl : opAt F22.o18 25 = some (some 100, .move (.tmp 8), (some (23, false)))) rfl rfl (fun w' hS => val_move rfl) ?_
                  refine cS (by kernel_rfl : opAt F22.o18 26 = some (some 101, .call { callee := .value (.func 37), args := #[(.tmp 99), (.tmp 100)], argTypes := #[22, 3] }, (some (23, false)))) rfl rfl (ent Try.call37 rfl) (has_ok (ho.frz (n := 3) (by decide) (by omega)) _) ?_
                  rintro vw9 w9 ⟨rfl, rfl⟩
                  refine ⟨trivial, ?_⟩
                  refine yS (by kernel_rfl : opAt F22.o18 27 = some (some 102, .pick (.tmp 98) (.const (.bool true)) (.tmp 101), none)) rfl rfl (fun w' hS => val_pick_f rfl rfl) ?_
                  exact Sch.nil (hcut _ _ _ hcs rfl (by (obtain rfl : k = 0 := by omega); simp [okId, overB, lastI, hA, hB]) (sub_skip rfl (sub_skip rfl (sub_skip rfl (sub_skip rfl (sub_skip rfl (sub_skip rfl (sub_skip rfl (sub_skip rfl (sub_skip rfl (sub_skip rfl (sub_skip rfl (sub_skip rfl (sub_skip rfl (sub_skip rfl (sub_skip rfl (sub_skip rfl (sub_skip rfl (sub_skip rfl (sub_skip rfl (sub_skip rfl (sub_skip rfl (sub_skip rfl (sub_skip rfl (sub_skip rfl (sub_skip rfl (sub_skip rfl (sub_skip rfl (sub_skip rfl (Sub.refl _))))))))))))))))))))))))))))))
          intro w10 hs
          replace hF := hF.st hs
          replace hT := hT.trans hs (by simp)
          replace hl := hl.st hs (by first | decide | (simp <;> omega))
          replace ho := ho.st hs (by first | decide | (simp <;> omega)) (by first | decide | (simp <;> omega))
          replace h60 := h60.st hs (by first | decide | (simp <;> omega))
          replace h61 := h61.st hs (by first | decide | (simp <;> omega))
          replace g62 := g62.st hs (by first | decide | (simp <;> omega))
          replace h69 := h69.st hs (by first | decide | (simp <;> omega))
          replace h70 := h70.st hs (by first | decide | (simp <;> omega))
          replace g71 := g71.st hs (by first | decide | (simp <;> omega))
          replace h73 := h73.st hs (by first | decide | (simp <;> omega))
          refine run_cond (x := F22.c68) (y := F22.c71) (o := .tmp 102) (by kernel_rfl) rfl (fun h102 => ?_) (fun h102 => ?_)
          · skip
            have hno : okId (flatI (l.take i)) (lastI l[i].ids k) l[i].ids[k] = false := by simpa using h102
            rw [hno, Bool.false_and] at hid
            rw [hid] at hok
            rw [← hok] at hbd
            refine run_seq (x := F22.c69) (y := F22.c70) (by kernel_rfl) ?_
            refine run_plain (id := 19) (ops := F22.o19) [(0, true)] (by kernel_rfl) (by kernel_rfl) ?_
            refine yS (by kernel_rfl : opAt F22.o19 0 = some (some 2, .assign (.const (.int .i64 12)), none)) rfl rfl (fun w' hS => val_assign rfl) ?_
            refine Sch.nil ?_
            refine run_ret1 (by kernel_rfl) Try.func22 Try.results22 rfl ?_
            rw [hbd] at hv
            exact ⟨by rw [check_okBs, if_neg (by omega), ← hv]; simp, hT.out1 (by decide)⟩
          · skip
            have hyes : okId (flatI (l.take i)) (lastI l[i].ids k) l[i].ids[k] = true := by simpa using h102
            rw [hyes, Bool.true_and] at hid
            refine run_skip (by kernel_rfl) ?_
            refine run_inBlock ?_
            refine run_plain (id := 16) (ops := F22.o16) [(0, true), (1, true), (2, true)] (by kernel_rfl) (by kernel_rfl) ?_
            refine yS (by kernel_rfl : opAt F22.o16 0 = some (some 65, .move (.tmp 7), none)) rfl rfl (fun w' hS => val_move rfl) ?_
            refine yS (by kernel_rfl : opAt F22.o16 1 = some (some 66, .binOp .add 3 (.tmp 65) (.const (.int .i64 1)) 3, none)) rfl rfl (fun w' hS => val_addi rfl rfl (by omega) (by omega)) ?_
            refine yS (by kernel_rfl : opAt F22.o16 2 = some (some 7, .assign (.tmp 66), none)) rfl rfl (fun w' hS => val_assign rfl) ?_
            refine Sch.nil ?_
            refine kp (sub_cons 0 rfl rfl (sub_cons 5 rfl rfl (sub_cons 6 rfl rfl (sub_cons 7 rfl (eq_int (by simp)) (sub_nil _))))) (next3 (k + 1, C3) _ ⟨(by first | omega | (simp only; omega)), (by rw [lastI_succ _ hkl, ← hid, hok]), hF, hT, hl, ho⟩ (by first | omega | (simp only; omega)))
        · skip
          obtain rfl : k = l[i].ids.length := by omega
          rw [List.drop_length] at hok
          rw [← hok] at hbd
          refine run_exit (id := 4) (by kernel_rfl) rfl ?_
          refine run_plain (id := 20) (ops := F22.o20) [(0, true), (1, true), (2, true), (3, true), (4, true), (5, false), (6, false), (7, true)] (by kernel_rfl) (by kernel_rfl) ?_
          refine yS (by kernel_rfl : opAt F22.o20 0 = some (some 103, .move (.tmp 5), none)) rfl rfl (fun w' hS => val_move rfl) ?_
          refine yS (by kernel_rfl : opAt F22.o20 1 = some (some 104, .move (.tmp 0), none)) rfl rfl (fun w' hS => val_move rfl) ?_
          refine yS (by kernel_rfl : opAt F22.o20 2 = some (some 105, .move (.tmp 6), none)) rfl rfl (fun w' hS => val_move rfl) ?_
          refine iS (e := 44) (by kernel_rfl : opAt F22.o20 3 = some (some 106, .indexAddr 39 (.tmp 104) (.tmp 105), none)) rfl rfl hl rfl (by kernel_rfl) rfl (by omega) (by omega) ?_
          intro b106 o106 h106
          try simp only [Int.toNat_natCast] at h106
          have h107 := RA.ids h106
          refine yS (by kernel_rfl : opAt F22.o20 4 = some (some 107, .fieldAddr 44 (.tmp 106) 1, none)) rfl rfl (fun w' hS => val_fieldAddr (off := 1) (by kernel_rfl) rfl) ?_
          refine lN (by kernel_rfl : opAt F22.o20 5 = some (some 108, .load 22 (.tmp 107), none)) rfl rfl trivial h107 (by kernel_rfl) rfl rfl ?_
          intro v108 g108
          refine aS (by kernel_rfl : opAt F22.o20 6 = some (some 109, .call { callee := .builtin .append, args := #[(.tmp 103), (.tmp 108)], argTypes := #[22, 22] }, none)) rfl rfl (a_append (e := 3) (bytes := 8) hF (by decide) rfl rfl (by kernel_rfl) (by decide) ho g108 (by omega) (by omega)) ?_
          rintro v109 w11 ⟨Cw11, hs, ho, hF⟩
          refine ⟨trivial, ?_⟩
          replace hT := hT.trans hs (by simp)
          replace hl := hl.st hs (by first | decide | (simp <;> omega))
          replace h60 := h60.st hs (by first | decide | (simp <;> omega))
          replace h61 := h61.st hs (by first | decide | (simp <;> omega))
          replace g62 := g62.st hs (by first | decide | (simp <;> omega))
          replace h106 := h106.st hs (by first | decide | (simp <;> omega))
          replace h107 := h107.st hs (by first | decide | (simp <;> omega))
          replace g108 := g108.st hs (by first | decide | (simp <;> omega))
          refine yS (by kernel_rfl : opAt F22.o20 7 = some (some 5, .assign (.tmp 109), none)) rfl rfl (fun w' hS => val_assign rfl) ?_
          refine Sch.nil ?_
          refine run_inBlock ?_
          refine run_plain (id := 11) (ops := F22.o11) [(0, true), (1, true), (2, true)] (by kernel_rfl) (by kernel_rfl) ?_
          refine yS (by kernel_rfl : opAt F22.o11 0 = some (some 30, .move (.tmp 6), none)) rfl rfl (fun w' hS => val_move rfl) ?_
          refine yS (by kernel_rfl : opAt F22.o11 1 = some (some 31, .binOp .add 3 (.tmp 30) (.const (.int .i64 1)) 3, none)) rfl rfl (fun w' hS => val_addi rfl rfl (by omega) (by omega)) ?_
          refine yS (by kernel_rfl : opAt F22.o11 2 = some (some 6, .assign (.tmp 31), none)) rfl rfl (fun w' hS => val_assign rfl) ?_
          refine Sch.nil ?_
          refine kp (sub_cons 0 rfl rfl (sub_cons 5 rfl rfl (sub_cons 6 rfl (eq_int (by simp)) (sub_nil _)))) (next2 (i + 1, v109, Cw11) _ ⟨(by first | omega | (simp only; omega)), (by rw [flatI_take hil, lastH_succ l hil, ← hv, hbd]; rfl), hF, hT, hl, (by rw [flatI_take hil]; exact ho)⟩ (by first | omega | (simp only; omega)))
    · skip
      obtain rfl : i = l.length := by omega
      rw [List.drop_length] at hv
      refine run_exit (id := 2) (by kernel_rfl) rfl ?_
      refine run_seq (x := F22.c76) (y := F22.c77) (by kernel_rfl) ?_
      refine run_plain (id := 21) (ops := F22.o21) [(0, true)] (by kernel_rfl) (by kernel_rfl) ?_
      refine yS (by kernel_rfl : opAt F22.o21 0 = some (some 2, .assign (.const (.int .i64 0)), none)) rfl rfl (fun w' hS => val_assign rfl) ?_
      refine Sch.nil ?_
      refine run_ret1 (by kernel_rfl) Try.func22 Try.results22 rfl ?_
      exact ⟨by rw [check_okBs, if_neg (by omega), ← hv]; rfl, hT.out1 (by decide)⟩
end Go.Proofs.Ytejbklahkkjmhaa
