/- Steps through functions of the program. -/
import Derived.Test.YtpmokjccfaakfaaKQ2
set_option linter.unusedVariables false
set_option linter.unusedSimpArgs false
set_option maxRecDepth 100000
set_option maxHeartbeats 400000
namespace Go.Proofs.Ytpmokjccfaakfaa
open Go.K Go.K.Rep

namespace F45
noncomputable def c0 : Code := bodyOf Try.f45
noncomputable def c1 : Code := cl c0
noncomputable def o0 : Array Oper := rops c1
noncomputable def c2 : Code := cr c0
noncomputable def c3 : Code := cl c2
noncomputable def c4 : Code := cl c3
noncomputable def o1 : Array Oper := rops c4
noncomputable def c5 : Code := cr c3
noncomputable def c6 : Code := cl c5
noncomputable def c7 : Code := cl c6
noncomputable def c8 : Code := cl c7
noncomputable def o2 : Array Oper := rops c8
noncomputable def c9 : Code := cr c7
noncomputable def c10 : Code := cl c9
noncomputable def c11 : Code := cl c10
noncomputable def c12 : Code := cr c10
noncomputable def c13 : Code := cr c9
noncomputable def c14 : Code := cl c13
noncomputable def c15 : Code := cl c14
noncomputable def c16 : Code := cl c15
noncomputable def o3 : Array Oper := rops c16
noncomputable def c17 : Code := cr c15
noncomputable def c18 : Code := cl c17
noncomputable def o4 : Array Oper := rops c18
noncomputable def c19 : Code := cr c17
noncomputable def c20 : Code := cl c19
noncomputable def c21 : Code := cl c20
noncomputable def o5 : Array Oper := rops c21
noncomputable def c22 : Code := cr c20
noncomputable def c23 : Code := cr c19
noncomputable def c24 : Code := cr c13
noncomputable def o6 : Array Oper := rops c24
noncomputable def c25 : Code := cr c2
noncomputable def c26 : Code := cl c25
noncomputable def o7 : Array Oper := rops c26
noncomputable def c27 : Code := cr c25
end F45
/-- 'slices.IndexFunc'. -/
theorem indexFunc_ok {w₀ : World} {M : Nat → Prop} {l : List Int} {vl : Value} {p : Int → Bool} {nf : Nat} (hcall : ∀ args w, (callFunc nf args).run Try.prog w = .ok (.enter nf args) w)
    (hp : ∀ x w, Calls Try.prog nf #[.int .i64 x] w (Ret fun v w' => v = .bool (p x) ∧ w' = w)) (hl : RV w₀ M l vl) : Calls Try.prog 45 #[vl, .func (.func nf) #[] #[]] w₀ (Ret fun v w' => v = .int .i64 (idxOf p l) ∧ w' = w₀) := by
  refine calls_start (c := F45.c0) (N := 19) [vl, .func (.func nf) #[] #[]] Try.func45 (by kernel_rfl) (by kernel_rfl) (by kernel_rfl) ?_
  show Run _ _ _ _ [(0, vl), (1, .func (.func nf) #[] #[])] _ _
  refine run_seq (x := F45.c1) (y := F45.c2) (by kernel_rfl) ?_
  refine run_plain (id := 0) (ops := F45.o0) [(0, true)] (by kernel_rfl) (by kernel_rfl) ?_
  refine yS (by kernel_rfl : opAt F45.o0 0 = some (some 4, .assign (.const (.int .i64 0)), none)) rfl rfl (fun w' hS => val_assign rfl) ?_
  refine Sch.nil ?_
  refine run_seq (x := F45.c3) (y := F45.c25) (by kernel_rfl) ?_
  refine run_seq (x := F45.c4) (y := F45.c5) (by kernel_rfl) ?_
  refine run_plain (id := 1) (ops := F45.o1) [(0, true), (1, true), (2, true)] (by kernel_rfl) (by kernel_rfl) ?_
  refine yS (by kernel_rfl : opAt F45.o1 0 = some (some 6, .move (.tmp 0), none)) rfl rfl (fun w' hS => val_move rfl) ?_
  refine yS (by kernel_rfl : opAt F45.o1 1 = some (some 7, .call { callee := .builtin .len, args := #[(.tmp 6)], argTypes := #[22] }, none)) rfl rfl (fun w' hS => hl.lenV rfl Try.underlying22 w' ) ?_
  refine yS (by kernel_rfl : opAt F45.o1 2 = some (some 8, .move (.const (.int .i64 0)), none)) rfl rfl (fun w' hS => val_move rfl) ?_
  refine Sch.nil ?_
  refine run_block (x := F45.c6) (id := 0) (by kernel_rfl) ?_
  
  refine run_loop (ι := Nat) (I := fun x w => x ≤ l.length ∧ (∀ i (hi : i < x) (hl : i < l.length), p l[i] = false) ∧ w = w₀) (e := fun x => [(0, vl), (1, .func (.func nf) #[] #[]), (7, .int .i64 l.length), (8, .int .i64 x)]) (m := fun x => l.length - x) (x₀ := 0) (body := F45.c7) (by kernel_rfl) (sub_cons 0 rfl rfl (sub_cons 1 rfl rfl (sub_cons 7 rfl rfl (sub_cons 8 rfl rfl (sub_nil _))))) ?_ ?_
  · exact ⟨Nat.zero_le _, fun i hi _ => by omega, rfl⟩
  intro k w1 hI next
  obtain ⟨hk, h0, rfl⟩ := hI
  try simp only at hk h0
  have next1 := next
  clear next
  show Run _ _ _ _ [(0, vl), (1, .func (.func nf) #[] #[]), (7, .int .i64 l.length), (8, .int .i64 k)] _ _
  have hle := hl.le
  refine run_seq (x := F45.c8) (y := F45.c9) (by kernel_rfl) ?_
  refine run_plain (id := 2) (ops := F45.o2) [(0, true)] (by kernel_rfl) (by kernel_rfl) ?_
  refine yS (by kernel_rfl : opAt F45.o2 0 = some (some 9, .binOp .lss 3 (.tmp 8) (.tmp 7) 3, none)) rfl rfl (fun w' hS => val_lss rfl rfl) ?_
  refine Sch.nil ?_
  refine run_seq (x := F45.c10) (y := F45.c13) (by kernel_rfl) ?_
  refine run_if (x := F45.c11) (y := F45.c12) (o := .tmp 9) (by kernel_rfl) rfl (fun h9 => ?_) (fun h9 => ?_)
  · skip
    have hkl : k < l.length := by omega
    refine run_skip (by kernel_rfl) ?_
    refine run_seq (x := F45.c14) (y := F45.c24) (by kernel_rfl) ?_
    refine run_block (x := F45.c15) (id := 1) (by kernel_rfl) ?_
    refine run_seq (x := F45.c16) (y := F45.c17) (by kernel_rfl) ?_
    refine run_plain (id := 3) (ops := F45.o3) [(0, true), (1, true)] (by kernel_rfl) (by kernel_rfl) ?_
    refine yS (by kernel_rfl : opAt F45.o3 0 = some (some 10, .move (.tmp 8), none)) rfl rfl (fun w' hS => val_move rfl) ?_
    refine yS (by kernel_rfl : opAt F45.o3 1 = some (some 5, .assign (.tmp 10), none)) rfl rfl (fun w' hS => val_assign rfl) ?_
    refine Sch.nil ?_
    refine run_seq (x := F45.c18) (y := F45.c19) (by kernel_rfl) ?_
    refine run_plain (id := 4) (ops := F45.o4) [(0, true), (1, true), (2, true), (3, true), (4, false), (5, false)] (by kernel_rfl) (by kernel_rfl) ?_
    refine yS (by kernel_rfl : opAt F45.o4 0 = some (some 11, .move (.tmp 1), none)) rfl rfl (fun w' hS => val_move rfl) ?_
    refine yS (by kernel_rfl : opAt F45.o4 1 = some (some 12, .move (.tmp 0), none)) rfl rfl (fun w' hS => val_move rfl) ?_
    refine yS (by kernel_rfl : opAt F45.o4 2 = some (some 13, .move (.tmp 5), none)) rfl rfl (fun w' hS => val_move rfl) ?_
    refine iS (e := 3) (by kernel_rfl : opAt F45.o4 3 = some (some 14, .indexAddr 22 (.tmp 12) (.tmp 13), none)) rfl rfl hl rfl (by kernel_rfl) rfl (by omega) (by omega) ?_
    intro b14 o14 h14
    try simp only [Int.toNat_natCast] at h14
    refine lN (by kernel_rfl : opAt F45.o4 4 = some (some 15, .load 3 (.tmp 14), none)) rfl rfl trivial h14 (by kernel_rfl) rfl rfl ?_
    intro v15 g15
    obtain rfl := rv_int.1 g15
    refine cS (by kernel_rfl : opAt F45.o4 5 = some (some 16, .call { callee := .value (.tmp 11), args := #[(.tmp 15)], argTypes := #[3] }, none)) rfl rfl (enters_func hcall rfl rfl) (hp _ _) ?_
    rintro vw2 w2 ⟨rfl, rfl⟩
    refine ⟨trivial, ?_⟩
    refine Sch.nil ?_
    refine run_cond (x := F45.c20) (y := F45.c23) (o := .tmp 16) (by kernel_rfl) rfl (fun h16 => ?_) (fun h16 => ?_)
    · skip
      refine run_seq (x := F45.c21) (y := F45.c22) (by kernel_rfl) ?_
      refine run_plain (id := 5) (ops := F45.o5) [(0, true), (1, true)] (by kernel_rfl) (by kernel_rfl) ?_
      refine yS (by kernel_rfl : opAt F45.o5 0 = some (some 17, .move (.tmp 5), none)) rfl rfl (fun w' hS => val_move rfl) ?_
      refine yS (by kernel_rfl : opAt F45.o5 1 = some (some 4, .assign (.tmp 17), none)) rfl rfl (fun w' hS => val_assign rfl) ?_
      refine Sch.nil ?_
      refine run_ret1 (by kernel_rfl) Try.func45 Try.results45 rfl ?_
      exact ⟨by rw [idxOf_at hkl (fun i hi => h0 i hi (by omega)) h16], rfl⟩
    · skip
      refine run_skip (by kernel_rfl) ?_
      refine run_inBlock ?_
      refine run_plain (id := 6) (ops := F45.o6) [(0, true), (1, true)] (by kernel_rfl) (by kernel_rfl) ?_
      refine yS (by kernel_rfl : opAt F45.o6 0 = some (some 18, .binOp .add 3 (.tmp 8) (.const (.int .i64 1)) 3, none)) rfl rfl (fun w' hS => val_addi rfl rfl (by omega) (by omega)) ?_
      refine yS (by kernel_rfl : opAt F45.o6 1 = some (some 8, .move (.tmp 18), none)) rfl rfl (fun w' hS => val_move rfl) ?_
      refine Sch.nil ?_
      refine kp (sub_cons 0 rfl rfl (sub_cons 1 rfl rfl (sub_cons 7 rfl rfl (sub_cons 8 rfl (eq_int (by simp)) (sub_nil _))))) (next1 (k + 1) _ ⟨(by first | omega | (simp only; omega)), (fun i hi hl => by
          by_cases e : i = k
          · subst e; exact h16
          · exact h0 i (by omega) hl), rfl⟩ (by first | omega | (simp only; omega)))
  · skip
    have hkl : k = l.length := by omega
    refine run_exit (id := 0) (by kernel_rfl) rfl ?_
    refine run_seq (x := F45.c26) (y := F45.c27) (by kernel_rfl) ?_
    refine run_plain (id := 7) (ops := F45.o7) [(0, true)] (by kernel_rfl) (by kernel_rfl) ?_
    refine yS (by kernel_rfl : opAt F45.o7 0 = some (some 4, .assign (.const (.int .i64 (-1))), none)) rfl rfl (fun w' hS => val_assign rfl) ?_
    refine Sch.nil ?_
    refine run_ret1 (by kernel_rfl) Try.func45 Try.results45 rfl ?_
    exact ⟨by rw [idxOf_none (fun i hi => h0 i (by omega) hi)], rfl⟩
namespace F33
noncomputable def c0 : Code := bodyOf Try.f33
noncomputable def c1 : Code := cl c0
noncomputable def o0 : Array Oper := rops c1
noncomputable def c2 : Code := cr c0
noncomputable def c3 : Code := cl c2
noncomputable def o1 : Array Oper := rops c3
noncomputable def c4 : Code := cr c2
end F33
/-- 'slices.ContainsFunc'. -/
theorem containsFunc_ok {w₀ : World} {M : Nat → Prop} {l : List Int} {vl : Value} {p : Int → Bool} {nf : Nat} (hcall : ∀ args w, (callFunc nf args).run Try.prog w = .ok (.enter nf args) w)
    (hp : ∀ x w, Calls Try.prog nf #[.int .i64 x] w (Ret fun v w' => v = .bool (p x) ∧ w' = w)) (hl : RV w₀ M l vl) : Calls Try.prog 33 #[vl, .func (.func nf) #[] #[]] w₀ (Ret fun v w' => v = .bool (l.any p) ∧ w' = w₀) := by
  refine calls_start (c := F33.c0) (N := 9) [vl, .func (.func nf) #[] #[]] Try.func33 (by kernel_rfl) (by kernel_rfl) (by kernel_rfl) ?_
  show Run _ _ _ _ [(0, vl), (1, .func (.func nf) #[] #[])] _ _
  refine run_seq (x := F33.c1) (y := F33.c2) (by kernel_rfl) ?_
  refine run_plain (id := 0) (ops := F33.o0) [(0, true)] (by kernel_rfl) (by kernel_rfl) ?_
  refine yS (by kernel_rfl : opAt F33.o0 0 = some (some 4, .assign (.const (.bool false)), none)) rfl rfl (fun w' hS => val_assign rfl) ?_
  refine Sch.nil ?_
  refine run_seq (x := F33.c3) (y := F33.c4) (by kernel_rfl) ?_
  refine run_plain (id := 1) (ops := F33.o1) [(0, true), (1, true), (2, false), (3, true), (4, true)] (by kernel_rfl) (by kernel_rfl) ?_
  refine yS (by kernel_rfl : opAt F33.o1 0 = some (some 5, .move (.tmp 0), none)) rfl rfl (fun w' hS => val_move rfl) ?_
  refine yS (by kernel_rfl : opAt F33.o1 1 = some (some 6, .move (.tmp 1), none)) rfl rfl (fun w' hS => val_move rfl) ?_
  refine cS (by kernel_rfl : opAt F33.o1 2 = some (some 7, .call { callee := .value (.func 45), args := #[(.tmp 5), (.tmp 6)], argTypes := #[22, 54] }, none)) rfl rfl (ent Try.call45 rfl) (indexFunc_ok hcall hp hl) ?_
  rintro vw1 w1 ⟨rfl, rfl⟩
  refine ⟨trivial, ?_⟩
  refine yS (by kernel_rfl : opAt F33.o1 3 = some (some 8, .binOp .geq 3 (.tmp 7) (.const (.int .i64 0)) 3, none)) rfl rfl (fun w' hS => val_geq rfl rfl) ?_
  refine yS (by kernel_rfl : opAt F33.o1 4 = some (some 4, .assign (.tmp 8), none)) rfl rfl (fun w' hS => val_assign rfl) ?_
  refine Sch.nil ?_
  refine run_ret1 (by kernel_rfl) Try.func33 Try.results33 rfl ?_
  exact ⟨by rw [idxOf_ge], rfl⟩
namespace F47
noncomputable def c0 : Code := bodyOf Try.f47
noncomputable def c1 : Code := cl c0
noncomputable def o0 : Array Oper := rops c1
noncomputable def c2 : Code := cr c0
noncomputable def c3 : Code := cl c2
noncomputable def c4 : Code := cl c3
noncomputable def o1 : Array Oper := rops c4
noncomputable def c5 : Code := cr c3
noncomputable def c6 : Code := cl c5
noncomputable def c7 : Code := cl c6
noncomputable def c8 : Code := cl c7
noncomputable def o2 : Array Oper := rops c8
noncomputable def c9 : Code := cr c7
noncomputable def c10 : Code := cl c9
noncomputable def c11 : Code := cl c10
noncomputable def c12 : Code := cr c10
noncomputable def c13 : Code := cr c9
noncomputable def c14 : Code := cl c13
noncomputable def c15 : Code := cl c14
noncomputable def c16 : Code := cl c15
noncomputable def o3 : Array Oper := rops c16
noncomputable def c17 : Code := cr c15
noncomputable def c18 : Code := cl c17
noncomputable def o4 : Array Oper := rops c18
noncomputable def c19 : Code := cr c17
noncomputable def c20 : Code := cl c19
noncomputable def c21 : Code := cl c20
noncomputable def o5 : Array Oper := rops c21
noncomputable def c22 : Code := cr c20
noncomputable def c23 : Code := cr c19
noncomputable def c24 : Code := cr c13
noncomputable def o6 : Array Oper := rops c24
noncomputable def c25 : Code := cr c2
noncomputable def c26 : Code := cl c25
noncomputable def o7 : Array Oper := rops c26
noncomputable def c27 : Code := cr c25
end F47
/-- 'slices.Index'. -/
theorem index_ok {w₀ : World} {C : Nat → Nat} {l : List Couple} {c : Couple} {vl : Value} (hF : Lim w₀ C) (hl : RV w₀ (Mc C) l vl) : Calls Try.prog 47 #[vl, .agg #[.int .i64 c.a, .int .i64 c.b]] w₀ (Ret fun v w' => v = .int .i64 (idxOf (fun x => decide (c = x)) l) ∧ Stp [] w₀ C w' C) := by
  have hF0 := hF
  have hT := Stp.refl [2, 3, 4, 5, 6, 7, 8, 9] w₀ (col1 C)
  replace hF := hF.col1
  replace hl : RV w₀ (Mc (col1 C)) l vl := by rw [Mc_col1]; exact hl
  refine calls_start (c := F47.c0) (N := 19) [vl, .agg #[.int .i64 c.a, .int .i64 c.b]] Try.func47 (by kernel_rfl) (by kernel_rfl) (by kernel_rfl) ?_
  show Run _ _ _ _ [(0, vl), (1, .agg #[.int .i64 c.a, .int .i64 c.b])] _ _
  refine run_seq (x := F47.c1) (y := F47.c2) (by kernel_rfl) ?_
  refine run_plain (id := 0) (ops := F47.o0) [(0, false), (1, true)] (by kernel_rfl) (by kernel_rfl) ?_
  refine aS (by kernel_rfl : opAt F47.o0 0 = some (some 3, .box 50 (.tmp 1), none)) rfl rfl (a_box (cs := [.int .i64 c.a, .int .i64 c.b]) hF 3 rfl rfl) ?_
  rintro _ w1 ⟨Cw1, bw1, rfl, hs, hx, hF⟩
  refine ⟨trivial, ?_⟩
  replace hT := hT.trans hs (by simp)
  replace hl := hl.st hs (by first | decide | (simp <;> omega))
  refine yS (by kernel_rfl : opAt F47.o0 1 = some (some 4, .assign (.const (.int .i64 0)), none)) rfl rfl (fun w' hS => val_assign rfl) ?_
  refine Sch.nil ?_
  refine run_seq (x := F47.c3) (y := F47.c25) (by kernel_rfl) ?_
  refine run_seq (x := F47.c4) (y := F47.c5) (by kernel_rfl) ?_
  refine run_plain (id := 1) (ops := F47.o1) [(0, true), (1, true), (2, true)] (by kernel_rfl) (by kernel_rfl) ?_
  refine yS (by kernel_rfl : opAt F47.o1 0 = some (some 6, .move (.tmp 0), none)) rfl rfl (fun w' hS => val_move rfl) ?_
  refine yS (by kernel_rfl : opAt F47.o1 1 = some (some 7, .call { callee := .builtin .len, args := #[(.tmp 6)], argTypes := #[26] }, none)) rfl rfl (fun w' hS => hl.lenV rfl Try.underlying26 w' ) ?_
  refine yS (by kernel_rfl : opAt F47.o1 2 = some (some 8, .move (.const (.int .i64 0)), none)) rfl rfl (fun w' hS => val_move rfl) ?_
  refine Sch.nil ?_
  refine run_block (x := F47.c6) (id := 0) (by kernel_rfl) ?_
  
  refine run_loop (ι := Nat × (Nat → Nat)) (I := fun x w => x.1 ≤ l.length ∧ (∀ i (hi : i < x.1) (hl : i < l.length), decide (c = l[i]) = false) ∧ Lim w x.2 ∧ Stp [2, 3, 4, 5, 6, 7, 8, 9] w₀ (col1 C) w x.2 ∧ RV w (Mc x.2) l vl ∧ OwnB w x.2 3 bw1 (.cells [.int .i64 c.a, .int .i64 c.b].toArray 50)) (e := fun x => [(0, vl), (3, .pointer (some ⟨bw1, 0, none⟩)), (7, .int .i64 l.length), (8, .int .i64 x.1)]) (m := fun x => l.length - x.1) (x₀ := (0, Cw1)) (body := F47.c7) (by kernel_rfl) (sub_cons 0 rfl rfl (sub_cons 3 rfl rfl (sub_cons 7 rfl rfl (sub_cons 8 rfl rfl (sub_nil _))))) ?_ ?_
  · exact ⟨Nat.zero_le _, fun i hi _ => by simp only at hi; omega, hF, hT, hl, hx⟩
  intro ⟨k, C1⟩ w2 hI next
  obtain ⟨hk, h0, hF, hT, hl, hx⟩ := hI
  try simp only at hk h0 hF hT hl hx
  have next1 := next
  clear next
  show Run _ _ _ _ [(0, vl), (3, .pointer (some ⟨bw1, 0, none⟩)), (7, .int .i64 l.length), (8, .int .i64 k)] _ _
  have hle := hl.le
  refine run_seq (x := F47.c8) (y := F47.c9) (by kernel_rfl) ?_
  refine run_plain (id := 2) (ops := F47.o2) [(0, true)] (by kernel_rfl) (by kernel_rfl) ?_
  refine yS (by kernel_rfl : opAt F47.o2 0 = some (some 9, .binOp .lss 3 (.tmp 8) (.tmp 7) 3, none)) rfl rfl (fun w' hS => val_lss rfl rfl) ?_
  refine Sch.nil ?_
  refine run_seq (x := F47.c10) (y := F47.c13) (by kernel_rfl) ?_
  refine run_if (x := F47.c11) (y := F47.c12) (o := .tmp 9) (by kernel_rfl) rfl (fun h9 => ?_) (fun h9 => ?_)
  · skip
    have hkl : k < l.length := by omega
    refine run_skip (by kernel_rfl) ?_
    refine run_seq (x := F47.c14) (y := F47.c24) (by kernel_rfl) ?_
    refine run_block (x := F47.c15) (id := 1) (by kernel_rfl) ?_
    refine run_seq (x := F47.c16) (y := F47.c17) (by kernel_rfl) ?_
    refine run_plain (id := 3) (ops := F47.o3) [(0, true), (1, true)] (by kernel_rfl) (by kernel_rfl) ?_
    refine yS (by kernel_rfl : opAt F47.o3 0 = some (some 10, .move (.tmp 8), none)) rfl rfl (fun w' hS => val_move rfl) ?_
    refine yS (by kernel_rfl : opAt F47.o3 1 = some (some 5, .assign (.tmp 10), none)) rfl rfl (fun w' hS => val_assign rfl) ?_
    refine Sch.nil ?_
    refine run_seq (x := F47.c18) (y := F47.c19) (by kernel_rfl) ?_
    refine run_draw (id := 4) (ops := F47.o4) [] (C1) [(0, true), (1, true), (2, true), (3, true), (4, true), (5, true)] Try_mixed (by kernel_rfl) (by kernel_rfl) (by kernel_rfl) ?_
    intro w3 hs
    replace hF := hF.st hs
    replace hT := hT.trans hs (by simp)
    replace hl := hl.st hs (by first | decide | (simp <;> omega))
    replace hx := hx.st hs (by first | decide | (simp <;> omega))
    refine yS (by kernel_rfl : opAt F47.o4 0 = some (some 11, .load 50 (.tmp 3), none)) rfl rfl (fun w' hS => val_loadOwnAgg (n := 2) (hx.stay hS (by decide)) (by kernel_rfl) (by kernel_rfl) rfl rfl rfl) ?_
    refine yS (by kernel_rfl : opAt F47.o4 1 = some (some 12, .move (.tmp 0), none)) rfl rfl (fun w' hS => val_move rfl) ?_
    refine yS (by kernel_rfl : opAt F47.o4 2 = some (some 13, .move (.tmp 5), none)) rfl rfl (fun w' hS => val_move rfl) ?_
    refine iS (e := 50) (by kernel_rfl : opAt F47.o4 3 = some (some 14, .indexAddr 26 (.tmp 12) (.tmp 13), none)) rfl rfl hl rfl (by kernel_rfl) rfl (by omega) (by omega) ?_
    intro b14 o14 h14
    try simp only [Int.toNat_natCast] at h14
    refine lSA (by kernel_rfl : opAt F47.o4 4 = some (some 15, .load 50 (.tmp 14), none)) rfl rfl (fun w' hS => h14.stay hS (by decide)) h14 (by kernel_rfl) (by kernel_rfl) rfl rfl ?_
    intro v15 g15
    obtain rfl := rv_couple.1 g15
    refine yS (by kernel_rfl : opAt F47.o4 5 = some (some 16, .binOp .eql 50 (.tmp 11) (.tmp 15) 50, none)) rfl rfl (fun w' hS => val_eqC (a := c) (b := _) Try.underlying50 (by decide) (by decide) (by kernel_rfl) Try.underlying3 rfl rfl) ?_
    refine Sch.nil ?_
    refine run_if (x := F47.c20) (y := F47.c23) (o := .tmp 16) (by kernel_rfl) rfl (fun h16 => ?_) (fun h16 => ?_)
    · skip
      refine run_seq (x := F47.c21) (y := F47.c22) (by kernel_rfl) ?_
      refine run_plain (id := 5) (ops := F47.o5) [(0, true), (1, true)] (by kernel_rfl) (by kernel_rfl) ?_
      refine yS (by kernel_rfl : opAt F47.o5 0 = some (some 17, .move (.tmp 5), none)) rfl rfl (fun w' hS => val_move rfl) ?_
      refine yS (by kernel_rfl : opAt F47.o5 1 = some (some 4, .assign (.tmp 17), none)) rfl rfl (fun w' hS => val_assign rfl) ?_
      refine Sch.nil ?_
      refine run_ret1 (by kernel_rfl) Try.func47 Try.results47 rfl ?_
      exact ⟨by rw [idxOf_at (p := fun x => decide (c = x)) hkl (fun i hi => h0 i hi (by omega)) (decide_eq_true h16)], hT.out1 (by decide)⟩
    · skip
      refine run_skip (by kernel_rfl) ?_
      refine run_inBlock ?_
      refine run_plain (id := 6) (ops := F47.o6) [(0, true), (1, true)] (by kernel_rfl) (by kernel_rfl) ?_
      refine yS (by kernel_rfl : opAt F47.o6 0 = some (some 18, .binOp .add 3 (.tmp 8) (.const (.int .i64 1)) 3, none)) rfl rfl (fun w' hS => val_addi rfl rfl (by omega) (by omega)) ?_
      refine yS (by kernel_rfl : opAt F47.o6 1 = some (some 8, .move (.tmp 18), none)) rfl rfl (fun w' hS => val_move rfl) ?_
      refine Sch.nil ?_
      refine kp (sub_cons 0 rfl rfl (sub_cons 3 rfl rfl (sub_cons 7 rfl rfl (sub_cons 8 rfl (eq_int (by simp)) (sub_nil _))))) (next1 (k + 1, C1) _ ⟨(by first | omega | (simp only; omega)), (fun i hi hl => by
          simp only at hi
          by_cases e : i = k
          · subst e; exact decide_eq_false h16
          · exact h0 i (by omega) hl), hF, hT, hl, hx⟩ (by first | omega | (simp only; omega)))
  · skip
    have hkl : k = l.length := by omega
    refine run_exit (id := 0) (by kernel_rfl) rfl ?_
    refine run_seq (x := F47.c26) (y := F47.c27) (by kernel_rfl) ?_
    refine run_plain (id := 7) (ops := F47.o7) [(0, true)] (by kernel_rfl) (by kernel_rfl) ?_
    refine yS (by kernel_rfl : opAt F47.o7 0 = some (some 4, .assign (.const (.int .i64 (-1))), none)) rfl rfl (fun w' hS => val_assign rfl) ?_
    refine Sch.nil ?_
    refine run_ret1 (by kernel_rfl) Try.func47 Try.results47 rfl ?_
    exact ⟨by rw [idxOf_none (p := fun x => decide (c = x)) (fun i hi => h0 i (by omega) hi)], hT.out1 (by decide)⟩
namespace F34
noncomputable def c0 : Code := bodyOf Try.f34
noncomputable def c1 : Code := cl c0
noncomputable def o0 : Array Oper := rops c1
noncomputable def c2 : Code := cr c0
noncomputable def c3 : Code := cl c2
noncomputable def o1 : Array Oper := rops c3
noncomputable def c4 : Code := cr c2
end F34
theorem badR_ok (x : Int) (w : World) : Calls Try.prog 34 #[.int .i64 x] w (Ret fun v w' => v = .bool (badR x) ∧ w' = w) := by
  refine calls_start (c := F34.c0) (N := 9) [.int .i64 x] Try.func34 (by kernel_rfl) (by kernel_rfl) (by kernel_rfl) ?_
  show Run _ _ _ _ [(0, .int .i64 x)] _ _
  refine run_seq (x := F34.c1) (y := F34.c2) (by kernel_rfl) ?_
  refine run_plain (id := 0) (ops := F34.o0) [(0, true)] (by kernel_rfl) (by kernel_rfl) ?_
  refine yS (by kernel_rfl : opAt F34.o0 0 = some (some 2, .assign (.const (.bool false)), none)) rfl rfl (fun w' hS => val_assign rfl) ?_
  refine Sch.nil ?_
  refine run_seq (x := F34.c3) (y := F34.c4) (by kernel_rfl) ?_
  by_cases hA : x < 0
  · skip
    refine run_plain (id := 1) (ops := F34.o1) [(0, true), (1, true), (2, true), (3, true), (4, true), (5, true), (6, true)] (by kernel_rfl) (by kernel_rfl) ?_
    refine yS (by kernel_rfl : opAt F34.o1 0 = some (some 3, .move (.tmp 0), none)) rfl rfl (fun w' hS => val_move rfl) ?_
    refine yS (by kernel_rfl : opAt F34.o1 1 = some (some 4, .binOp .lss 3 (.tmp 3) (.const (.int .i64 0)) 3, none)) rfl rfl (fun w' hS => val_T (val_lss rfl rfl) hA) ?_
    refine yS (by kernel_rfl : opAt F34.o1 2 = some (some 5, .move (.tmp 4), none)) rfl rfl (fun w' hS => val_move rfl) ?_
    refine pS (by kernel_rfl : opAt F34.o1 3 = some (some 6, .move (.tmp 0), (some (2, false)))) rfl rfl ?_
    refine pS (by kernel_rfl : opAt F34.o1 4 = some (some 7, .binOp .gtr 3 (.tmp 6) (.const (.int .i64 64)) 3, (some (2, false)))) rfl rfl ?_
    refine yS (by kernel_rfl : opAt F34.o1 5 = some (some 8, .pick (.tmp 5) (.const (.bool true)) (.tmp 7), none)) rfl rfl (fun w' hS => val_pick_t rfl rfl) ?_
    refine yS (by kernel_rfl : opAt F34.o1 6 = some (some 2, .assign (.tmp 8), none)) rfl rfl (fun w' hS => val_assign rfl) ?_
    refine Sch.nil ?_
    refine run_ret1 (by kernel_rfl) Try.func34 Try.results34 rfl ?_
    exact ⟨by unfold badR; rw [decide_eq_true hA]; rfl, rfl⟩
  · skip
    refine run_plain (id := 1) (ops := F34.o1) [(0, true), (1, true), (2, true), (3, true), (4, true), (5, true), (6, true)] (by kernel_rfl) (by kernel_rfl) ?_
    refine yS (by kernel_rfl : opAt F34.o1 0 = some (some 3, .move (.tmp 0), none)) rfl rfl (fun w' hS => val_move rfl) ?_
    refine yS (by kernel_rfl : opAt F34.o1 1 = some (some 4, .binOp .lss 3 (.tmp 3) (.const (.int .i64 0)) 3, none)) rfl rfl (fun w' hS => val_F (val_lss rfl rfl) hA) ?_
    refine yS (by kernel_rfl : opAt F34.o1 2 = some (some 5, .move (.tmp 4), none)) rfl rfl (fun w' hS => val_move rfl) ?_
    refine yS (by kernel_rfl : opAt F34.o1 3 = some (some 6, .move (.tmp 0), (some (2, false)))) rfl rfl (fun w' hS => val_move rfl) ?_
    refine yS (by kernel_rfl : opAt F34.o1 4 = some (some 7, .binOp .gtr 3 (.tmp 6) (.const (.int .i64 64)) 3, (some (2, false)))) rfl rfl (fun w' hS => val_gtr rfl rfl) ?_
    refine yS (by kernel_rfl : opAt F34.o1 5 = some (some 8, .pick (.tmp 5) (.const (.bool true)) (.tmp 7), none)) rfl rfl (fun w' hS => val_pick_f rfl rfl) ?_
    refine yS (by kernel_rfl : opAt F34.o1 6 = some (some 2, .assign (.tmp 8), none)) rfl rfl (fun w' hS => val_assign rfl) ?_
    refine Sch.nil ?_
    refine run_ret1 (by kernel_rfl) Try.func34 Try.results34 rfl ?_
    exact ⟨by unfold badR; rw [decide_eq_false hA]; rfl, rfl⟩
namespace F39
noncomputable def c0 : Code := bodyOf Try.f39
noncomputable def c1 : Code := cl c0
noncomputable def o0 : Array Oper := rops c1
noncomputable def c2 : Code := cr c0
noncomputable def c3 : Code := cl c2
noncomputable def o1 : Array Oper := rops c3
noncomputable def c4 : Code := cr c2
end F39
theorem badQ_ok (x : Int) (w : World) : Calls Try.prog 39 #[.int .i64 x] w (Ret fun v w' => v = .bool (badQ x) ∧ w' = w) := by
  refine calls_start (c := F39.c0) (N := 9) [.int .i64 x] Try.func39 (by kernel_rfl) (by kernel_rfl) (by kernel_rfl) ?_
  show Run _ _ _ _ [(0, .int .i64 x)] _ _
  refine run_seq (x := F39.c1) (y := F39.c2) (by kernel_rfl) ?_
  refine run_plain (id := 0) (ops := F39.o0) [(0, true)] (by kernel_rfl) (by kernel_rfl) ?_
  refine yS (by kernel_rfl : opAt F39.o0 0 = some (some 2, .assign (.const (.bool false)), none)) rfl rfl (fun w' hS => val_assign rfl) ?_
  refine Sch.nil ?_
  refine run_seq (x := F39.c3) (y := F39.c4) (by kernel_rfl) ?_
  by_cases hA : x < 0
  · skip
    refine run_plain (id := 1) (ops := F39.o1) [(0, true), (1, true), (2, true), (3, true), (4, true), (5, true), (6, true)] (by kernel_rfl) (by kernel_rfl) ?_
    refine yS (by kernel_rfl : opAt F39.o1 0 = some (some 3, .move (.tmp 0), none)) rfl rfl (fun w' hS => val_move rfl) ?_
    refine yS (by kernel_rfl : opAt F39.o1 1 = some (some 4, .binOp .lss 3 (.tmp 3) (.const (.int .i64 0)) 3, none)) rfl rfl (fun w' hS => val_T (val_lss rfl rfl) hA) ?_
    refine yS (by kernel_rfl : opAt F39.o1 2 = some (some 5, .move (.tmp 4), none)) rfl rfl (fun w' hS => val_move rfl) ?_
    refine pS (by kernel_rfl : opAt F39.o1 3 = some (some 6, .move (.tmp 0), (some (2, false)))) rfl rfl ?_
    refine pS (by kernel_rfl : opAt F39.o1 4 = some (some 7, .binOp .gtr 3 (.tmp 6) (.const (.int .i64 4096)) 3, (some (2, false)))) rfl rfl ?_
    refine yS (by kernel_rfl : opAt F39.o1 5 = some (some 8, .pick (.tmp 5) (.const (.bool true)) (.tmp 7), none)) rfl rfl (fun w' hS => val_pick_t rfl rfl) ?_
    refine yS (by kernel_rfl : opAt F39.o1 6 = some (some 2, .assign (.tmp 8), none)) rfl rfl (fun w' hS => val_assign rfl) ?_
    refine Sch.nil ?_
    refine run_ret1 (by kernel_rfl) Try.func39 Try.results39 rfl ?_
    exact ⟨by unfold badQ; rw [decide_eq_true hA]; rfl, rfl⟩
  · skip
    refine run_plain (id := 1) (ops := F39.o1) [(0, true), (1, true), (2, true), (3, true), (4, true), (5, true), (6, true)] (by kernel_rfl) (by kernel_rfl) ?_
    refine yS (by kernel_rfl : opAt F39.o1 0 = some (some 3, .move (.tmp 0), none)) rfl rfl (fun w' hS => val_move rfl) ?_
    refine yS (by kernel_rfl : opAt F39.o1 1 = some (some 4, .binOp .lss 3 (.tmp 3) (.const (.int .i64 0)) 3, none)) rfl rfl (fun w' hS => val_F (val_lss rfl rfl) hA) ?_
    refine yS (by kernel_rfl : opAt F39.o1 2 = some (some 5, .move (.tmp 4), none)) rfl rfl (fun w' hS => val_move rfl) ?_
    refine yS (by kernel_rfl : opAt F39.o1 3 = some (some 6, .move (.tmp 0), (some (2, false)))) rfl rfl (fun w' hS => val_move rfl) ?_
    refine yS (by kernel_rfl : opAt F39.o1 4 = some (some 7, .binOp .gtr 3 (.tmp 6) (.const (.int .i64 4096)) 3, (some (2, false)))) rfl rfl (fun w' hS => val_gtr rfl rfl) ?_
    refine yS (by kernel_rfl : opAt F39.o1 5 = some (some 8, .pick (.tmp 5) (.const (.bool true)) (.tmp 7), none)) rfl rfl (fun w' hS => val_pick_f rfl rfl) ?_
    refine yS (by kernel_rfl : opAt F39.o1 6 = some (some 2, .assign (.tmp 8), none)) rfl rfl (fun w' hS => val_assign rfl) ?_
    refine Sch.nil ?_
    refine run_ret1 (by kernel_rfl) Try.func39 Try.results39 rfl ?_
    exact ⟨by unfold badQ; rw [decide_eq_false hA]; rfl, rfl⟩
end Go.Proofs.Ytpmokjccfaakfaa

