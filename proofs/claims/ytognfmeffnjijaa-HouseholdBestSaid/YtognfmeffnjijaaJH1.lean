/- Steps through functions of the program. -/
import Derived.Test.YtognfmeffnjijaaJU1
import Derived.Test.YtognfmeffnjijaaL2
set_option linter.unusedVariables false
set_option linter.unusedSimpArgs false
set_option maxRecDepth 100000
set_option maxHeartbeats 4000000
namespace Go.Proofs.Ytognfmeffnjijaa
open Go.K Go.K.Rep

namespace F53
noncomputable def c0 := bodyOf Try.f53
end F53
theorem numb_ok (x : Int) (w : World) : Calls Try.prog 53 #[.int .i64 x] w (Ret fun v w' => v = .bool (decide (x < 0 ∨ 64 ≤ x)) ∧ w' = w) := by
 refine calls_start (c := F53.c0) (N := 9) [.int .i64 x] Try.func53 (by kernel_rfl) (by kernel_rfl) (by kernel_rfl) ?_
 show Run _ _ _ _ [(0, .int .i64 x)] _ _
 refine run_sq ?_
 refine run_pl [yy 0] ?_
 refine yAc 2 (.bool false) ?_
 refine Sch.nil ?_
 refine run_sq ?_
 by_cases hA : x < 0
 ·
  refine run_pl [yy 0, yy 1, yy 2, yy 3, yy 4, yy 5, yy 6] ?_
  refine yM 3 0 ?_
  refine yV (kq 4 (.binOp .lss 3 (.tmp 3) (.const (.int .i64 0)) 3)) (fun _ => val_T (val_lss rfl rfl) hA) ?_
  refine yM 5 4 ?_
  refine pX 6 2 false ?_
  refine pX 7 2 false ?_
  refine yOt 8 5 7 ?_
  refine yA 2 8 ?_
  refine Sch.nil ?_
  refine run_ret1 (by kernel_rfl) Try.func53 Try.results53 rfl ?_
  exact ⟨by rw [decide_eq_true (Or.inl hA)], rfl⟩
 ·
  refine run_pl [yy 0, yy 1, yy 2, yy 3, yy 4, yy 5, yy 6] ?_
  refine yM 3 0 ?_
  refine yV (kq 4 (.binOp .lss 3 (.tmp 3) (.const (.int .i64 0)) 3)) (fun _ => val_F (val_lss rfl rfl) hA) ?_
  refine yM 5 4 ?_
  refine yMg 6 0 2 false ?_
  refine yV (kg 7 (.binOp .geq 3 (.tmp 6) (.const (.int .i64 64)) 3) 2 false) (fun _ => val_geq rfl rfl) ?_
  refine yOf 8 5 7 ?_
  refine yA 2 8 ?_
  refine Sch.nil ?_
  refine run_ret1 (by kernel_rfl) Try.func53 Try.results53 rfl ?_
  exact ⟨by congr 1; apply decide_eq_decide.2; omega, rfl⟩
namespace F59
noncomputable def c0 := bodyOf Try.f59
noncomputable def c7 := (cl (cl (cr (cl (cr c0)))))
noncomputable def c16 := (cl (cl (cl (cr (cr c7)))))
noncomputable def c17 := (cr (cl (cl (cr (cr c7)))))
end F59
/-- 'slices.IndexFunc'. -/
theorem indexFunc_ok {w₀ : World} {M : Nat → Prop} {l : List Int} {vl : Value} {p : Int → Bool} {nf : Nat} (hcall : ∀ args w, (callFunc nf args).run Try.prog w = .ok (.enter nf args) w)
    (hp : ∀ x w, Calls Try.prog nf #[.int .i64 x] w (Ret fun v w' => v = .bool (p x) ∧ w' = w)) (hl : RV w₀ M l vl) : Calls Try.prog 59 #[vl, .func (.func nf) #[] #[]] w₀ (Ret fun v w' => v = .int .i64 (idxOf p l) ∧ w' = w₀) := by
 refine calls_start (c := F59.c0) (N := 19) [vl, .func (.func nf) #[] #[]] Try.func59 (by kernel_rfl) (by kernel_rfl) (by kernel_rfl) ?_
 show Run _ _ _ _ [(0, vl), (1, .func (.func nf) #[] #[])] _ _
 refine run_sq ?_
 refine run_pl [yy 0] ?_
 refine yAc 4 (.int .i64 0) ?_
 refine Sch.nil ?_
 refine run_sq ?_
 refine run_sq ?_
 refine run_pl [yy 0, yy 1, yy 2] ?_
 refine yM 6 0 ?_
 refine yS (kq 7 (.call { callee := .builtin .len, args := #[(.tmp 6)], argTypes := #[22] })) rfl rfl (fun w' hS => hl.lenV rfl Try.underlying22 w' ) ?_
 refine yV (kq 8 (.move (.const (.int .i64 0)))) (fun _ => val_move rfl) ?_
 refine Sch.nil ?_
 refine run_bk 0 ?_
 
 refine run_lp (ι := Nat) (I := fun x w => x ≤ l.length ∧ (∀ i (hi : i < x) (hl : i < l.length), p l[i] = false) ∧ w = w₀) (e := fun x => [(0, vl), (1, .func (.func nf) #[] #[]), (7, .int .i64 l.length), (8, .int .i64 x)]) (m := fun x => l.length - x) (x₀ := 0) (sr 0 (sr 1 (sr 7 (sr 8 (sub_nil _))))) ?_ ?_
 · exact ⟨Nat.zero_le _, fun i hi _ => by omega, rfl⟩
 intro k w1 hI next
 obtain ⟨hk, h0, rfl⟩ := hI
 try simp only at hk h0
 have next1 := next
 clear next
 show Run _ _ _ _ [(0, vl), (1, .func (.func nf) #[] #[]), (7, .int .i64 l.length), (8, .int .i64 k)] _ _
 have hle := hl.le
 refine run_sq ?_
 refine run_pl [yy 0] ?_
 refine yV (kq 9 (.binOp .lss 3 (.tmp 8) (.tmp 7) 3)) (fun _ => val_lss rfl rfl) ?_
 refine Sch.nil ?_
 refine run_sq ?_
 refine run_i 9 rfl (fun h9 => ?_) (fun h9 => ?_)
 ·
  have hkl : k < l.length := by omega
  refine run_sk ?_
  refine run_sq ?_
  refine run_bk 1 ?_
  refine run_sq ?_
  refine run_pl [yy 0, yy 1] ?_
  refine yM 10 8 ?_
  refine yA 5 10 ?_
  refine Sch.nil ?_
  refine run_sq ?_
  refine run_pl [yy 0, yy 1, yy 2, yy 3, nn 4, nn 5] ?_
  refine yM 11 1 ?_
  refine yM 12 0 ?_
  refine yM 13 5 ?_
  refine iS (e := 3) (kq 14 (.indexAddr 22 (.tmp 12) (.tmp 13))) rfl rfl hl rfl (by kernel_rfl) rfl (by omega) (by omega) ?_
  intro b14 o14 h14
  try simp only [Int.toNat_natCast] at h14
  refine lN (kq 15 (.load 3 (.tmp 14))) rfl rfl trivial h14 (by kernel_rfl) rfl rfl ?_
  intro v15 g15
  first | (obtain rfl := rv_nat.1 g15) | (obtain rfl := rv_int.1 g15)
  refine cS (kq 16 (.call { callee := .value (.tmp 11), args := #[(.tmp 15)], argTypes := #[3] })) rfl rfl (enters_func hcall rfl rfl) (hp _ _) ?_
  rintro vw2 w2 ⟨rfl, rfl⟩
  refine ⟨trivial, ?_⟩
  refine Sch.nil ?_
  refine run_c 16 rfl (fun h16 => ?_) (fun h16 => ?_)
  ·
   refine run_sq ?_
   refine run_pl [yy 0, yy 1] ?_
   refine yM 17 5 ?_
   refine yA 4 17 ?_
   refine Sch.nil ?_
   refine run_ret1 (by kernel_rfl) Try.func59 Try.results59 rfl ?_
   exact ⟨by rw [idxOf_at hkl (fun i hi => h0 i hi (by omega)) h16], rfl⟩
  ·
   refine run_sk ?_
   refine run_inBlock ?_
   refine run_pl [yy 0, yy 1] ?_
   refine yV (kq 18 (.binOp .add 3 (.tmp 8) (.const (.int .i64 1)) 3)) (fun _ => val_addi rfl rfl (by omega) (by omega)) ?_
   refine yM 8 18 ?_
   refine Sch.nil ?_
   refine kp (sub_cons 0 rfl rfl (sub_cons 1 rfl rfl (sub_cons 7 rfl rfl (sub_cons 8 rfl (eq_int (by simp)) (sub_nil _))))) (next1 (k + 1) _ ⟨(by first | omega | (simp only; omega)), (fun i hi hl => by
       by_cases e : i = k
       · subst e; exact h16
       · exact h0 i (by omega) hl), rfl⟩ (by first | omega | (simp only; omega)))
 ·
  have hkl : k = l.length := by omega
  refine run_ex 0 ?_
  refine run_sq ?_
  refine run_pl [yy 0] ?_
  refine yV (kq 4 (.assign (.const (.int .i64 (-1))))) (fun _ => val_assign rfl) ?_
  refine Sch.nil ?_
  refine run_ret1 (by kernel_rfl) Try.func59 Try.results59 rfl ?_
  exact ⟨by rw [idxOf_none (fun i hi => h0 i (by omega) hi)], rfl⟩
namespace F52
noncomputable def c0 := bodyOf Try.f52
end F52
/-- 'slices.ContainsFunc'. -/
theorem containsFunc_ok {w₀ : World} {M : Nat → Prop} {l : List Int} {vl : Value} {p : Int → Bool} {nf : Nat} (hcall : ∀ args w, (callFunc nf args).run Try.prog w = .ok (.enter nf args) w)
    (hp : ∀ x w, Calls Try.prog nf #[.int .i64 x] w (Ret fun v w' => v = .bool (p x) ∧ w' = w)) (hl : RV w₀ M l vl) : Calls Try.prog 52 #[vl, .func (.func nf) #[] #[]] w₀ (Ret fun v w' => v = .bool (l.any p) ∧ w' = w₀) := by
 refine calls_start (c := F52.c0) (N := 9) [vl, .func (.func nf) #[] #[]] Try.func52 (by kernel_rfl) (by kernel_rfl) (by kernel_rfl) ?_
 show Run _ _ _ _ [(0, vl), (1, .func (.func nf) #[] #[])] _ _
 refine run_sq ?_
 refine run_pl [yy 0] ?_
 refine yAc 4 (.bool false) ?_
 refine Sch.nil ?_
 refine run_sq ?_
 refine run_pl [yy 0, yy 1, nn 2, yy 3, yy 4] ?_
 refine yM 5 0 ?_
 refine yM 6 1 ?_
 refine cS (kq 7 (.call { callee := .value (.func 59), args := #[(.tmp 5), (.tmp 6)], argTypes := #[22, 53] })) rfl rfl (ent Try.call59 rfl) (indexFunc_ok hcall hp hl) ?_
 rintro vw1 w1 ⟨rfl, rfl⟩
 refine ⟨trivial, ?_⟩
 refine yV (kq 8 (.binOp .geq 3 (.tmp 7) (.const (.int .i64 0)) 3)) (fun _ => val_geq rfl rfl) ?_
 refine yA 4 8 ?_
 refine Sch.nil ?_
 refine run_ret1 (by kernel_rfl) Try.func52 Try.results52 rfl ?_
 exact ⟨by rw [idxOf_ge], rfl⟩
namespace F35
noncomputable def c0 := bodyOf Try.f35
end F35
theorem any64 {l : List Nat} (h : ∀ x ∈ l, x < 64) : (l.map fun n : Nat => (n : Int)).any (fun x => decide (x < 0 ∨ 64 ≤ x)) = false := by
  rw [List.any_eq_false]
  intro x hx
  obtain ⟨y, hy, rfl⟩ := List.mem_map.1 hx
  have := h y hy
  simp; omega
theorem numbered_ok {w : World} {M : Nat → Prop} {l : List Nat} {vl : Value} (hl : RV w M l vl) (h64 : ∀ x ∈ l, x < 64) : Calls Try.prog 35 #[vl] w (Ret fun v w' => v = .bool true ∧ w' = w) := by
 refine calls_start (c := F35.c0) (N := 6) [vl] Try.func35 (by kernel_rfl) (by kernel_rfl) (by kernel_rfl) ?_
 show Run _ _ _ _ [(0, vl)] _ _
 refine run_sq ?_
 refine run_pl [yy 0] ?_
 refine yAc 2 (.bool false) ?_
 refine Sch.nil ?_
 refine run_sq ?_
 refine run_pl [yy 0, nn 1, yy 2, yy 3] ?_
 refine yM 3 0 ?_
 refine cS (kq 4 (.call { callee := .value (.func 52), args := #[(.tmp 3), (.func 53)], argTypes := #[22, 53] })) rfl rfl (ent Try.call52 rfl) (containsFunc_ok (p := fun x => decide (x < 0 ∨ 64 ≤ x)) (fun args w => Try.call53 args w) numb_ok hl.ints) ?_
 rintro vw1 w1 ⟨rfl, rfl⟩
 rw [any64 h64]
 refine ⟨trivial, ?_⟩
 refine yV (kq 5 (.unOp .not 4 (.tmp 4))) (fun _ => val_not rfl) ?_
 refine yA 2 5 ?_
 refine Sch.nil ?_
 refine run_ret1 (by kernel_rfl) Try.func35 Try.results35 rfl ?_
 exact ⟨rfl, rfl⟩
namespace F22
noncomputable def c0 := bodyOf Try.f22
noncomputable def c8 := (cl (cr (cr (cl (cr c0)))))
noncomputable def c15 := (cl (cl (cl (cr (cr c0)))))
noncomputable def c16 := (cr (cl (cl (cr (cr c0)))))
end F22
/-- 'Check', of what is valid. -/
theorem hcheck_ok {w₀ : World} {C : Nat → Nat} {n m : Nat} {l : List K.Edge} {al bl : List Nat} {va vb vl : Value} (hF : Lim w₀ C) (hV : VE n m l) (hH : HH n m al bl) (ha : RV w₀ (Mc C) al va) (hb : RV w₀ (Mc C) bl vb) (hl : RV w₀ (Mc C) l vl) :
    Calls Try.prog 22 #[.int .i64 n, .int .i64 m, va, vb, vl] w₀ (Ret fun v w' => v = .int .i64 0 ∧ Stp [] w₀ C w' C) := by
 have hF0 := hF
 have hT := Stp.refl [2, 3, 4, 5, 6, 7, 8, 9] w₀ (col1 C)
 replace hF := hF.col1
 replace ha : RV w₀ (Mc (col1 C)) al va := by rw [Mc_col1]; exact ha
 replace hb : RV w₀ (Mc (col1 C)) bl vb := by rw [Mc_col1]; exact hb
 replace hl : RV w₀ (Mc (col1 C)) l vl := by rw [Mc_col1]; exact hl
 refine calls_start (c := F22.c0) (N := 39) [.int .i64 n, .int .i64 m, va, vb, vl] Try.func22 (by kernel_rfl) (by kernel_rfl) (by kernel_rfl) ?_
 show Run _ _ _ _ [(0, .int .i64 n), (1, .int .i64 m), (2, va), (3, vb), (4, vl)] _ _
 refine run_sq ?_
 refine run_pl [yy 0] ?_
 refine yAc 10 (.int .i64 0) ?_
 refine Sch.nil ?_
 refine run_sq ?_
 refine run_sq ?_
 refine run_pl [yy 0, yy 1, yy 2, nn 3, yy 4] ?_
 refine yM 12 0 ?_
 refine yM 13 1 ?_
 refine yM 14 4 ?_
 refine cS (kq 15 (.call { callee := .value (.func 31), args := #[(.tmp 12), (.tmp 13), (.tmp 14)], argTypes := #[3, 3, 29] })) rfl rfl (ent Try.call31 rfl) (echeck_ok (n := n) (m := m) hF hl) ?_
 rintro vw1 w1 ⟨rfl, hs⟩
 rw [hV.check]
 refine ⟨trivial, ?_⟩
 replace hF := hF.st hs
 replace hT := hT.t hs; replace ha := ha.t hs; replace hb := hb.t hs; replace hl := hl.t hs
 refine yA 11 15 ?_
 refine Sch.nil ?_
 refine run_sq ?_
 refine run_pl [yy 0, yy 1] ?_
 refine yM 16 11 ?_
 refine yV (kq 17 (.binOp .neq 35 (.tmp 16) (.const (.int .i64 0)) 35)) (fun _ => val_is (val_neq rfl rfl) (show _ = Value.bool false from congrArg Value.bool (decide_eq_false (by decide)))) ?_
 refine Sch.nil ?_
 refine run_cF 17 ?_
 refine run_sk ?_
 refine run_sq ?_
 refine run_bk 0 ?_
 refine run_sq ?_
 refine run_pl [yy 0, yy 1, yy 2, yy 3, yy 4, yy 5, yy 6, yy 7, yy 8, yy 9, yy 10] ?_
 refine yM 20 2 ?_
 refine yS (kq 21 (.call { callee := .builtin .len, args := #[(.tmp 20)], argTypes := #[22] })) rfl rfl (fun w' hS => ha.lenV rfl Try.underlying22 w' ) ?_
 refine yM 22 0 ?_
 refine yV (kq 23 (.binOp .neq 3 (.tmp 21) (.tmp 22) 3)) (fun _ => val_is (val_neq rfl rfl) (show _ = Value.bool false from congrArg Value.bool (decide_eq_false (by have := hH.la; omega)))) ?_
 refine yM 24 23 ?_
 refine yMg 25 3 4 false ?_
 refine yS (kg 26 (.call { callee := .builtin .len, args := #[(.tmp 25)], argTypes := #[22] }) 4 false) rfl rfl (fun w' hS => hb.lenV rfl Try.underlying22 w' ) ?_
 refine yMg 27 1 4 false ?_
 refine yV (kg 28 (.binOp .neq 3 (.tmp 26) (.tmp 27) 3) 4 false) (fun _ => val_is (val_neq rfl rfl) (show _ = Value.bool false from congrArg Value.bool (decide_eq_false (by have := hH.lb; omega)))) ?_
 refine yOf 29 24 28 ?_
 refine yA 19 29 ?_
 refine Sch.nil ?_
 refine run_cF 19 ?_
 refine run_sq ?_
 refine run_pl [yy 0, nn 1, yy 2, yy 3, yy 4, nn 5, yy 6, yy 7, yy 8] ?_
 refine yM 31 2 ?_
 refine cS (kq 32 (.call { callee := .value (.func 35), args := #[(.tmp 31)], argTypes := #[22] })) rfl rfl (ent Try.call35 rfl) (numbered_ok ha hH.a64) ?_
 rintro vw2 w2 ⟨rfl, rfl⟩
 refine ⟨trivial, ?_⟩
 refine yV (kq 33 (.unOp .not 4 (.tmp 32))) (fun _ => val_not rfl) ?_
 refine yM 34 33 ?_
 refine yMg 35 3 3 false ?_
 refine cS (kg 36 (.call { callee := .value (.func 35), args := #[(.tmp 35)], argTypes := #[22] }) 3 false) rfl rfl (ent Try.call35 rfl) (numbered_ok hb hH.b64) ?_
 rintro vw3 w3 ⟨rfl, rfl⟩
 refine ⟨trivial, ?_⟩
 refine yV (kg 37 (.unOp .not 4 (.tmp 36)) 3 false) (fun _ => val_not rfl) ?_
 refine yOf 38 34 37 ?_
 refine yA 30 38 ?_
 refine Sch.nil ?_
 refine run_cF 30 ?_
 refine run_sk ?_
 refine run_inBlock ?_
 refine run_sq ?_
 refine run_pl [yy 0] ?_
 refine yAc 10 (.int .i64 0) ?_
 refine Sch.nil ?_
 refine run_ret1 (by kernel_rfl) Try.func22 Try.results22 rfl ?_
 exact ⟨rfl, hT.out1 (by decide)⟩
namespace F36
noncomputable def c0 := bodyOf Try.f36
noncomputable def c8 := (cl (cr (cl (cr (cr c0)))))
noncomputable def c17 := (cl (cl (cr (cr (cl c8)))))
end F36
/-- 'members'. -/
theorem members_ok {w₀ : World} {C : Nat → Nat} {l : List Nat} {vl : Value} {p : Nat} (hF : Lim w₀ C) (hl : RV w₀ (Mc C) l vl) (h64 : l.length ≤ 64) : Calls Try.prog 36 #[vl, .int .i64 p] w₀ (Ret fun v w' => Stp [] w₀ C w' C ∧ RV w' (Mc C) (memb (gN l) p l.length) v) := by
 have hF0 := hF
 have hT := Stp.refl [2, 3, 4, 5, 6, 7, 8, 9] w₀ (col1 C)
 replace hF := hF.col1
 replace hl : RV w₀ (Mc (col1 C)) l vl := by rw [Mc_col1]; exact hl
 refine calls_start (c := F36.c0) (N := 24) [vl, .int .i64 p] Try.func36 (by kernel_rfl) (by kernel_rfl) (by kernel_rfl) ?_
 show Run _ _ _ _ [(0, vl), (1, .int .i64 p)] _ _
 refine run_sq ?_
 refine run_pl [yy 0] ?_
 refine yV (kq 4 (.assign (.const (.slice none 0 0)))) (fun _ => val_assign rfl) ?_
 refine Sch.nil ?_
 refine run_sq ?_
 refine run_pl [yy 0] ?_
 refine yV (kq 5 (.assign (.const (.slice none 0 0)))) (fun _ => val_assign rfl) ?_
 refine Sch.nil ?_
 refine run_sq ?_
 refine run_sq ?_
 refine run_pl [yy 0, yy 1, yy 2] ?_
 refine yM 8 0 ?_
 refine yS (kq 9 (.call { callee := .builtin .len, args := #[(.tmp 8)], argTypes := #[22] })) rfl rfl (fun w' hS => hl.lenV rfl Try.underlying22 w' ) ?_
 refine yV (kq 10 (.move (.const (.int .i64 0)))) (fun _ => val_move rfl) ?_
 refine Sch.nil ?_
 refine run_bk 0 ?_
 
 refine run_lp (ι := Nat × Value × (Nat → Nat)) (I := fun x w => x.1 ≤ l.length ∧ Lim w x.2.2 ∧ Stp [2, 3, 4, 5, 6, 7, 8, 9] w₀ (col1 C) w x.2.2 ∧ RV w (Mc x.2.2) l vl ∧ OwnL w x.2.2 3 3 x.2.1 (memb (gN l) p x.1)) (e := fun x => [(0, vl), (1, .int .i64 p), (5, x.2.1), (8, vl), (9, .int .i64 l.length), (10, .int .i64 x.1)]) (m := fun x => l.length - x.1) (x₀ := (0, .slice none 0 0, col1 C)) (sr 0 (sr 1 (sr 5 (sr 8 (sr 9 (sr 10 (sub_nil _))))))) ?_ ?_
 · exact ⟨Nat.zero_le _, hF, hT, hl, OwnL.nil⟩
 intro ⟨i, vo, C1⟩ w1 hI next
 obtain ⟨hi, hF, hT, hl, ho⟩ := hI
 try simp only at hi hF hT hl ho
 have next1 := next
 clear next
 show Run _ _ _ _ [(0, vl), (1, .int .i64 p), (5, vo), (8, vl), (9, .int .i64 l.length), (10, .int .i64 i)] _ _
 have hml := memb_len (gN l) p i
 refine run_sq ?_
 refine run_pl [yy 0] ?_
 refine yV (kq 11 (.binOp .lss 3 (.tmp 10) (.tmp 9) 3)) (fun _ => val_lss rfl rfl) ?_
 refine Sch.nil ?_
 refine run_sq ?_
 refine run_i 11 rfl (fun h11 => ?_) (fun h11 => ?_)
 ·
  have hil : i < l.length := by omega
  have hgi : gN l i = l[i]'hil := getD_in hil
  refine run_sk ?_
  refine run_sq ?_
  refine run_bk 1 ?_
  refine run_sq ?_
  refine run_pl [yy 0, yy 1, nn 2, yy 3, yy 4] ?_
  refine yM 12 10 ?_
  refine iS (e := 3) (kq 13 (.indexAddr 22 (.tmp 8) (.tmp 10))) rfl rfl hl rfl (by kernel_rfl) rfl (by omega) (by omega) ?_
  intro b13 o13 h13
  try simp only [Int.toNat_natCast] at h13
  refine lN (kq 14 (.load 3 (.tmp 13))) rfl rfl trivial h13 (by kernel_rfl) rfl rfl ?_
  intro v14 g14
  first | (obtain rfl := rv_nat.1 g14) | (obtain rfl := rv_int.1 g14)
  refine yA 6 12 ?_
  refine yA 7 14 ?_
  refine Sch.nil ?_
  refine run_sq ?_
  refine run_pl [yy 0, yy 1, yy 2] ?_
  refine yM 15 7 ?_
  refine yM 16 1 ?_
  refine yV (kq 17 (.binOp .eql 3 (.tmp 15) (.tmp 16) 3)) (fun _ => val_eql rfl rfl) ?_
  refine Sch.nil ?_
  refine run_i 17 rfl (fun h17 => ?_) (fun h17 => ?_)
  ·
   have hmi : memb (gN l) p (i + 1) = memb (gN l) p i ++ [i] := by rw [memb_succ, if_pos (by omega)]
   refine run_pl [yy 0, yy 1, nn 2, nn 3, yy 4] ?_
   refine yM 18 5 ?_
   refine yM 19 6 ?_
   refine aS (kq 20 (.buildSlice 22 1 #[(0, (.tmp 19))])) rfl rfl (a_buildSlice (ys := ([i] : List Nat)) (e := 3) (bytes := 8) hF (by kernel_rfl) rfl (by decide) (by decide) ⟨rfl, ⟨_, rfl, rv_nat.2 rfl⟩, trivial⟩) ?_
   rintro v20 w2 ⟨hs, g20, hF⟩
   refine ⟨trivial, ?_⟩
   replace hT := hT.t hs; replace hl := hl.t hs; replace ho := ho.t hs; replace h13 := h13.t hs
   refine aS (kq 21 (.call { callee := .builtin .append, args := #[(.tmp 18), (.tmp 20)], argTypes := #[22, 22] })) rfl rfl (a_append (e := 3) (bytes := 8) hF (by decide) rfl rfl (by kernel_rfl) (by decide) ho g20 (by simp only [List.length_cons, List.length_nil]; omega) (by simp only [List.length_cons, List.length_nil]; omega)) ?_
   rintro v21 w3 ⟨Cw3, hs, ho, hF⟩
   refine ⟨trivial, ?_⟩
   replace hT := hT.t hs; replace hl := hl.t hs; replace h13 := h13.t hs; replace g20 := g20.t hs
   refine yA 5 21 ?_
   refine Sch.nil ?_
   refine run_inBlock ?_
   refine run_pl [yy 0, yy 1] ?_
   refine yV (kq 22 (.binOp .add 3 (.tmp 10) (.const (.int .i64 1)) 3)) (fun _ => val_addi rfl rfl (by omega) (by omega)) ?_
   refine yM 10 22 ?_
   refine Sch.nil ?_
   refine kp (sub_cons 0 rfl rfl (sub_cons 1 rfl rfl (sub_cons 5 rfl rfl (sub_cons 8 rfl rfl (sub_cons 9 rfl rfl (sub_cons 10 rfl (eq_int (by simp)) (sub_nil _))))))) (next1 (i + 1, v21, Cw3) _ ⟨(by first | omega | (simp only; omega)), hF, hT, hl, (by simp only; rw [hmi]; exact ho)⟩ (by first | omega | (simp only; omega)))
  ·
   have hmi : memb (gN l) p (i + 1) = memb (gN l) p i := by rw [memb_succ, if_neg (by omega), List.append_nil]
   refine run_sk ?_
   refine run_inBlock ?_
   refine run_pl [yy 0, yy 1] ?_
   refine yV (kq 22 (.binOp .add 3 (.tmp 10) (.const (.int .i64 1)) 3)) (fun _ => val_addi rfl rfl (by omega) (by omega)) ?_
   refine yM 10 22 ?_
   refine Sch.nil ?_
   refine kp (sub_cons 0 rfl rfl (sub_cons 1 rfl rfl (sub_cons 5 rfl rfl (sub_cons 8 rfl rfl (sub_cons 9 rfl rfl (sub_cons 10 rfl (eq_int (by simp)) (sub_nil _))))))) (next1 (i + 1, vo, C1) _ ⟨(by first | omega | (simp only; omega)), hF, hT, hl, (by simp only; rw [hmi]; exact ho)⟩ (by first | omega | (simp only; omega)))
 ·
  have hil : i = l.length := by omega
  subst hil
  refine run_ex 0 ?_
  refine run_sq ?_
  refine run_pl [yy 0, yy 1] ?_
  refine yM 23 5 ?_
  refine yA 4 23 ?_
  refine Sch.nil ?_
  refine run_ret1 (by kernel_rfl) Try.func36 Try.results36 rfl ?_
  exact ⟨hT.out1 (by decide), ho.out hT hF0 (Mc_col1 C) (fun b _ => col1_lt C (by decide) b) (by omega)⟩
namespace F55
noncomputable def c0 := bodyOf Try.f55
noncomputable def c7 := (cl (cl (cr (cl (cr c0)))))
noncomputable def c16 := (cl (cl (cl (cr (cr c7)))))
noncomputable def c17 := (cr (cl (cl (cr (cr c7)))))
end F55
/-- 'slices.Index'. -/
theorem indexI_ok {w₀ : World} {M : Nat → Prop} {l : List Int} {vl : Value} {u : Int} (hl : RV w₀ M l vl) : Calls Try.prog 55 #[vl, .int .i64 u] w₀ (Ret fun v w' => v = .int .i64 (ixI l u) ∧ w' = w₀) := by
 refine calls_start (c := F55.c0) (N := 19) [vl, .int .i64 u] Try.func55 (by kernel_rfl) (by kernel_rfl) (by kernel_rfl) ?_
 show Run _ _ _ _ [(0, vl), (1, .int .i64 u)] _ _
 refine run_sq ?_
 refine run_pl [yy 0] ?_
 refine yAc 4 (.int .i64 0) ?_
 refine Sch.nil ?_
 refine run_sq ?_
 refine run_sq ?_
 refine run_pl [yy 0, yy 1, yy 2] ?_
 refine yM 6 0 ?_
 refine yS (kq 7 (.call { callee := .builtin .len, args := #[(.tmp 6)], argTypes := #[22] })) rfl rfl (fun w' hS => hl.lenV rfl Try.underlying22 w' ) ?_
 refine yV (kq 8 (.move (.const (.int .i64 0)))) (fun _ => val_move rfl) ?_
 refine Sch.nil ?_
 refine run_bk 0 ?_
 
 refine run_lp (ι := Nat) (I := fun x w => x ≤ l.length ∧ (∀ i (hi : i < x) (hl : i < l.length), decide (u = l[i]) = false) ∧ w = w₀) (e := fun x => [(0, vl), (1, .int .i64 u), (7, .int .i64 l.length), (8, .int .i64 x)]) (m := fun x => l.length - x) (x₀ := 0) (sr 0 (sr 1 (sr 7 (sr 8 (sub_nil _))))) ?_ ?_
 · exact ⟨Nat.zero_le _, fun i hi _ => by omega, rfl⟩
 intro k w1 hI next
 obtain ⟨hk, h0, rfl⟩ := hI
 try simp only at hk h0
 have next1 := next
 clear next
 show Run _ _ _ _ [(0, vl), (1, .int .i64 u), (7, .int .i64 l.length), (8, .int .i64 k)] _ _
 have hle := hl.le
 refine run_sq ?_
 refine run_pl [yy 0] ?_
 refine yV (kq 9 (.binOp .lss 3 (.tmp 8) (.tmp 7) 3)) (fun _ => val_lss rfl rfl) ?_
 refine Sch.nil ?_
 refine run_sq ?_
 refine run_i 9 rfl (fun h9 => ?_) (fun h9 => ?_)
 ·
  have hkl : k < l.length := by omega
  refine run_sk ?_
  refine run_sq ?_
  refine run_bk 1 ?_
  refine run_sq ?_
  refine run_pl [yy 0, yy 1] ?_
  refine yM 10 8 ?_
  refine yA 5 10 ?_
  refine Sch.nil ?_
  refine run_sq ?_
  refine run_pl [yy 0, yy 1, yy 2, yy 3, nn 4, yy 5] ?_
  refine yM 11 1 ?_
  refine yM 12 0 ?_
  refine yM 13 5 ?_
  refine iS (e := 3) (kq 14 (.indexAddr 22 (.tmp 12) (.tmp 13))) rfl rfl hl rfl (by kernel_rfl) rfl (by omega) (by omega) ?_
  intro b14 o14 h14
  try simp only [Int.toNat_natCast] at h14
  refine lN (kq 15 (.load 3 (.tmp 14))) rfl rfl trivial h14 (by kernel_rfl) rfl rfl ?_
  intro v15 g15
  first | (obtain rfl := rv_nat.1 g15) | (obtain rfl := rv_int.1 g15)
  refine yV (kq 16 (.binOp .eql 3 (.tmp 11) (.tmp 15) 3)) (fun _ => val_eql rfl rfl) ?_
  refine Sch.nil ?_
  refine run_i 16 rfl (fun h16 => ?_) (fun h16 => ?_)
  ·
   refine run_sq ?_
   refine run_pl [yy 0, yy 1] ?_
   refine yM 17 5 ?_
   refine yA 4 17 ?_
   refine Sch.nil ?_
   refine run_ret1 (by kernel_rfl) Try.func55 Try.results55 rfl ?_
   exact ⟨by unfold ixI; rw [idxOf_at (p := fun y => decide (u = y)) hkl (fun i hi => h0 i hi (by omega)) (decide_eq_true h16)], rfl⟩
  ·
   refine run_sk ?_
   refine run_inBlock ?_
   refine run_pl [yy 0, yy 1] ?_
   refine yV (kq 18 (.binOp .add 3 (.tmp 8) (.const (.int .i64 1)) 3)) (fun _ => val_addi rfl rfl (by omega) (by omega)) ?_
   refine yM 8 18 ?_
   refine Sch.nil ?_
   refine kp (sub_cons 0 rfl rfl (sub_cons 1 rfl rfl (sub_cons 7 rfl rfl (sub_cons 8 rfl (eq_int (by simp)) (sub_nil _))))) (next1 (k + 1) _ ⟨(by first | omega | (simp only; omega)), (fun i hi hl => by
       by_cases e : i = k
       · subst e; exact decide_eq_false h16
       · exact h0 i (by omega) hl), rfl⟩ (by first | omega | (simp only; omega)))
 ·
  have hkl : k = l.length := by omega
  refine run_ex 0 ?_
  refine run_sq ?_
  refine run_pl [yy 0] ?_
  refine yV (kq 4 (.assign (.const (.int .i64 (-1))))) (fun _ => val_assign rfl) ?_
  refine Sch.nil ?_
  refine run_ret1 (by kernel_rfl) Try.func55 Try.results55 rfl ?_
  exact ⟨by unfold ixI; rw [idxOf_none (p := fun y => decide (u = y)) (fun i hi => h0 i (by omega) hi)], rfl⟩
namespace F42
noncomputable def c0 := bodyOf Try.f42
end F42
/-- 'slices.Contains'. -/
theorem containsI_ok {w₀ : World} {M : Nat → Prop} {l : List Int} {vl : Value} {u : Int} (hl : RV w₀ M l vl) : Calls Try.prog 42 #[vl, .int .i64 u] w₀ (Ret fun v w' => v = .bool (decide (u ∈ l)) ∧ w' = w₀) := by
 refine calls_start (c := F42.c0) (N := 9) [vl, .int .i64 u] Try.func42 (by kernel_rfl) (by kernel_rfl) (by kernel_rfl) ?_
 show Run _ _ _ _ [(0, vl), (1, .int .i64 u)] _ _
 refine run_sq ?_
 refine run_pl [yy 0] ?_
 refine yAc 4 (.bool false) ?_
 refine Sch.nil ?_
 refine run_sq ?_
 refine run_pl [yy 0, yy 1, nn 2, yy 3, yy 4] ?_
 refine yM 5 0 ?_
 refine yM 6 1 ?_
 refine cS (kq 7 (.call { callee := .value (.func 55), args := #[(.tmp 5), (.tmp 6)], argTypes := #[22, 3] })) rfl rfl (ent Try.call55 rfl) (indexI_ok hl) ?_
 rintro vw1 w1 ⟨rfl, rfl⟩
 refine ⟨trivial, ?_⟩
 refine yV (kq 8 (.binOp .geq 3 (.tmp 7) (.const (.int .i64 0)) 3)) (fun _ => val_geq rfl rfl) ?_
 refine yA 4 8 ?_
 refine Sch.nil ?_
 refine run_ret1 (by kernel_rfl) Try.func42 Try.results42 rfl ?_
 exact ⟨by congr 1; exact decide_eq_decide.2 ixI_ge, rfl⟩
end Go.Proofs.Ytognfmeffnjijaa
