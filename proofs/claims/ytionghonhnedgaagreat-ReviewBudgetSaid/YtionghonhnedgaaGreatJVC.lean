/- Steps through functions of the program. -/
import Derived.Test.YtionghonhnedgaaGreatJVB
import Derived.Test.YtionghonhnedgaaGreatL2
set_option linter.unusedVariables false
set_option linter.unusedSimpArgs false
set_option maxRecDepth 100000
set_option maxHeartbeats 4000000
namespace Go.Proofs.YtionghonhnedgaaGreat
open Go.K Go.K.Rep

namespace F123
noncomputable def c0 := bodyOf Tryz.f123
end F123
theorem long_ok {s : ByteArray} (hs : s.size ≤ 64) (w : World) : Calls Tryz.prog 123 #[.string s] w (Ret fun v w' => v = .bool (decide ((64 : Int) < s.size)) ∧ w' = w) := by
 refine calls_start (c := F123.c0) (N := 6) [.string s] Tryz.func123 (by kernel_rfl) (by kernel_rfl) (by kernel_rfl) ?_
 show Run _ _ _ _ [(0, .string s)] _ _
 refine run_sq ?_
 refine run_pl [yy 0] ?_
 refine yAc 2 (.bool false) ?_
 refine Sch.nil ?_
 refine run_sq ?_
 refine run_pl [yy 0, yy 1, yy 2, yy 3] ?_
 refine yM 3 0 ?_
 refine yV (kq 4 (.call { callee := .builtin .len, args := #[(.tmp 3)], argTypes := #[9] })) (fun _ => val_len_string rfl Tryz.underlying9) ?_
 refine yV (kq 5 (.binOp .gtr 3 (.tmp 4) (.const (.int .i64 64)) 3)) (fun _ => val_gtr rfl rfl) ?_
 refine yA 2 5 ?_
 refine Sch.nil ?_
 refine run_ret1 (by kernel_rfl) Tryz.func123 Tryz.results123 rfl ?_
 exact ⟨rfl, rfl⟩
namespace F136
noncomputable def c0 := bodyOf Tryz.f136
noncomputable def c7 := (cl (cl (cr (cl (cr c0)))))
noncomputable def c16 := (cl (cl (cl (cr (cr c7)))))
noncomputable def c17 := (cr (cl (cl (cr (cr c7)))))
end F136
theorem indexL_ok {w₀ : World} {M : Nat → Prop} {l : List ByteArray} {vl : Value} (hl : RV w₀ M l vl) (h64 : ∀ i (h : i < l.length), (l[i]).size ≤ 64) : Calls Tryz.prog 136 #[vl, .func (.func 123) #[] #[]] w₀ (Ret fun v w' => v = .int .i64 (-1) ∧ w' = w₀) := by
 refine calls_start (c := F136.c0) (N := 19) [vl, .func (.func 123) #[] #[]] Tryz.func136 (by kernel_rfl) (by kernel_rfl) (by kernel_rfl) ?_
 show Run _ _ _ _ [(0, vl), (1, .func (.func 123) #[] #[])] _ _
 refine run_sq ?_
 refine run_pl [yy 0] ?_
 refine yAc 4 (.int .i64 0) ?_
 refine Sch.nil ?_
 refine run_sq ?_
 refine run_sq ?_
 refine run_pl [yy 0, yy 1, yy 2] ?_
 refine yM 6 0 ?_
 refine yS (kq 7 (.call { callee := .builtin .len, args := #[(.tmp 6)], argTypes := #[35] })) rfl rfl (fun w' hS => hl.lenV rfl Tryz.underlying35 w' ) ?_
 refine yV (kq 8 (.move (.const (.int .i64 0)))) (fun _ => val_move rfl) ?_
 refine Sch.nil ?_
 refine run_bk 0 ?_
 
 refine run_lp (ι := Nat) (I := fun x w => x ≤ l.length ∧ w = w₀) (e := fun x => [(0, vl), (1, .func (.func 123) #[] #[]), (7, .int .i64 l.length), (8, .int .i64 x)]) (m := fun x => l.length - x) (x₀ := 0) (sr 0 (sr 1 (sr 7 (sr 8 (sub_nil _))))) ?_ ?_
 · exact ⟨Nat.zero_le _, rfl⟩
 intro k w1 hI next
 obtain ⟨hk, rfl⟩ := hI
 try simp only at hk
 have next1 := next
 clear next
 show Run _ _ _ _ [(0, vl), (1, .func (.func 123) #[] #[]), (7, .int .i64 l.length), (8, .int .i64 k)] _ _
 have hle := hl.le
 refine run_sq ?_
 refine run_pl [yy 0] ?_
 refine yV (kq 9 (.binOp .lss 3 (.tmp 8) (.tmp 7) 3)) (fun _ => val_lss rfl rfl) ?_
 refine Sch.nil ?_
 refine run_sq ?_
 refine run_i 9 rfl (fun h9 => ?_) (fun h9 => ?_)
 ·
  have hkl : k < l.length := by omega
  have hsz := h64 k hkl
  refine run_sk ?_
  refine run_sq ?_
  refine run_bk 1 ?_
  refine run_sq ?_
  refine run_pl [yy 0, yy 1] ?_
  refine yM 10 8 ?_
  refine yA 5 10 ?_
  refine Sch.nil ?_
  refine run_sq ?_
  refine run_pl [yy 0, yy 1, yy 2, yy 3, nn 4, nn 5] ?_
  refine yM 11 1 ?_
  refine yM 12 0 ?_
  refine yM 13 5 ?_
  refine iS (e := 9) (kq 14 (.indexAddr 35 (.tmp 12) (.tmp 13))) rfl rfl hl rfl (by kernel_rfl) rfl (by omega) (by omega) ?_
  intro b14 o14 h14
  try simp only [Int.toNat_natCast] at h14
  refine lN (kq 15 (.load 9 (.tmp 14))) rfl rfl trivial h14 (by kernel_rfl) rfl rfl ?_
  intro v15 g15
  obtain ⟨rfl, hb15⟩ := rv_str.1 g15
  refine cS (kq 16 (.call { callee := .value (.tmp 11), args := #[(.tmp 15)], argTypes := #[9] })) rfl rfl (enters_func (fun args w => Tryz.call123 args w) rfl rfl) (long_ok hsz _) ?_
  rintro vw2 w2 ⟨rfl, rfl⟩
  rw [decide_eq_false (by omega)]
  refine ⟨trivial, ?_⟩
  refine Sch.nil ?_
  refine run_cF 16 ?_
  refine run_sk ?_
  refine run_inBlock ?_
  refine run_pl [yy 0, yy 1] ?_
  refine yV (kq 18 (.binOp .add 3 (.tmp 8) (.const (.int .i64 1)) 3)) (fun _ => val_addi rfl rfl (by omega) (by omega)) ?_
  refine yM 8 18 ?_
  refine Sch.nil ?_
  refine kp (sub_cons 0 rfl rfl (sub_cons 1 rfl rfl (sub_cons 7 rfl rfl (sub_cons 8 rfl (eq_int (by simp)) (sub_nil _))))) (next1 (k + 1) _ ⟨(by first | omega | (simp only; omega)), rfl⟩ (by first | omega | (simp only; omega)))
 ·
  have hkl : k = l.length := by omega
  refine run_ex 0 ?_
  refine run_sq ?_
  refine run_pl [yy 0] ?_
  refine yV (kq 4 (.assign (.const (.int .i64 (-1))))) (fun _ => val_assign rfl) ?_
  refine Sch.nil ?_
  refine run_ret1 (by kernel_rfl) Tryz.func136 Tryz.results136 rfl ?_
  exact ⟨rfl, rfl⟩
namespace F122
noncomputable def c0 := bodyOf Tryz.f122
end F122
theorem containsL_ok {w₀ : World} {M : Nat → Prop} {l : List ByteArray} {vl : Value} (hl : RV w₀ M l vl) (h64 : ∀ i (h : i < l.length), (l[i]).size ≤ 64) : Calls Tryz.prog 122 #[vl, .func (.func 123) #[] #[]] w₀ (Ret fun v w' => v = .bool false ∧ w' = w₀) := by
 refine calls_start (c := F122.c0) (N := 9) [vl, .func (.func 123) #[] #[]] Tryz.func122 (by kernel_rfl) (by kernel_rfl) (by kernel_rfl) ?_
 show Run _ _ _ _ [(0, vl), (1, .func (.func 123) #[] #[])] _ _
 refine run_sq ?_
 refine run_pl [yy 0] ?_
 refine yAc 4 (.bool false) ?_
 refine Sch.nil ?_
 refine run_sq ?_
 refine run_pl [yy 0, yy 1, nn 2, yy 3, yy 4] ?_
 refine yM 5 0 ?_
 refine yM 6 1 ?_
 refine cS (kq 7 (.call { callee := .value (.func 136), args := #[(.tmp 5), (.tmp 6)], argTypes := #[35, 155] })) rfl rfl (ent Tryz.call136 rfl) (indexL_ok hl h64) ?_
 rintro vw1 w1 ⟨rfl, rfl⟩
 refine ⟨trivial, ?_⟩
 refine yV (kq 8 (.binOp .geq 3 (.tmp 7) (.const (.int .i64 0)) 3)) (fun _ => val_geq rfl rfl) ?_
 refine yA 4 8 ?_
 refine Sch.nil ?_
 refine run_ret1 (by kernel_rfl) Tryz.func122 Tryz.results122 rfl ?_
 exact ⟨rfl, rfl⟩
namespace F91
noncomputable def c0 := bodyOf Tryz.f91
noncomputable def c7 := (cl (cl (cr (cl (cr c0)))))
noncomputable def c16 := (cl (cl (cl (cr (cr c7)))))
noncomputable def c17 := (cr (cl (cl (cr (cr c7)))))
end F91
theorem indexI_ok {w₀ : World} {M : Nat → Prop} {l : List Int} {vl : Value} {u : Int} (hl : RV w₀ M l vl) : Calls Tryz.prog 91 #[vl, .int .i64 u] w₀ (Ret fun v w' => v = .int .i64 (idxOf (fun y => decide (u = y)) l) ∧ w' = w₀) := by
 refine calls_start (c := F91.c0) (N := 19) [vl, .int .i64 u] Tryz.func91 (by kernel_rfl) (by kernel_rfl) (by kernel_rfl) ?_
 show Run _ _ _ _ [(0, vl), (1, .int .i64 u)] _ _
 refine run_sq ?_
 refine run_pl [yy 0] ?_
 refine yAc 4 (.int .i64 0) ?_
 refine Sch.nil ?_
 refine run_sq ?_
 refine run_sq ?_
 refine run_pl [yy 0, yy 1, yy 2] ?_
 refine yM 6 0 ?_
 refine yS (kq 7 (.call { callee := .builtin .len, args := #[(.tmp 6)], argTypes := #[22] })) rfl rfl (fun w' hS => hl.lenV rfl Tryz.underlying22 w' ) ?_
 refine yV (kq 8 (.move (.const (.int .i64 0)))) (fun _ => val_move rfl) ?_
 refine Sch.nil ?_
 refine run_bk 0 ?_
 
 refine run_lp (ι := Nat) (I := fun x w => x ≤ l.length ∧ (∀ i (hi : i < x) (hl : i < l.length), decide (u = l[i]) = false) ∧ w = w₀) (e := fun x => [(0, vl), (1, .int .i64 u), (7, .int .i64 l.length), (8, .int .i64 x)]) (m := fun x => l.length - x) (x₀ := 0) (sr 0 (sr 1 (sr 7 (sr 8 (sub_nil _))))) ?_ ?_
 · exact ⟨Nat.zero_le _, fun i hi _ => by omega, rfl⟩
 intro k w1 hI next
 obtain ⟨hk, h0, rfl⟩ := hI
 try simp only at hk h0
 have next1 := next
 clear next
 show Run _ _ _ _ [(0, vl), (1, .int .i64 u), (7, .int .i64 l.length), (8, .int .i64 k)] _ _
 have hle := hl.le
 refine run_sq ?_
 refine run_pl [yy 0] ?_
 refine yV (kq 9 (.binOp .lss 3 (.tmp 8) (.tmp 7) 3)) (fun _ => val_lss rfl rfl) ?_
 refine Sch.nil ?_
 refine run_sq ?_
 refine run_i 9 rfl (fun h9 => ?_) (fun h9 => ?_)
 ·
  have hkl : k < l.length := by omega
  refine run_sk ?_
  refine run_sq ?_
  refine run_bk 1 ?_
  refine run_sq ?_
  refine run_pl [yy 0, yy 1] ?_
  refine yM 10 8 ?_
  refine yA 5 10 ?_
  refine Sch.nil ?_
  refine run_sq ?_
  refine run_pl [yy 0, yy 1, yy 2, yy 3, nn 4, yy 5] ?_
  refine yM 11 1 ?_
  refine yM 12 0 ?_
  refine yM 13 5 ?_
  refine iS (e := 3) (kq 14 (.indexAddr 22 (.tmp 12) (.tmp 13))) rfl rfl hl rfl (by kernel_rfl) rfl (by omega) (by omega) ?_
  intro b14 o14 h14
  try simp only [Int.toNat_natCast] at h14
  refine lN (kq 15 (.load 3 (.tmp 14))) rfl rfl trivial h14 (by kernel_rfl) rfl rfl ?_
  intro v15 g15
  first | (obtain rfl := rv_nat.1 g15) | (obtain rfl := rv_int.1 g15)
  refine yV (kq 16 (.binOp .eql 3 (.tmp 11) (.tmp 15) 3)) (fun _ => val_eql rfl rfl) ?_
  refine Sch.nil ?_
  refine run_i 16 rfl (fun h16 => ?_) (fun h16 => ?_)
  ·
   refine run_sq ?_
   refine run_pl [yy 0, yy 1] ?_
   refine yM 17 5 ?_
   refine yA 4 17 ?_
   refine Sch.nil ?_
   refine run_ret1 (by kernel_rfl) Tryz.func91 Tryz.results91 rfl ?_
   exact ⟨by rw [idxOf_at (p := fun y => decide (u = y)) hkl (fun i hi => h0 i hi (by omega)) (decide_eq_true h16)], rfl⟩
  ·
   refine run_sk ?_
   refine run_inBlock ?_
   refine run_pl [yy 0, yy 1] ?_
   refine yV (kq 18 (.binOp .add 3 (.tmp 8) (.const (.int .i64 1)) 3)) (fun _ => val_addi rfl rfl (by omega) (by omega)) ?_
   refine yM 8 18 ?_
   refine Sch.nil ?_
   refine kp (sub_cons 0 rfl rfl (sub_cons 1 rfl rfl (sub_cons 7 rfl rfl (sub_cons 8 rfl (eq_int (by simp)) (sub_nil _))))) (next1 (k + 1) _ ⟨(by first | omega | (simp only; omega)), (fun i hi hl => by
       by_cases e : i = k
       · subst e; exact decide_eq_false h16
       · exact h0 i (by omega) hl), rfl⟩ (by first | omega | (simp only; omega)))
 ·
  have hkl : k = l.length := by omega
  refine run_ex 0 ?_
  refine run_sq ?_
  refine run_pl [yy 0] ?_
  refine yV (kq 4 (.assign (.const (.int .i64 (-1))))) (fun _ => val_assign rfl) ?_
  refine Sch.nil ?_
  refine run_ret1 (by kernel_rfl) Tryz.func91 Tryz.results91 rfl ?_
  exact ⟨by rw [idxOf_none (p := fun y => decide (u = y)) (fun i hi => h0 i (by omega) hi)], rfl⟩
namespace F58
noncomputable def c0 := bodyOf Tryz.f58
end F58
theorem containsI_ok {w₀ : World} {M : Nat → Prop} {l : List Int} {vl : Value} {u : Int} (hl : RV w₀ M l vl) : Calls Tryz.prog 58 #[vl, .int .i64 u] w₀ (Ret fun v w' => v = .bool (decide (u ∈ l)) ∧ w' = w₀) := by
 refine calls_start (c := F58.c0) (N := 9) [vl, .int .i64 u] Tryz.func58 (by kernel_rfl) (by kernel_rfl) (by kernel_rfl) ?_
 show Run _ _ _ _ [(0, vl), (1, .int .i64 u)] _ _
 refine run_sq ?_
 refine run_pl [yy 0] ?_
 refine yAc 4 (.bool false) ?_
 refine Sch.nil ?_
 refine run_sq ?_
 refine run_pl [yy 0, yy 1, nn 2, yy 3, yy 4] ?_
 refine yM 5 0 ?_
 refine yM 6 1 ?_
 refine cS (kq 7 (.call { callee := .value (.func 91), args := #[(.tmp 5), (.tmp 6)], argTypes := #[22, 3] })) rfl rfl (ent Tryz.call91 rfl) (indexI_ok hl) ?_
 rintro vw1 w1 ⟨rfl, rfl⟩
 refine ⟨trivial, ?_⟩
 refine yV (kq 8 (.binOp .geq 3 (.tmp 7) (.const (.int .i64 0)) 3)) (fun _ => val_geq rfl rfl) ?_
 refine yA 4 8 ?_
 refine Sch.nil ?_
 refine run_ret1 (by kernel_rfl) Tryz.func58 Tryz.results58 rfl ?_
 exact ⟨by rw [idxOf_ge, any_mem], rfl⟩
end Go.Proofs.YtionghonhnedgaaGreat
