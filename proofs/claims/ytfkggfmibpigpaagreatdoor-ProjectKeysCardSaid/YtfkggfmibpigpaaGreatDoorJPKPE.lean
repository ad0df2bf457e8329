/- Steps through functions of the program. -/
import Derived.Test.YtfkggfmibpigpaaGreatDoorJPIPJ
import Derived.Test.YtfkggfmibpigpaaGreatDoorL2
import Derived.Test.YtfkggfmibpigpaaGreatDoorShelf
import Derived.Test.YtfkggfmibpigpaaGreatDoorL1
import Derived.Test.YtfkggfmibpigpaaGreatDoorRows
import Derived.Test.YtfkggfmibpigpaaGreatDoorJD1PH
set_option linter.unusedVariables false
set_option linter.unusedSimpArgs false
set_option maxRecDepth 100000
set_option maxHeartbeats 4000000
namespace Go.Proofs.YtfkggfmibpigpaaGreatDoor
open Go.K Go.K.Rep
theorem len64_1 (w : World) : Calls Tryz.prog 80 #[.int .u64 1] w (Ret fun v w' => v = .int .i64 1 ∧ w' = w) := by
  refine (Go.Proofs.Any.bits_Len64 Tryz.len64 1 w (by decide) (by decide)).mono ?_
  rintro e w' ⟨rfl, rfl⟩
  exact ⟨_, rfl, by first | rfl | decide +kernel | simp [Lib.bitLen], rfl⟩
namespace F50
noncomputable def c0 := bodyOf Tryz.f50
end F50
theorem len1_ok (w₀ : World) : Calls Tryz.prog 50 #[.int .u64 1] w₀ (Ret fun v w' => v = .int .i64 1 ∧ w' = w₀) := by
 refine calls_start (c := F50.c0) (N := 8) [.int .u64 1] Tryz.func50 (by kernel_rfl) (by kernel_rfl) (by kernel_rfl) ?_
 show Run _ _ _ _ [(0, .int .u64 1)] _ _
 refine run_sq ?_
 refine run_pl [yy 0] ?_
 refine yAc 2 (.int .i64 0) ?_
 refine Sch.nil ?_
 refine run_sq ?_
 refine run_ckF (by kernel_rfl) ?_
 refine run_sk ?_
 refine run_sq ?_
 refine run_pl [yy 0, nn 1, yy 2] ?_
 refine yM 6 0 ?_
 refine cS (kq 7 (.call { callee := .value (.func 80), args := #[(.tmp 6)], argTypes := #[27] })) rfl rfl (ent Tryz.call80 rfl) (len64_1 _) ?_
 rintro vw1 w1 ⟨rfl, rfl⟩
 refine ⟨trivial, ?_⟩
 refine yA 2 7 ?_
 refine Sch.nil ?_
 refine run_ret1 (by kernel_rfl) Tryz.func50 Tryz.results50 rfl ?_
 exact ⟨rfl, rfl⟩
namespace F71
noncomputable def c0 := bodyOf Tryz.f71
end F71
theorem ins1L_ok {v fv : Value} (w₀ : World) : Calls Tryz.prog 71 #[v, .int .i64 0, .int .i64 1, fv] w₀ (Ret fun u w' => u = .tuple #[] ∧ w' = w₀) := by
 refine calls_start (c := F71.c0) (N := 53) [v, .int .i64 0, .int .i64 1, fv] Tryz.func71 (by kernel_rfl) (by kernel_rfl) (by kernel_rfl) ?_
 show Run _ _ _ _ [(0, v), (1, .int .i64 0), (2, .int .i64 1), (3, fv)] _ _
 refine run_sq ?_
 refine run_pl [yy 0, yy 1, yy 2] ?_
 refine yM 10 1 ?_
 refine yV (kq 11 (.binOp .add 3 (.tmp 10) (.const (.int .i64 1)) 3)) (fun _ => val_addi rfl rfl (by omega) (by omega)) ?_
 refine yA 8 11 ?_
 refine Sch.nil ?_
 refine run_bk 0 ?_
 
 refine run_lp (ι := Nat) (I := fun x w => w = w₀) (e := fun x => [(2, .int .i64 1), (8, .int .i64 1)]) (m := fun x => 0) (x₀ := 0) (sr 2 (sr 8 (sub_nil _))) ?_ ?_
 · exact rfl
 intro z w1 hI next
 obtain rfl := hI
 try simp only at next
 have next1 := next
 clear next
 show Run _ _ _ _ [(2, .int .i64 1), (8, .int .i64 1)] _ _
 refine run_sq ?_
 refine run_sq ?_
 refine run_pl [yy 0, yy 1, yy 2] ?_
 refine yM 12 8 ?_
 refine yM 13 2 ?_
 refine yV (kq 14 (.binOp .lss 3 (.tmp 12) (.tmp 13) 3)) (fun _ => val_is (val_lss rfl rfl) (show _ = Value.bool false from congrArg Value.bool (decide_eq_false (by decide)))) ?_
 refine Sch.nil ?_
 refine run_cF 14 ?_
 refine run_ex 0 ?_
 refine run_end0 Tryz.func71 rfl ?_
 exact ⟨rfl, rfl⟩
namespace F49
noncomputable def c0 := bodyOf Tryz.f49
end F49
theorem pdq1L_ok {v fv : Value} (w₀ : World) : Calls Tryz.prog 49 #[v, .int .i64 0, .int .i64 1, .int .i64 1, fv] w₀ (Ret fun u w' => u = .tuple #[] ∧ w' = w₀) := by
 refine calls_start (c := F49.c0) (N := 148) [v, .int .i64 0, .int .i64 1, .int .i64 1, fv] Tryz.func49 (by kernel_rfl) (by kernel_rfl) (by kernel_rfl) ?_
 show Run _ _ _ _ [(0, v), (1, .int .i64 0), (2, .int .i64 1), (3, .int .i64 1), (4, fv)] _ _
 refine run_sq ?_
 refine run_pl [yy 0] ?_
 refine yAc 10 (.bool true) ?_
 refine Sch.nil ?_
 refine run_sq ?_
 refine run_pl [yy 0] ?_
 refine yAc 11 (.bool true) ?_
 refine Sch.nil ?_
 refine run_bk 0 ?_
 
 refine run_lp (ι := Nat) (I := fun x w => w = w₀) (e := fun x => [(0, v), (1, .int .i64 0), (2, .int .i64 1), (4, fv)]) (m := fun x => 0) (x₀ := 0) (sr 0 (sr 1 (sr 2 (sr 4 (sub_nil _))))) ?_ ?_
 · exact rfl
 intro z w1 hI next
 obtain rfl := hI
 try simp only at next
 have next1 := next
 clear next
 show Run _ _ _ _ [(0, v), (1, .int .i64 0), (2, .int .i64 1), (4, fv)] _ _
 refine run_bk 1 ?_
 refine run_sq ?_
 refine run_pl [yy 0, yy 1, yy 2, yy 3] ?_
 refine yM 21 2 ?_
 refine yM 22 1 ?_
 refine yV (kq 23 (.binOp .sub 3 (.tmp 21) (.tmp 22) 3)) (fun _ => val_subi rfl rfl (by omega) (by omega)) ?_
 refine yA 12 23 ?_
 refine Sch.nil ?_
 refine run_sq ?_
 refine run_sq ?_
 refine run_pl [yy 0, yy 1] ?_
 refine yM 24 12 ?_
 refine yV (kq 25 (.binOp .leq 3 (.tmp 24) (.const (.int .i64 12)) 3)) (fun _ => val_is (val_leq rfl rfl) (show _ = Value.bool true from congrArg Value.bool (decide_eq_true (by decide)))) ?_
 refine Sch.nil ?_
 refine run_cT 25 ?_
 refine run_sq ?_
 refine run_pl [yy 0, yy 1, yy 2, yy 3, nn 4] ?_
 refine yM 26 0 ?_
 refine yM 27 1 ?_
 refine yM 28 2 ?_
 refine yM 29 4 ?_
 refine cS (kq 30 (.call { callee := .value (.func 71), args := #[(.tmp 26), (.tmp 27), (.tmp 28), (.tmp 29)], argTypes := #[38, 3, 3, 68] })) rfl rfl (ent Tryz.call71 rfl) (ins1L_ok _) ?_
 rintro vw2 w2 ⟨rfl, rfl⟩
 refine ⟨trivial, ?_⟩
 refine Sch.nil ?_
 refine run_ret0 (by kernel_rfl) Tryz.func49 Tryz.results49 ?_
 exact ⟨rfl, rfl⟩
namespace F27
noncomputable def c0 := bodyOf Tryz.f27
end F27
theorem sort1L_ok {a : Option Addr} {c : Nat} {fv : Value} (w₀ : World) : Calls Tryz.prog 27 #[.slice a 1 c, fv] w₀ (Ret fun u w' => u = .tuple #[] ∧ w' = w₀) := by
 refine calls_start (c := F27.c0) (N := 14) [.slice a 1 c, fv] Tryz.func27 (by kernel_rfl) (by kernel_rfl) (by kernel_rfl) ?_
 show Run _ _ _ _ [(0, .slice a 1 c), (1, fv)] _ _
 refine run_sq ?_
 refine run_pl [yy 0, yy 1, yy 2] ?_
 refine yM 5 0 ?_
 refine yV (kq 6 (.call { callee := .builtin .len, args := #[(.tmp 5)], argTypes := #[38] })) (fun _ => val_len_slice rfl Tryz.underlying38) ?_
 refine yA 4 6 ?_
 refine Sch.nil ?_
 refine run_pl [yy 0, yy 1, yy 2, yy 3, nn 4, yy 5, nn 6] ?_
 refine yM 7 0 ?_
 refine yM 8 4 ?_
 refine yM 9 4 ?_
 refine yV (kq 10 (.convert 3 58 (.tmp 9))) (fun _ => val_convE (r := (1 : Int)) rfl ⟨_, Tryz.underlying3⟩ Tryz.underlying58 (by decide)) ?_
 refine cS (kq 11 (.call { callee := .value (.func 50), args := #[(.tmp 10)], argTypes := #[58] })) rfl rfl (ent Tryz.call50 rfl) (len1_ok _) ?_
 rintro vw1 w1 ⟨rfl, rfl⟩
 refine ⟨trivial, ?_⟩
 refine yM 12 1 ?_
 refine cS (kq 13 (.call { callee := .value (.func 49), args := #[(.tmp 7), (.const (.int .i64 0)), (.tmp 8), (.tmp 11), (.tmp 12)], argTypes := #[38, 3, 3, 3, 68] })) rfl rfl (ent Tryz.call49 rfl) (pdq1L_ok _) ?_
 rintro vw2 w2 ⟨rfl, rfl⟩
 refine ⟨trivial, ?_⟩
 refine Sch.nil ?_
 refine run_end0 Tryz.func27 rfl ?_
 exact ⟨rfl, rfl⟩
namespace F93
noncomputable def c0 := bodyOf Tryz.f93
end F93
theorem ins1N_ok {v fv : Value} (w₀ : World) : Calls Tryz.prog 93 #[v, .int .i64 0, .int .i64 1, fv] w₀ (Ret fun u w' => u = .tuple #[] ∧ w' = w₀) := by
 refine calls_start (c := F93.c0) (N := 53) [v, .int .i64 0, .int .i64 1, fv] Tryz.func93 (by kernel_rfl) (by kernel_rfl) (by kernel_rfl) ?_
 show Run _ _ _ _ [(0, v), (1, .int .i64 0), (2, .int .i64 1), (3, fv)] _ _
 refine run_sq ?_
 refine run_pl [yy 0, yy 1, yy 2] ?_
 refine yM 10 1 ?_
 refine yV (kq 11 (.binOp .add 3 (.tmp 10) (.const (.int .i64 1)) 3)) (fun _ => val_addi rfl rfl (by omega) (by omega)) ?_
 refine yA 8 11 ?_
 refine Sch.nil ?_
 refine run_bk 0 ?_
 
 refine run_lp (ι := Nat) (I := fun x w => w = w₀) (e := fun x => [(2, .int .i64 1), (8, .int .i64 1)]) (m := fun x => 0) (x₀ := 0) (sr 2 (sr 8 (sub_nil _))) ?_ ?_
 · exact rfl
 intro z w1 hI next
 obtain rfl := hI
 try simp only at next
 have next1 := next
 clear next
 show Run _ _ _ _ [(2, .int .i64 1), (8, .int .i64 1)] _ _
 refine run_sq ?_
 refine run_sq ?_
 refine run_pl [yy 0, yy 1, yy 2] ?_
 refine yM 12 8 ?_
 refine yM 13 2 ?_
 refine yV (kq 14 (.binOp .lss 3 (.tmp 12) (.tmp 13) 3)) (fun _ => val_is (val_lss rfl rfl) (show _ = Value.bool false from congrArg Value.bool (decide_eq_false (by decide)))) ?_
 refine Sch.nil ?_
 refine run_cF 14 ?_
 refine run_ex 0 ?_
 refine run_end0 Tryz.func93 rfl ?_
 exact ⟨rfl, rfl⟩
namespace F70
noncomputable def c0 := bodyOf Tryz.f70
end F70
theorem pdq1N_ok {v fv : Value} (w₀ : World) : Calls Tryz.prog 70 #[v, .int .i64 0, .int .i64 1, .int .i64 1, fv] w₀ (Ret fun u w' => u = .tuple #[] ∧ w' = w₀) := by
 refine calls_start (c := F70.c0) (N := 148) [v, .int .i64 0, .int .i64 1, .int .i64 1, fv] Tryz.func70 (by kernel_rfl) (by kernel_rfl) (by kernel_rfl) ?_
 show Run _ _ _ _ [(0, v), (1, .int .i64 0), (2, .int .i64 1), (3, .int .i64 1), (4, fv)] _ _
 refine run_sq ?_
 refine run_pl [yy 0] ?_
 refine yAc 10 (.bool true) ?_
 refine Sch.nil ?_
 refine run_sq ?_
 refine run_pl [yy 0] ?_
 refine yAc 11 (.bool true) ?_
 refine Sch.nil ?_
 refine run_bk 0 ?_
 
 refine run_lp (ι := Nat) (I := fun x w => w = w₀) (e := fun x => [(0, v), (1, .int .i64 0), (2, .int .i64 1), (4, fv)]) (m := fun x => 0) (x₀ := 0) (sr 0 (sr 1 (sr 2 (sr 4 (sub_nil _))))) ?_ ?_
 · exact rfl
 intro z w1 hI next
 obtain rfl := hI
 try simp only at next
 have next1 := next
 clear next
 show Run _ _ _ _ [(0, v), (1, .int .i64 0), (2, .int .i64 1), (4, fv)] _ _
 refine run_bk 1 ?_
 refine run_sq ?_
 refine run_pl [yy 0, yy 1, yy 2, yy 3] ?_
 refine yM 21 2 ?_
 refine yM 22 1 ?_
 refine yV (kq 23 (.binOp .sub 3 (.tmp 21) (.tmp 22) 3)) (fun _ => val_subi rfl rfl (by omega) (by omega)) ?_
 refine yA 12 23 ?_
 refine Sch.nil ?_
 refine run_sq ?_
 refine run_sq ?_
 refine run_pl [yy 0, yy 1] ?_
 refine yM 24 12 ?_
 refine yV (kq 25 (.binOp .leq 3 (.tmp 24) (.const (.int .i64 12)) 3)) (fun _ => val_is (val_leq rfl rfl) (show _ = Value.bool true from congrArg Value.bool (decide_eq_true (by decide)))) ?_
 refine Sch.nil ?_
 refine run_cT 25 ?_
 refine run_sq ?_
 refine run_pl [yy 0, yy 1, yy 2, yy 3, nn 4] ?_
 refine yM 26 0 ?_
 refine yM 27 1 ?_
 refine yM 28 2 ?_
 refine yM 29 4 ?_
 refine cS (kq 30 (.call { callee := .value (.func 93), args := #[(.tmp 26), (.tmp 27), (.tmp 28), (.tmp 29)], argTypes := #[62, 3, 3, 91] })) rfl rfl (ent Tryz.call93 rfl) (ins1N_ok _) ?_
 rintro vw2 w2 ⟨rfl, rfl⟩
 refine ⟨trivial, ?_⟩
 refine Sch.nil ?_
 refine run_ret0 (by kernel_rfl) Tryz.func70 Tryz.results70 ?_
 exact ⟨rfl, rfl⟩
namespace F47
noncomputable def c0 := bodyOf Tryz.f47
end F47
theorem sort1N_ok {a : Option Addr} {c : Nat} {fv : Value} (w₀ : World) : Calls Tryz.prog 47 #[.slice a 1 c, fv] w₀ (Ret fun u w' => u = .tuple #[] ∧ w' = w₀) := by
 refine calls_start (c := F47.c0) (N := 14) [.slice a 1 c, fv] Tryz.func47 (by kernel_rfl) (by kernel_rfl) (by kernel_rfl) ?_
 show Run _ _ _ _ [(0, .slice a 1 c), (1, fv)] _ _
 refine run_sq ?_
 refine run_pl [yy 0, yy 1, yy 2] ?_
 refine yM 5 0 ?_
 refine yV (kq 6 (.call { callee := .builtin .len, args := #[(.tmp 5)], argTypes := #[62] })) (fun _ => val_len_slice rfl Tryz.underlying62) ?_
 refine yA 4 6 ?_
 refine Sch.nil ?_
 refine run_pl [yy 0, yy 1, yy 2, yy 3, nn 4, yy 5, nn 6] ?_
 refine yM 7 0 ?_
 refine yM 8 4 ?_
 refine yM 9 4 ?_
 refine yV (kq 10 (.convert 3 58 (.tmp 9))) (fun _ => val_convE (r := (1 : Int)) rfl ⟨_, Tryz.underlying3⟩ Tryz.underlying58 (by decide)) ?_
 refine cS (kq 11 (.call { callee := .value (.func 50), args := #[(.tmp 10)], argTypes := #[58] })) rfl rfl (ent Tryz.call50 rfl) (len1_ok _) ?_
 rintro vw1 w1 ⟨rfl, rfl⟩
 refine ⟨trivial, ?_⟩
 refine yM 12 1 ?_
 refine cS (kq 13 (.call { callee := .value (.func 70), args := #[(.tmp 7), (.const (.int .i64 0)), (.tmp 8), (.tmp 11), (.tmp 12)], argTypes := #[62, 3, 3, 3, 91] })) rfl rfl (ent Tryz.call70 rfl) (pdq1N_ok _) ?_
 rintro vw2 w2 ⟨rfl, rfl⟩
 refine ⟨trivial, ?_⟩
 refine Sch.nil ?_
 refine run_end0 Tryz.func47 rfl ?_
 exact ⟨rfl, rfl⟩
namespace F44
noncomputable def c0 := bodyOf Tryz.f44
end F44
theorem part_ok {w₀ : World} {C : Nat → Nat} {num ka kb : Int} {rs : List Int} {vr : Value} {lv : Bool} {l : List Couple} {vl : Value} (hF : Lim w₀ C) (hr : RV w₀ (Mc C) rs vr) (hl : RV w₀ (Mc C) l vl) (h1 : l.length ≤ 100000) : Calls Tryz.prog 44 #[.agg #[.int .i64 num, .int .u64 ka, .int .u64 kb, vr, .bool lv], vl] w₀ (Ret fun v w' => Stp [] w₀ C w' C ∧ RV w' (Mc C) (l.filter fun r => decide (r.a ∈ rs)) v) := by
 have hF0 := hF
 have hT := Stp.refl [2, 3, 4, 5, 6, 7, 8, 9] w₀ (col1 C)
 replace hF := hF.col1
 replace hr : RV w₀ (Mc (col1 C)) rs vr := by rw [Mc_col1]; exact hr
 replace hl : RV w₀ (Mc (col1 C)) l vl := by rw [Mc_col1]; exact hl
 refine calls_start (c := F44.c0) (N := 25) [.agg #[.int .i64 num, .int .u64 ka, .int .u64 kb, vr, .bool lv], vl] Tryz.func44 (by kernel_rfl) (by kernel_rfl) (by kernel_rfl) ?_
 show Run _ _ _ _ [(0, .agg #[.int .i64 num, .int .u64 ka, .int .u64 kb, vr, .bool lv]), (1, vl)] _ _
 refine run_sq ?_
 refine run_pl [nn 0, yy 1] ?_
 refine aS (kq 2 (.box 31 (.tmp 0))) rfl rfl (a_box (cs := [.int .i64 num, .int .u64 ka, .int .u64 kb, vr, .bool lv]) hF 3 rfl rfl) ?_
 rintro _ w1 ⟨Cw1, bw1, rfl, hs, hp, hF⟩
 refine ⟨trivial, ?_⟩
 replace hT := hT.t hs; replace hr := hr.t hs; replace hl := hl.t hs
 refine yV (kq 4 (.assign (.const (.slice none 0 0)))) (fun _ => val_assign rfl) ?_
 refine Sch.nil ?_
 refine run_sq ?_
 refine run_pl [yy 0] ?_
 refine yV (kq 5 (.assign (.const (.slice none 0 0)))) (fun _ => val_assign rfl) ?_
 refine Sch.nil ?_
 refine run_sq ?_
 refine run_sq ?_
 refine run_pl [yy 0, yy 1, yy 2] ?_
 refine yM 8 1 ?_
 refine yS (kq 9 (.call { callee := .builtin .len, args := #[(.tmp 8)], argTypes := #[42] })) rfl rfl (fun w' hS => hl.lenV rfl Tryz.underlying42 w' ) ?_
 refine yV (kq 10 (.move (.const (.int .i64 0)))) (fun _ => val_move rfl) ?_
 refine Sch.nil ?_
 refine run_bk 0 ?_
 
 refine run_lp (ι := Nat × Value × (Nat → Nat)) (I := fun x w => x.1 ≤ l.length ∧ Lim w x.2.2 ∧ Stp [2, 3, 4, 5, 6, 7, 8, 9] w₀ (col1 C) w x.2.2 ∧ RV w (Mc x.2.2) l vl ∧ RV w (Mc x.2.2) rs vr ∧ OwnB w x.2.2 3 bw1 (.cells [.int .i64 num, .int .u64 ka, .int .u64 kb, vr, .bool lv].toArray 31) ∧ OwnL w x.2.2 4 35 x.2.1 ((l.take x.1).filter fun r => decide (r.a ∈ rs))) (e := fun x => [(2, .pointer (some ⟨bw1, 0, none⟩)), (5, x.2.1), (8, vl), (9, .int .i64 l.length), (10, .int .i64 x.1)]) (m := fun x => l.length - x.1) (x₀ := (0, .slice none 0 0, Cw1)) (sr 2 (sr 5 (sr 8 (sr 9 (sr 10 (sub_nil _)))))) ?_ ?_
 · exact ⟨Nat.zero_le _, hF, hT, hl, hr, hp, OwnL.nil⟩
 intro ⟨k, vo, C1⟩ w2 hI next
 obtain ⟨hk, hF, hT, hl, hr, hp, ho⟩ := hI
 try simp only at hk hF hT hl hr hp ho
 have next1 := next
 clear next
 show Run _ _ _ _ [(2, .pointer (some ⟨bw1, 0, none⟩)), (5, vo), (8, vl), (9, .int .i64 l.length), (10, .int .i64 k)] _ _
 have hle := hl.le
 have hfl : ((l.take k).filter fun r => decide (r.a ∈ rs)).length ≤ k := Nat.le_trans (List.length_filter_le _ _) (by rw [List.length_take]; omega)
 refine run_sq ?_
 refine run_pl [yy 0] ?_
 refine yV (kq 11 (.binOp .lss 3 (.tmp 10) (.tmp 9) 3)) (fun _ => val_lss rfl rfl) ?_
 refine Sch.nil ?_
 refine run_sq ?_
 refine run_i 11 rfl (fun h11 => ?_) (fun h11 => ?_)
 ·
  have hkl : k < l.length := by omega
  refine run_sk ?_
  refine run_sq ?_
  refine run_bk 1 ?_
  refine run_sq ?_
  refine run_pl [yy 0, nn 1, nn 2, nn 3] ?_
  refine iS (e := 35) (kq 12 (.indexAddr 42 (.tmp 8) (.tmp 10))) rfl rfl hl rfl (by kernel_rfl) rfl (by omega) (by omega) ?_
  intro b12 o12 h12
  try simp only [Int.toNat_natCast] at h12
  refine lNA (kq 13 (.load 35 (.tmp 12))) rfl rfl trivial h12 (by kernel_rfl) (by kernel_rfl) rfl rfl ?_
  intro v13 g13
  obtain rfl := rv_couple.1 g13
  refine aS (kq 7 (.alloc 35)) rfl rfl (a_alloc (cs := [.int .i64 0, .int .i64 0]) hF 5 (by kernel_rfl)) ?_
  rintro _ w3 ⟨Cw3, bw3, rfl, hs, hb, hF⟩
  refine ⟨trivial, ?_⟩
  replace hT := hT.t hs; replace hl := hl.t hs; replace hr := hr.t hs; replace hp := hp.t hs; replace ho := ho.t hs; replace h12 := h12.t hs
  refine aN (k0 (.store 35 (.tmp 7) (.tmp 13))) rfl (a_storeAll (vs := encR ((l[k]'hkl))) (n := 2) rfl rfl (by kernel_rfl) rfl rfl (by intro u hu; simp only [encR, List.mem_cons, List.not_mem_nil, or_false] at hu; rcases hu with rfl | rfl <;> rfl) hb rfl) ?_
  rintro _ w4 ⟨rfl, hs, hb⟩
  refine ⟨trivial, ?_⟩
  replace hF := hF.st hs
  replace hT := hT.t hs; replace hl := hl.t hs; replace hr := hr.t hs; replace hp := hp.t hs; replace ho := ho.t hs; replace h12 := h12.t hs
  refine Sch.nil ?_
  refine run_sq ?_
  refine run_pl [yy 0, nn 1, yy 2, nn 3, nn 4] ?_
  refine yF 14 31 2 2 3 ?_
  refine nS (kq 15 (.load 22 (.tmp 14))) rfl rfl trivial (val_loadOwn hp.at_ (by kernel_rfl) rfl rfl) ?_
  refine yF 16 35 7 0 0 ?_
  refine nS (kq 17 (.load 3 (.tmp 16))) rfl rfl trivial (val_loadOwn hb.at_ (by kernel_rfl) rfl rfl) ?_
  refine cS (kq 18 (.call { callee := .value (.func 56), args := #[(.tmp 15), (.tmp 17)], argTypes := #[22, 3] })) rfl rfl (ent Tryz.call56 rfl) (containsI_ok hr) ?_
  rintro vw5 w5 ⟨rfl, rfl⟩
  refine ⟨trivial, ?_⟩
  refine Sch.nil ?_
  refine run_i 18 rfl (fun h18 => ?_) (fun h18 => ?_)
  ·
   refine run_pl [yy 0, nn 1, nn 2, nn 3, yy 4] ?_
   refine yM 19 5 ?_
   refine nS (kq 20 (.load 35 (.tmp 7))) rfl rfl trivial (val_loadOwnAgg (n := 2) (vs := encR (l[k]'hkl)) hb.at_ (by kernel_rfl) (by kernel_rfl) rfl rfl rfl) ?_
   refine aS (kq 21 (.buildSlice 42 1 #[(0, (.tmp 20))])) rfl rfl (a_buildSlice (ys := ([(l[k]'hkl)] : List Couple)) (e := 35) (bytes := 16) hF (by kernel_rfl) rfl (by decide) (by decide) ⟨rfl, ⟨_, rfl, rv_couple.2 rfl⟩, trivial⟩) ?_
   rintro v21 w6 ⟨hs, g21, hF⟩
   refine ⟨trivial, ?_⟩
   replace hT := hT.t hs; replace hl := hl.t hs; replace hr := hr.t hs; replace hp := hp.t hs; replace ho := ho.t hs; replace h12 := h12.t hs; replace hb := hb.t hs
   refine aS (kq 22 (.call { callee := .builtin .append, args := #[(.tmp 19), (.tmp 21)], argTypes := #[42, 42] })) rfl rfl (a_append (e := 35) (bytes := 16) hF (by decide) rfl rfl (by kernel_rfl) (by decide) ho g21 (by simp only [List.length_cons, List.length_nil]; omega) (by simp only [List.length_cons, List.length_nil]; omega)) ?_
   rintro v22 w7 ⟨Cw7, hs, ho, hF⟩
   refine ⟨trivial, ?_⟩
   replace hT := hT.t hs; replace hl := hl.t hs; replace hr := hr.t hs; replace hp := hp.t hs; replace h12 := h12.t hs; replace hb := hb.t hs; replace g21 := g21.t hs
   refine yA 5 22 ?_
   refine Sch.nil ?_
   refine run_inBlock ?_
   refine run_pl [yy 0, yy 1] ?_
   refine yV (kq 23 (.binOp .add 3 (.tmp 10) (.const (.int .i64 1)) 3)) (fun _ => val_addi rfl rfl (by omega) (by omega)) ?_
   refine yM 10 23 ?_
   refine Sch.nil ?_
   refine kp (sub_cons 2 rfl rfl (sub_cons 5 rfl rfl (sub_cons 8 rfl rfl (sub_cons 9 rfl rfl (sub_cons 10 rfl (eq_int (by simp)) (sub_nil _)))))) (next1 (k + 1, v22, Cw7) _ ⟨(by first | omega | (simp only; omega)), hF, hT, hl, hr, hp, (by simp only; rw [List.take_succ_eq_append_getElem hkl, List.filter_append, List.filter_cons, if_pos (decide_eq_true h18), List.filter_nil]; exact ho)⟩ (by first | omega | (simp only; omega)))
  ·
   refine run_sk ?_
   refine run_inBlock ?_
   refine run_pl [yy 0, yy 1] ?_
   refine yV (kq 23 (.binOp .add 3 (.tmp 10) (.const (.int .i64 1)) 3)) (fun _ => val_addi rfl rfl (by omega) (by omega)) ?_
   refine yM 10 23 ?_
   refine Sch.nil ?_
   refine kp (sub_cons 2 rfl rfl (sub_cons 5 rfl rfl (sub_cons 8 rfl rfl (sub_cons 9 rfl rfl (sub_cons 10 rfl (eq_int (by simp)) (sub_nil _)))))) (next1 (k + 1, vo, Cw3) _ ⟨(by first | omega | (simp only; omega)), hF, hT, hl, hr, hp, (by simp only; rw [List.take_succ_eq_append_getElem hkl, List.filter_append, List.filter_cons, if_neg (by rw [decide_eq_false h18]; decide), List.filter_nil, List.append_nil]; exact ho)⟩ (by first | omega | (simp only; omega)))
 ·
  have hkl : k = l.length := by omega
  rw [hkl, List.take_length] at ho hfl
  refine run_ex 0 ?_
  refine run_sq ?_
  refine run_pl [yy 0, yy 1] ?_
  refine yM 24 5 ?_
  refine yA 4 24 ?_
  refine Sch.nil ?_
  refine run_ret1 (by kernel_rfl) Tryz.func44 Tryz.results44 rfl ?_
  exact ⟨hT.out1 (by decide), ho.out hT hF0 (Mc_col1 C) (fun b _ => col1_lt C (by decide) b) (by omega)⟩
namespace F46
noncomputable def c0 := bodyOf Tryz.f46
end F46
theorem gone_ok {w₀ : World} {C : Nat → Nat} {x : Couple} {bp bm : Nat} {ib im : Nat} (hF : Lim w₀ C) (hib : ib ≠ 0) (him : im ≠ 0) (hb0 : OwnB w₀ C ib bp (.cells ([.map (some bm)] : List Value).toArray 81)) (hm0 : OwnM w₀ C im bm kvC vvB ([] : List (Couple × Bool))) : Calls Tryz.prog 46 #[kvC x, .pointer (some ⟨bp, 0, none⟩)] w₀ (Ret fun v w' => v = .bool false ∧ Stp [] w₀ C w' C) := by
 have hF0 := hF
 have hT := Stp.refl [2, 3, 4, 5, 6, 7, 8, 9] w₀ (col1 C)
 replace hF := hF.col1
 obtain ⟨jb, hb⟩ : ∃ j, OwnB w₀ (col1 C) j bp (.cells ([.map (some bm)] : List Value).toArray 81) := ⟨_, rfl, hb0.at_⟩
 have hjb : jb ≠ 0 := by rw [← hb.col]; exact (col1_ne C bp).2 (by rw [hb0.col]; exact hib)
 obtain ⟨jm, hm, hjm⟩ : ∃ j, OwnM w₀ (col1 C) j bm kvC vvB ([] : List (Couple × Bool)) ∧ j ≠ 0 := ⟨_, ⟨rfl, hm0.2⟩, (col1_ne C bm).2 (by rw [hm0.1]; exact him)⟩
 refine calls_start (c := F46.c0) (N := 7) [kvC x, .pointer (some ⟨bp, 0, none⟩)] Tryz.func46 (by kernel_rfl) (by kernel_rfl) (by kernel_rfl) ?_
 show Run _ _ _ _ [(0, kvC x), (1, .pointer (some ⟨bp, 0, none⟩))] _ _
 refine run_sq ?_
 refine run_pl [nn 0, yy 1] ?_
 refine aS (kq 2 (.box 35 (.tmp 0))) rfl rfl (a_box (cs := encR x) hF 3 rfl rfl) ?_
 rintro _ w1 ⟨Cw1, bw1, rfl, hs, hx, hF⟩
 refine ⟨trivial, ?_⟩
 replace hT := hT.t hs; replace hb := hb.t hs; replace hm := hm.t hs
 refine yAc 3 (.bool false) ?_
 refine Sch.nil ?_
 refine run_sq ?_
 refine run_pl [nn 0, nn 1, nn 2, yy 3] ?_
 refine nS (kq 4 (.load 81 (.tmp 1))) rfl rfl trivial (val_loadOwn hb.at_ (by kernel_rfl) rfl rfl) ?_
 refine nS (kq 5 (.load 35 (.tmp 2))) rfl rfl trivial (val_loadOwnAgg (n := 2) (vs := encR x) hx.at_ (by kernel_rfl) (by kernel_rfl) rfl rfl rfl) ?_
 refine nS (kq 6 (.lookup 81 (.tmp 4) (.tmp 5) false)) rfl rfl trivial (val_is (hm.lookup (z0 := false) (k := x) Tryz.underlying81 (keyOK_couple Tryz.underlying35 (by decide) (by decide) (by kernel_rfl) Tryz.underlying3) Tryz.zeroValue4 rfl rfl) (show _ = Value.bool false from rfl)) ?_
 refine yA 3 6 ?_
 refine Sch.nil ?_
 refine run_ret1 (by kernel_rfl) Tryz.func46 Tryz.results46 rfl ?_
 exact ⟨rfl, hT.out1 (by decide)⟩
end Go.Proofs.YtfkggfmibpigpaaGreatDoor

/- Steps through functions of the program. -/
set_option linter.unusedVariables false
set_option linter.unusedSimpArgs false
set_option maxRecDepth 100000
set_option maxHeartbeats 4000000
namespace Go.Proofs.YtfkggfmibpigpaaGreatDoor
open Go.K Go.K.Rep
theorem stp_grow {w : World} {C : Nat → Nat} (k : Nat) (os : Array Obj) : Stp [] w C (Go.Sort.grow (w.drewN k) os) C :=
  ⟨⟨rfl, rfl, rfl, by simp [Go.Sort.grow, World.drewN], fun b hb _ => by simp [Go.Sort.grow, World.drewN, Array.getElem?_append, hb], by unfold Dr; simp [Go.Sort.grow, World.drewN]⟩, fun _ _ => rfl⟩
theorem itoa_any {w : World} {C : Nat → Nat} {n : Nat} (hn : n ≤ 9223372036854775807) (hb : Tb Tryz.prog w C) : Calls Tryz.prog 22 #[.int .i64 n] w (Ret fun v w' => v = bs (Lib.decDigits n) ∧ Stp [] w C w' C) := by
  refine (Go.Proofs.Any.strconv_Itoa Tryz.itoa (n : Int) (by omega) (by omega) w hb.1).mono ?_
  rintro e w' ⟨rfl, k, os, rfl⟩
  exact ⟨_, rfl, by rw [Lib.itoa_nonneg], stp_grow k os⟩
end Go.Proofs.YtfkggfmibpigpaaGreatDoor

/- Steps through functions of the program. -/
set_option linter.unusedVariables false
set_option linter.unusedSimpArgs false
set_option maxRecDepth 100000
set_option maxHeartbeats 4000000
namespace Go.Proofs.YtfkggfmibpigpaaGreatDoor
open Go.K Go.K.Rep
namespace F87
noncomputable def c0 := bodyOf Tryz.f87
end F87
theorem rotl_ok {x k : Int} (h1 : bitsOf .and .u64 (IntKind.u64.wrap k) 63 = k) (h2 : IntKind.u64.wrap (64 - k) = 64 - k) (h0 : 0 ≤ k) (h3 : k ≤ 64) (w : World) : Calls Tryz.prog 87 #[.int .u64 x, .int .i64 k] w (Ret fun v w' => v = .int .u64 (rotW x k) ∧ w' = w) := by
 refine calls_start (c := F87.c0) (N := 17) [.int .u64 x, .int .i64 k] Tryz.func87 (by kernel_rfl) (by kernel_rfl) (by kernel_rfl) ?_
 show Run _ _ _ _ [(0, .int .u64 x), (1, .int .i64 k)] _ _
 refine run_sq ?_
 refine run_pl [yy 0] ?_
 refine yAc 4 (.int .u64 0) ?_
 refine Sch.nil ?_
 refine run_sq ?_
 refine run_pl [yy 0, yy 1, yy 2, yy 3] ?_
 refine yM 6 1 ?_
 refine yV (kq 7 (.convert 3 58 (.tmp 6))) (fun _ => val_conv_int rfl ⟨_, Tryz.underlying3⟩ Tryz.underlying58) ?_
 refine yV (kq 8 (.binOp .and 58 (.tmp 7) (.const (.int .u64 63)) 58)) (fun _ => val_is (val_and rfl rfl) (congrArg (Value.int .u64) h1)) ?_
 refine yA 5 8 ?_
 refine Sch.nil ?_
 refine run_sq ?_
 refine run_pl [yy 0, yy 1, yy 2, yy 3, yy 4, yy 5, yy 6, yy 7, yy 8] ?_
 refine yM 9 0 ?_
 refine yM 10 5 ?_
 refine yV (kq 11 (.binOp .shl 27 (.tmp 9) (.tmp 10) 58)) (fun _ => val_shl rfl rfl (by omega)) ?_
 refine yM 12 0 ?_
 refine yM 13 5 ?_
 refine yV (kq 14 (.binOp .sub 58 (.const (.int .u64 64)) (.tmp 13) 58)) (fun _ => val_is (val_sub rfl rfl) (congrArg (Value.int .u64) h2)) ?_
 refine yV (kq 15 (.binOp .shr 27 (.tmp 12) (.tmp 14) 58)) (fun _ => val_shr rfl rfl (by omega)) ?_
 refine yV (kq 16 (.binOp .or 27 (.tmp 11) (.tmp 15) 27)) (fun _ => val_or rfl rfl) ?_
 refine yA 4 16 ?_
 refine Sch.nil ?_
 refine run_ret1 (by kernel_rfl) Tryz.func87 Tryz.results87 rfl ?_
 exact ⟨rfl, rfl⟩
end Go.Proofs.YtfkggfmibpigpaaGreatDoor

/- Steps through functions of the program. -/
set_option linter.unusedVariables false
set_option linter.unusedSimpArgs false
set_option maxRecDepth 100000
set_option maxHeartbeats 4000000
namespace Go.Proofs.YtfkggfmibpigpaaGreatDoor
open Go.K Go.K.Rep
namespace F66
noncomputable def c0 := bodyOf Tryz.f66
noncomputable def c10 := (cr (cr (cl (cl (cr c0)))))
noncomputable def o2 := rops (cl (cl (cl c10)))
noncomputable def o3 := rops (cl (cr (cl (cl c10))))
noncomputable def c18 := (cr (cr (cr (cl (cl c10)))))
noncomputable def o5 := rops (cl c18)
noncomputable def o6 := rops (cl (cr c18))
noncomputable def o7 := rops (cl (cr (cr c18)))
noncomputable def o8 := rops (cl (cr (cr (cr c18))))
noncomputable def c27 := (cl (cr (cr (cr (cr c18)))))
noncomputable def o9 := rops c27
noncomputable def c28 := (cr (cr (cr (cr (cr c18)))))
noncomputable def o10 := rops (cl c28)
end F66
theorem rounds_ok {w₀ : World} {C : Nat → Nat} {i p n : Nat} {s : Sip} (hF : Lim w₀ C) (hi : i ≠ 0) (hb : OwnB w₀ C i p (.cells [.int .u64 s.a, .int .u64 s.b, .int .u64 s.c, .int .u64 s.d].toArray 108)) (hn : n ≤ 100) : Calls Tryz.prog 66 #[.pointer (some ⟨p, 0, none⟩), .int .i64 n] w₀ (Ret fun v w' => v = .tuple #[] ∧ Stp [i] w₀ C w' C ∧ OwnB w' C i p (.cells [.int .u64 (rndsW s n).a, .int .u64 (rndsW s n).b, .int .u64 (rndsW s n).c, .int .u64 (rndsW s n).d].toArray 108)) := by
 have hF0 := hF
 have hbc := hb.col
 replace hb := hb.col2 hi
 have hT := Stp.refl [2, 3, 4, 5, 6, 7, 8, 9] w₀ (col2 C i)
 replace hF := hF.col2 i
 refine calls_start (c := F66.c0) (N := 120) [.pointer (some ⟨p, 0, none⟩), .int .i64 n] Tryz.func66 (by kernel_rfl) (by kernel_rfl) (by kernel_rfl) ?_
 show Run _ _ _ _ [(0, .pointer (some ⟨p, 0, none⟩)), (1, .int .i64 n)] _ _
 refine run_sq ?_
 refine run_pl [yy 0, yy 1] ?_
 refine yM 4 1 ?_
 refine yV (kq 5 (.move (.const (.int .i64 0)))) (fun _ => val_move rfl) ?_
 refine Sch.nil ?_
 refine run_bk 0 ?_
 
 refine run_lp (ι := Nat × (Nat → Nat)) (I := fun x w => x.1 ≤ n ∧ Lim w x.2 ∧ Stp [2, 3, 4, 5, 6, 7, 8, 9] w₀ (col2 C i) w x.2 ∧ OwnB w x.2 2 p (.cells [.int .u64 (rndsW s x.1).a, .int .u64 (rndsW s x.1).b, .int .u64 (rndsW s x.1).c, .int .u64 (rndsW s x.1).d].toArray 108)) (e := fun x => [(0, .pointer (some ⟨p, 0, none⟩)), (4, .int .i64 n), (5, .int .i64 x.1)]) (m := fun x => n - x.1) (x₀ := (0, col2 C i)) (sr 0 (sr 4 (sr 5 (sub_nil _)))) ?_ ?_
 · exact ⟨Nat.zero_le _, hF, hT, hb⟩
 intro ⟨k, C1⟩ w1 hI next
 obtain ⟨hk, hF, hT, hb⟩ := hI
 try simp only at hk hF hT hb
 have next1 := next
 clear next
 show Run _ _ _ _ [(0, .pointer (some ⟨p, 0, none⟩)), (4, .int .i64 n), (5, .int .i64 k)] _ _
 obtain ⟨sa, sb, sc, sd, hs4⟩ : ∃ a b c d, rndsW s k = ⟨a, b, c, d⟩ := ⟨_, _, _, _, rfl⟩
 rw [hs4] at hb
 refine run_sq ?_
 refine run_pl [yy 0] ?_
 refine yV (kq 6 (.binOp .lss 3 (.tmp 5) (.tmp 4) 3)) (fun _ => val_lss rfl rfl) ?_
 refine Sch.nil ?_
 refine run_sq ?_
 refine run_i 6 rfl (fun h6 => ?_) (fun h6 => ?_)
 ·
  have hkn : k < n := by omega
  refine run_sk ?_
  refine run_sq ?_
  refine run_bk 1 ?_
  refine run_sq ?_
  refine run_bar (id := 2) (ops := F66.o2) [] (C1) 11 [yy 0, yy 1, yy 2, yy 3, yy 4, yy 5, yy 6, yy 7, yy 8, yy 9, yy 10] [] Tryz_mixed (by kernel_rfl) (by kernel_rfl) (by kernel_rfl) ?_
  intro w2 hs
  replace hF := hF.st hs
  replace hT := hT.t hs; replace hb := hb.t hs
  have hR := Stp.refl [] w2 (C1)
  refine yM 7 0 ?_
  refine yN 8 7 ?_
  refine yF 9 108 8 0 0 ?_
  refine yS (kq 10 (.load 27 (.tmp 9))) rfl rfl (fun w' hS => val_loadOwn (hb.sy hS) (by kernel_rfl) rfl rfl) ?_
  refine yM 11 0 ?_
  refine yN 12 11 ?_
  refine yF 13 108 12 1 1 ?_
  refine yS (kq 14 (.load 27 (.tmp 13))) rfl rfl (fun w' hS => val_loadOwn (hb.sy hS) (by kernel_rfl) rfl rfl) ?_
  refine yV (kq 15 (.binOp .add 27 (.tmp 10) (.tmp 14) 27)) (fun _ => val_add rfl rfl) ?_
  refine yN 16 7 ?_
  refine yF 17 108 16 0 0 ?_
  refine bar_do hR.ext ?_
  refine aN (k0 (.store 27 (.tmp 17) (.tmp 15))) rfl (a_store1 rfl rfl (by kernel_rfl) rfl rfl hb (by simp)) ?_
  rintro _ w3 ⟨rfl, hs, hb⟩
  refine ⟨trivial, ?_⟩
  replace hF := hF.st hs
  replace hT := hT.t hs
  refine bar_next ?_
  refine Sch.nil ?_
  refine run_sq ?_
  refine run_bar (id := 3) (ops := F66.o3) [] (C1) 13 [yy 0, yy 1, yy 2, yy 3, yy 4, yy 6, yy 7, yy 8, yy 9, nn 5, yy 10, yy 11, yy 12] [] Tryz_mixed (by kernel_rfl) (by kernel_rfl) (by kernel_rfl) ?_
  intro w4 hs
  replace hF := hF.st hs
  replace hT := hT.t hs; replace hb := hb.t hs
  have hR := Stp.refl [] w4 (C1)
  refine yM 18 0 ?_
  refine yM 19 0 ?_
  refine yN 20 19 ?_
  refine yF 21 108 20 1 1 ?_
  refine yS (kq 22 (.load 27 (.tmp 21))) rfl rfl (fun w' hS => val_loadOwn (hb.sy hS) (by kernel_rfl) rfl rfl) ?_
  refine yM 24 0 ?_
  refine yN 25 24 ?_
  refine yF 26 108 25 0 0 ?_
  refine yS (kq 27 (.load 27 (.tmp 26))) rfl rfl (fun w' hS => val_loadOwn (hb.sy hS) (by kernel_rfl) rfl rfl) ?_
  refine cS (kq 23 (.call { callee := .value (.func 87), args := #[(.tmp 22), (.const (.int .i64 13))], argTypes := #[27, 3] })) rfl rfl (ent Tryz.call87 rfl) (rotl_ok (k := 13) (by decide) (by decide) (by decide) (by decide) _) ?_
  rintro vw5 w5 ⟨rfl, rfl⟩
  refine ⟨hR.ext, ?_⟩
  refine yV (kq 28 (.binOp .xor 27 (.tmp 23) (.tmp 27) 27)) (fun _ => val_xor rfl rfl) ?_
  refine yN 29 18 ?_
  refine yF 30 108 29 1 1 ?_
  refine bar_do hR.ext ?_
  refine aN (k0 (.store 27 (.tmp 30) (.tmp 28))) rfl (a_store1 rfl rfl (by kernel_rfl) rfl rfl hb (by simp)) ?_
  rintro _ w6 ⟨rfl, hs, hb⟩
  refine ⟨trivial, ?_⟩
  replace hF := hF.st hs
  replace hT := hT.t hs
  refine bar_next ?_
  refine Sch.nil ?_
  refine run_sq ?_
  refine run_pl [yy 0, yy 1, yy 2, yy 3, nn 4, nn 5, yy 6, yy 7, nn 8] ?_
  refine yM 31 0 ?_
  refine yM 32 0 ?_
  refine yN 33 32 ?_
  refine yF 34 108 33 0 0 ?_
  refine nS (kq 35 (.load 27 (.tmp 34))) rfl rfl trivial (val_loadOwn hb.at_ (by kernel_rfl) rfl rfl) ?_
  refine cS (kq 36 (.call { callee := .value (.func 87), args := #[(.tmp 35), (.const (.int .i64 32))], argTypes := #[27, 3] })) rfl rfl (ent Tryz.call87 rfl) (rotl_ok (k := 32) (by decide) (by decide) (by decide) (by decide) _) ?_
  rintro vw7 w7 ⟨rfl, rfl⟩
  refine ⟨trivial, ?_⟩
  refine yN 37 31 ?_
  refine yF 38 108 37 0 0 ?_
  refine aN (k0 (.store 27 (.tmp 38) (.tmp 36))) rfl (a_store1 rfl rfl (by kernel_rfl) rfl rfl hb (by simp)) ?_
  rintro _ w8 ⟨rfl, hs, hb⟩
  refine ⟨trivial, ?_⟩
  replace hF := hF.st hs
  replace hT := hT.t hs
  refine Sch.nil ?_
  refine run_sq ?_
  refine run_bar (id := 5) (ops := F66.o5) [] (C1) 11 [yy 0, yy 1, yy 2, yy 3, yy 4, yy 5, yy 6, yy 7, yy 8, yy 9, yy 10] [] Tryz_mixed (by kernel_rfl) (by kernel_rfl) (by kernel_rfl) ?_
  intro w9 hs
  replace hF := hF.st hs
  replace hT := hT.t hs; replace hb := hb.t hs
  have hR := Stp.refl [] w9 (C1)
  refine yM 39 0 ?_
  refine yN 40 39 ?_
  refine yF 41 108 40 2 2 ?_
  refine yS (kq 42 (.load 27 (.tmp 41))) rfl rfl (fun w' hS => val_loadOwn (hb.sy hS) (by kernel_rfl) rfl rfl) ?_
  refine yM 43 0 ?_
  refine yN 44 43 ?_
  refine yF 45 108 44 3 3 ?_
  refine yS (kq 46 (.load 27 (.tmp 45))) rfl rfl (fun w' hS => val_loadOwn (hb.sy hS) (by kernel_rfl) rfl rfl) ?_
  refine yV (kq 47 (.binOp .add 27 (.tmp 42) (.tmp 46) 27)) (fun _ => val_add rfl rfl) ?_
  refine yN 48 39 ?_
  refine yF 49 108 48 2 2 ?_
  refine bar_do hR.ext ?_
  refine aN (k0 (.store 27 (.tmp 49) (.tmp 47))) rfl (a_store1 rfl rfl (by kernel_rfl) rfl rfl hb (by simp)) ?_
  rintro _ w10 ⟨rfl, hs, hb⟩
  refine ⟨trivial, ?_⟩
  replace hF := hF.st hs
  replace hT := hT.t hs
  refine bar_next ?_
  refine Sch.nil ?_
  refine run_sq ?_
  refine run_bar (id := 6) (ops := F66.o6) [] (C1) 13 [yy 0, yy 1, yy 2, yy 3, yy 4, yy 6, yy 7, yy 8, yy 9, nn 5, yy 10, yy 11, yy 12] [] Tryz_mixed (by kernel_rfl) (by kernel_rfl) (by kernel_rfl) ?_
  intro w11 hs
  replace hF := hF.st hs
  replace hT := hT.t hs; replace hb := hb.t hs
  have hR := Stp.refl [] w11 (C1)
  refine yM 50 0 ?_
  refine yM 51 0 ?_
  refine yN 52 51 ?_
  refine yF 53 108 52 3 3 ?_
  refine yS (kq 54 (.load 27 (.tmp 53))) rfl rfl (fun w' hS => val_loadOwn (hb.sy hS) (by kernel_rfl) rfl rfl) ?_
  refine yM 56 0 ?_
  refine yN 57 56 ?_
  refine yF 58 108 57 2 2 ?_
  refine yS (kq 59 (.load 27 (.tmp 58))) rfl rfl (fun w' hS => val_loadOwn (hb.sy hS) (by kernel_rfl) rfl rfl) ?_
  refine cS (kq 55 (.call { callee := .value (.func 87), args := #[(.tmp 54), (.const (.int .i64 16))], argTypes := #[27, 3] })) rfl rfl (ent Tryz.call87 rfl) (rotl_ok (k := 16) (by decide) (by decide) (by decide) (by decide) _) ?_
  rintro vw12 w12 ⟨rfl, rfl⟩
  refine ⟨hR.ext, ?_⟩
  refine yV (kq 60 (.binOp .xor 27 (.tmp 55) (.tmp 59) 27)) (fun _ => val_xor rfl rfl) ?_
  refine yN 61 50 ?_
  refine yF 62 108 61 3 3 ?_
  refine bar_do hR.ext ?_
  refine aN (k0 (.store 27 (.tmp 62) (.tmp 60))) rfl (a_store1 rfl rfl (by kernel_rfl) rfl rfl hb (by simp)) ?_
  rintro _ w13 ⟨rfl, hs, hb⟩
  refine ⟨trivial, ?_⟩
  replace hF := hF.st hs
  replace hT := hT.t hs
  refine bar_next ?_
  refine Sch.nil ?_
  refine run_sq ?_
  refine run_bar (id := 7) (ops := F66.o7) [] (C1) 11 [yy 0, yy 1, yy 2, yy 3, yy 4, yy 5, yy 6, yy 7, yy 8, yy 9, yy 10] [] Tryz_mixed (by kernel_rfl) (by kernel_rfl) (by kernel_rfl) ?_
  intro w14 hs
  replace hF := hF.st hs
  replace hT := hT.t hs; replace hb := hb.t hs
  have hR := Stp.refl [] w14 (C1)
  refine yM 63 0 ?_
  refine yN 64 63 ?_
  refine yF 65 108 64 0 0 ?_
  refine yS (kq 66 (.load 27 (.tmp 65))) rfl rfl (fun w' hS => val_loadOwn (hb.sy hS) (by kernel_rfl) rfl rfl) ?_
  refine yM 67 0 ?_
  refine yN 68 67 ?_
  refine yF 69 108 68 3 3 ?_
  refine yS (kq 70 (.load 27 (.tmp 69))) rfl rfl (fun w' hS => val_loadOwn (hb.sy hS) (by kernel_rfl) rfl rfl) ?_
  refine yV (kq 71 (.binOp .add 27 (.tmp 66) (.tmp 70) 27)) (fun _ => val_add rfl rfl) ?_
  refine yN 72 63 ?_
  refine yF 73 108 72 0 0 ?_
  refine bar_do hR.ext ?_
  refine aN (k0 (.store 27 (.tmp 73) (.tmp 71))) rfl (a_store1 rfl rfl (by kernel_rfl) rfl rfl hb (by simp)) ?_
  rintro _ w15 ⟨rfl, hs, hb⟩
  refine ⟨trivial, ?_⟩
  replace hF := hF.st hs
  replace hT := hT.t hs
  refine bar_next ?_
  refine Sch.nil ?_
  refine run_sq ?_
  refine run_bar (id := 8) (ops := F66.o8) [] (C1) 13 [yy 0, yy 1, yy 2, yy 3, yy 4, yy 6, yy 7, yy 8, yy 9, nn 5, yy 10, yy 11, yy 12] [] Tryz_mixed (by kernel_rfl) (by kernel_rfl) (by kernel_rfl) ?_
  intro w16 hs
  replace hF := hF.st hs
  replace hT := hT.t hs; replace hb := hb.t hs
  have hR := Stp.refl [] w16 (C1)
  refine yM 74 0 ?_
  refine yM 75 0 ?_
  refine yN 76 75 ?_
  refine yF 77 108 76 3 3 ?_
  refine yS (kq 78 (.load 27 (.tmp 77))) rfl rfl (fun w' hS => val_loadOwn (hb.sy hS) (by kernel_rfl) rfl rfl) ?_
  refine yM 80 0 ?_
  refine yN 81 80 ?_
  refine yF 82 108 81 0 0 ?_
  refine yS (kq 83 (.load 27 (.tmp 82))) rfl rfl (fun w' hS => val_loadOwn (hb.sy hS) (by kernel_rfl) rfl rfl) ?_
  refine cS (kq 79 (.call { callee := .value (.func 87), args := #[(.tmp 78), (.const (.int .i64 21))], argTypes := #[27, 3] })) rfl rfl (ent Tryz.call87 rfl) (rotl_ok (k := 21) (by decide) (by decide) (by decide) (by decide) _) ?_
  rintro vw17 w17 ⟨rfl, rfl⟩
  refine ⟨hR.ext, ?_⟩
  refine yV (kq 84 (.binOp .xor 27 (.tmp 79) (.tmp 83) 27)) (fun _ => val_xor rfl rfl) ?_
  refine yN 85 74 ?_
  refine yF 86 108 85 3 3 ?_
  refine bar_do hR.ext ?_
  refine aN (k0 (.store 27 (.tmp 86) (.tmp 84))) rfl (a_store1 rfl rfl (by kernel_rfl) rfl rfl hb (by simp)) ?_
  rintro _ w18 ⟨rfl, hs, hb⟩
  refine ⟨trivial, ?_⟩
  replace hF := hF.st hs
  replace hT := hT.t hs
  refine bar_next ?_
  refine Sch.nil ?_
  refine run_sq ?_
  refine run_bar (id := 9) (ops := F66.o9) [] (C1) 11 [yy 0, yy 1, yy 2, yy 3, yy 4, yy 5, yy 6, yy 7, yy 8, yy 9, yy 10] [] Tryz_mixed (by kernel_rfl) (by kernel_rfl) (by kernel_rfl) ?_
  intro w19 hs
  replace hF := hF.st hs
  replace hT := hT.t hs; replace hb := hb.t hs
  have hR := Stp.refl [] w19 (C1)
  refine yM 87 0 ?_
  refine yN 88 87 ?_
  refine yF 89 108 88 2 2 ?_
  refine yS (kq 90 (.load 27 (.tmp 89))) rfl rfl (fun w' hS => val_loadOwn (hb.sy hS) (by kernel_rfl) rfl rfl) ?_
  refine yM 91 0 ?_
  refine yN 92 91 ?_
  refine yF 93 108 92 1 1 ?_
  refine yS (kq 94 (.load 27 (.tmp 93))) rfl rfl (fun w' hS => val_loadOwn (hb.sy hS) (by kernel_rfl) rfl rfl) ?_
  refine yV (kq 95 (.binOp .add 27 (.tmp 90) (.tmp 94) 27)) (fun _ => val_add rfl rfl) ?_
  refine yN 96 87 ?_
  refine yF 97 108 96 2 2 ?_
  refine bar_do hR.ext ?_
  refine aN (k0 (.store 27 (.tmp 97) (.tmp 95))) rfl (a_store1 rfl rfl (by kernel_rfl) rfl rfl hb (by simp)) ?_
  rintro _ w20 ⟨rfl, hs, hb⟩
  refine ⟨trivial, ?_⟩
  replace hF := hF.st hs
  replace hT := hT.t hs
  refine bar_next ?_
  refine Sch.nil ?_
  refine run_sq ?_
  refine run_bar (id := 10) (ops := F66.o10) [] (C1) 13 [yy 0, yy 1, yy 2, yy 3, yy 4, yy 6, yy 7, yy 8, yy 9, nn 5, yy 10, yy 11, yy 12] [] Tryz_mixed (by kernel_rfl) (by kernel_rfl) (by kernel_rfl) ?_
  intro w21 hs
  replace hF := hF.st hs
  replace hT := hT.t hs; replace hb := hb.t hs
  have hR := Stp.refl [] w21 (C1)
  refine yM 98 0 ?_
  refine yM 99 0 ?_
  refine yN 100 99 ?_
  refine yF 101 108 100 1 1 ?_
  refine yS (kq 102 (.load 27 (.tmp 101))) rfl rfl (fun w' hS => val_loadOwn (hb.sy hS) (by kernel_rfl) rfl rfl) ?_
  refine yM 104 0 ?_
  refine yN 105 104 ?_
  refine yF 106 108 105 2 2 ?_
  refine yS (kq 107 (.load 27 (.tmp 106))) rfl rfl (fun w' hS => val_loadOwn (hb.sy hS) (by kernel_rfl) rfl rfl) ?_
  refine cS (kq 103 (.call { callee := .value (.func 87), args := #[(.tmp 102), (.const (.int .i64 17))], argTypes := #[27, 3] })) rfl rfl (ent Tryz.call87 rfl) (rotl_ok (k := 17) (by decide) (by decide) (by decide) (by decide) _) ?_
  rintro vw22 w22 ⟨rfl, rfl⟩
  refine ⟨hR.ext, ?_⟩
  refine yV (kq 108 (.binOp .xor 27 (.tmp 103) (.tmp 107) 27)) (fun _ => val_xor rfl rfl) ?_
  refine yN 109 98 ?_
  refine yF 110 108 109 1 1 ?_
  refine bar_do hR.ext ?_
  refine aN (k0 (.store 27 (.tmp 110) (.tmp 108))) rfl (a_store1 rfl rfl (by kernel_rfl) rfl rfl hb (by simp)) ?_
  rintro _ w23 ⟨rfl, hs, hb⟩
  refine ⟨trivial, ?_⟩
  replace hF := hF.st hs
  replace hT := hT.t hs
  refine bar_next ?_
  refine Sch.nil ?_
  refine run_pl [yy 0, yy 1, yy 2, yy 3, nn 4, nn 5, yy 6, yy 7, nn 8] ?_
  refine yM 111 0 ?_
  refine yM 112 0 ?_
  refine yN 113 112 ?_
  refine yF 114 108 113 2 2 ?_
  refine nS (kq 115 (.load 27 (.tmp 114))) rfl rfl trivial (val_loadOwn hb.at_ (by kernel_rfl) rfl rfl) ?_
  refine cS (kq 116 (.call { callee := .value (.func 87), args := #[(.tmp 115), (.const (.int .i64 32))], argTypes := #[27, 3] })) rfl rfl (ent Tryz.call87 rfl) (rotl_ok (k := 32) (by decide) (by decide) (by decide) (by decide) _) ?_
  rintro vw24 w24 ⟨rfl, rfl⟩
  refine ⟨trivial, ?_⟩
  refine yN 117 111 ?_
  refine yF 118 108 117 2 2 ?_
  refine aN (k0 (.store 27 (.tmp 118) (.tmp 116))) rfl (a_store1 rfl rfl (by kernel_rfl) rfl rfl hb (by simp)) ?_
  rintro _ w25 ⟨rfl, hs, hb⟩
  refine ⟨trivial, ?_⟩
  replace hF := hF.st hs
  replace hT := hT.t hs
  refine Sch.nil ?_
  refine run_inBlock ?_
  refine run_pl [yy 0, yy 1] ?_
  refine yV (kq 119 (.binOp .add 3 (.tmp 5) (.const (.int .i64 1)) 3)) (fun _ => val_addi rfl rfl (by omega) (by omega)) ?_
  refine yM 5 119 ?_
  refine Sch.nil ?_
  refine kp (sub_cons 0 rfl rfl (sub_cons 4 rfl rfl (sub_cons 5 rfl (eq_int (by simp)) (sub_nil _)))) (next1 (k + 1, C1) _ ⟨(by first | omega | (simp only; omega)), hF, hT, (by rw [show rndsW s (k + 1) = rndW ⟨sa, sb, sc, sd⟩ from congrArg rndW hs4]; exact hb)⟩ (by first | omega | (simp only; omega)))
 ·
  have hkn : k = n := by omega
  subst hkn
  refine run_ex 0 ?_
  refine run_end0 Tryz.func66 rfl ?_
  exact ⟨rfl, hT.out2 (by decide), by rw [← hs4] at hb; exact ⟨hbc, hb.at_⟩⟩
end Go.Proofs.YtfkggfmibpigpaaGreatDoor

/- Steps through functions of the program. -/
set_option linter.unusedVariables false
set_option linter.unusedSimpArgs false
set_option maxRecDepth 100000
set_option maxHeartbeats 4000000
namespace Go.Proofs.YtfkggfmibpigpaaGreatDoor
open Go.K Go.K.Rep
namespace F64
noncomputable def c0 := bodyOf Tryz.f64
end F64
theorem sipword_ok {w₀ : World} {C : Nat → Nat} {i p : Nat} {s : Sip} {m : Int} (hF : Lim w₀ C) (hi : i ≠ 0) (hb : OwnB w₀ C i p (.cells [.int .u64 s.a, .int .u64 s.b, .int .u64 s.c, .int .u64 s.d].toArray 108)) : Calls Tryz.prog 64 #[.pointer (some ⟨p, 0, none⟩), .int .u64 m] w₀ (Ret fun v w' => v = .tuple #[] ∧ Stp [i] w₀ C w' C ∧ OwnB w' C i p (.cells [.int .u64 (takeW s m).a, .int .u64 (takeW s m).b, .int .u64 (takeW s m).c, .int .u64 (takeW s m).d].toArray 108)) := by
 have hF0 := hF
 have hbc := hb.col
 replace hb := hb.col2 hi
 have hT := Stp.refl [2, 3, 4, 5, 6, 7, 8, 9] w₀ (col2 C i)
 replace hF := hF.col2 i
 refine calls_start (c := F64.c0) (N := 22) [.pointer (some ⟨p, 0, none⟩), .int .u64 m] Tryz.func64 (by kernel_rfl) (by kernel_rfl) (by kernel_rfl) ?_
 show Run _ _ _ _ [(0, .pointer (some ⟨p, 0, none⟩)), (1, .int .u64 m)] _ _
 refine run_sq ?_
 refine run_pl [yy 0, yy 1, yy 2, nn 3, yy 4, yy 5, yy 6, yy 7, nn 8] ?_
 refine yM 4 0 ?_
 refine yN 5 4 ?_
 refine yF 6 108 5 3 3 ?_
 refine nS (kq 7 (.load 27 (.tmp 6))) rfl rfl trivial (val_loadOwn hb.at_ (by kernel_rfl) rfl rfl) ?_
 refine yM 8 1 ?_
 refine yV (kq 9 (.binOp .xor 27 (.tmp 7) (.tmp 8) 27)) (fun _ => val_xor rfl rfl) ?_
 refine yN 10 4 ?_
 refine yF 11 108 10 3 3 ?_
 refine aN (k0 (.store 27 (.tmp 11) (.tmp 9))) rfl (a_store1 rfl rfl (by kernel_rfl) rfl rfl hb (by simp)) ?_
 rintro _ w1 ⟨rfl, hs, hb⟩
 refine ⟨trivial, ?_⟩
 replace hF := hF.st hs
 replace hT := hT.t hs
 refine Sch.nil ?_
 refine run_sq ?_
 refine run_pl [yy 0, nn 1] ?_
 refine yM 12 0 ?_
 replace hb : OwnB w1 _ 2 p (.cells [.int .u64 s.a, .int .u64 s.b, .int .u64 s.c, .int .u64 (xorW s.d m)].toArray 108) := hb
 refine cS (kq 13 (.call { callee := .value (.func 66), args := #[(.tmp 12), (.const (.int .i64 2))], argTypes := #[130, 3] })) rfl rfl (ent Tryz.call66 rfl) (rounds_ok (n := 2) (s := ⟨s.a, s.b, s.c, xorW s.d m⟩) hF (by decide) hb (by decide)) ?_
 rintro vw2 w2 ⟨rfl, hs, hb⟩
 refine ⟨trivial, ?_⟩
 replace hF := hF.st hs
 replace hT := hT.t hs
 obtain ⟨t, ht⟩ : ∃ t, t = rndsW ⟨s.a, s.b, s.c, xorW s.d m⟩ 2 := ⟨_, rfl⟩
 rw [← ht] at hb
 refine Sch.nil ?_
 refine run_pl [yy 0, yy 1, yy 2, nn 3, yy 4, yy 5, yy 6, yy 7, nn 8] ?_
 refine yM 14 0 ?_
 refine yN 15 14 ?_
 refine yF 16 108 15 0 0 ?_
 refine nS (kq 17 (.load 27 (.tmp 16))) rfl rfl trivial (val_loadOwn hb.at_ (by kernel_rfl) rfl rfl) ?_
 refine yM 18 1 ?_
 refine yV (kq 19 (.binOp .xor 27 (.tmp 17) (.tmp 18) 27)) (fun _ => val_xor rfl rfl) ?_
 refine yN 20 14 ?_
 refine yF 21 108 20 0 0 ?_
 refine aN (k0 (.store 27 (.tmp 21) (.tmp 19))) rfl (a_store1 rfl rfl (by kernel_rfl) rfl rfl hb (by simp)) ?_
 rintro _ w3 ⟨rfl, hs, hb⟩
 refine ⟨trivial, ?_⟩
 replace hF := hF.st hs
 replace hT := hT.t hs
 refine Sch.nil ?_
 refine run_end0 Tryz.func64 rfl ?_
 rw [show takeW s m = ⟨xorW t.a m, t.b, t.c, t.d⟩ from by rw [ht]; rfl]
 exact ⟨rfl, hT.out2 (by decide), ⟨hbc, hb.at_⟩⟩
namespace F65
noncomputable def c0 := bodyOf Tryz.f65
end F65
theorem sipnumber_ok {w₀ : World} {C : Nat → Nat} {b : List U8} {vb : Value} (hF : Lim w₀ C) (hb : RV w₀ (Mc C) b vb) (hl8 : b.length ≤ 8) : Calls Tryz.prog 65 #[vb] w₀ (Ret fun v w' => v = .int .u64 (numW b b.length) ∧ Stp [] w₀ C w' C) := by
 have hF0 := hF
 have hT := Stp.refl [2, 3, 4, 5, 6, 7, 8, 9] w₀ (col1 C)
 replace hF := hF.col1
 replace hb : RV w₀ (Mc (col1 C)) b vb := by rw [Mc_col1]; exact hb
 refine calls_start (c := F65.c0) (N := 22) [vb] Tryz.func65 (by kernel_rfl) (by kernel_rfl) (by kernel_rfl) ?_
 show Run _ _ _ _ [(0, vb)] _ _
 refine run_sq ?_
 refine run_pl [yy 0] ?_
 refine yAc 2 (.int .u64 0) ?_
 refine Sch.nil ?_
 refine run_sq ?_
 refine run_pl [yy 0] ?_
 refine yAc 3 (.int .u64 0) ?_
 refine Sch.nil ?_
 refine run_sq ?_
 refine run_sq ?_
 refine run_pl [yy 0, yy 1, yy 2] ?_
 refine yM 6 0 ?_
 refine yS (kq 7 (.call { callee := .builtin .len, args := #[(.tmp 6)], argTypes := #[85] })) rfl rfl (fun w' hS => hb.lenV rfl Tryz.underlying85 w' ) ?_
 refine yV (kq 8 (.move (.const (.int .i64 0)))) (fun _ => val_move rfl) ?_
 refine Sch.nil ?_
 refine run_bk 0 ?_
 
 refine run_lp (ι := Nat × (Nat → Nat)) (I := fun x w => x.1 ≤ b.length ∧ Lim w x.2 ∧ Stp [2, 3, 4, 5, 6, 7, 8, 9] w₀ (col1 C) w x.2 ∧ RV w (Mc x.2) b vb) (e := fun x => [(3, .int .u64 (numW b x.1)), (6, vb), (7, .int .i64 b.length), (8, .int .i64 x.1)]) (m := fun x => b.length - x.1) (x₀ := (0, col1 C)) (sr 3 (sr 6 (sr 7 (sr 8 (sub_nil _))))) ?_ ?_
 · exact ⟨Nat.zero_le _, hF, hT, hb⟩
 intro ⟨k, C1⟩ w1 hI next
 obtain ⟨hk, hF, hT, hb⟩ := hI
 try simp only at hk hF hT hb
 have next1 := next
 clear next
 show Run _ _ _ _ [(3, .int .u64 (numW b k)), (6, vb), (7, .int .i64 b.length), (8, .int .i64 k)] _ _
 have hle := hb.le
 refine run_sq ?_
 refine run_pl [yy 0] ?_
 refine yV (kq 9 (.binOp .lss 3 (.tmp 8) (.tmp 7) 3)) (fun _ => val_lss rfl rfl) ?_
 refine Sch.nil ?_
 refine run_sq ?_
 refine run_i 9 rfl (fun h9 => ?_) (fun h9 => ?_)
 ·
  have hkl : k < b.length := by omega
  refine run_sk ?_
  refine run_sq ?_
  refine run_bk 1 ?_
  refine run_sq ?_
  refine run_pl [yy 0, yy 1, nn 2, yy 3, yy 4] ?_
  refine yM 10 8 ?_
  refine iS (e := 5) (kq 11 (.indexAddr 85 (.tmp 6) (.tmp 8))) rfl rfl hb rfl (by kernel_rfl) rfl (by omega) (by omega) ?_
  intro b11 o11 h11
  try simp only [Int.toNat_natCast] at h11
  refine lN (kq 12 (.load 5 (.tmp 11))) rfl rfl trivial h11 (by kernel_rfl) rfl rfl ?_
  intro v12 g12
  obtain rfl := rv_num.1 g12
  refine yA 4 10 ?_
  refine yA 5 12 ?_
  refine Sch.nil ?_
  refine run_pl [yy 0, yy 1, yy 2, yy 3, yy 4, yy 5, yy 6, yy 7] ?_
  refine yM 13 3 ?_
  refine yM 14 5 ?_
  refine yV (kq 15 (.convert 5 27 (.tmp 14))) (fun _ => val_conv_int rfl ⟨_, Tryz.underlying5⟩ Tryz.underlying27) ?_
  refine yM 16 4 ?_
  refine yV (kq 17 (.binOp .mul 3 (.const (.int .i64 8)) (.tmp 16) 3)) (fun _ => val_muli rfl rfl (by omega) (by omega)) ?_
  refine yV (kq 18 (.binOp .shl 27 (.tmp 15) (.tmp 17) 3)) (fun _ => val_shl rfl rfl (by omega)) ?_
  refine yV (kq 19 (.binOp .or 27 (.tmp 13) (.tmp 18) 27)) (fun _ => val_or rfl rfl) ?_
  refine yA 3 19 ?_
  refine Sch.nil ?_
  refine run_inBlock ?_
  refine run_pl [yy 0, yy 1] ?_
  refine yV (kq 20 (.binOp .add 3 (.tmp 8) (.const (.int .i64 1)) 3)) (fun _ => val_addi rfl rfl (by omega) (by omega)) ?_
  refine yM 8 20 ?_
  refine Sch.nil ?_
  refine kp (sub_cons 3 rfl (eq_int (numW_next hkl).symm) (sub_cons 6 rfl rfl (sub_cons 7 rfl rfl (sub_cons 8 rfl (eq_int (by simp)) (sub_nil _))))) (next1 (k + 1, C1) _ ⟨(by first | omega | (simp only; omega)), hF, hT, hb⟩ (by first | omega | (simp only; omega)))
 ·
  have hkl : k = b.length := by omega
  subst hkl
  refine run_ex 0 ?_
  refine run_sq ?_
  refine run_pl [yy 0, yy 1] ?_
  refine yM 21 3 ?_
  refine yA 2 21 ?_
  refine Sch.nil ?_
  refine run_ret1 (by kernel_rfl) Tryz.func65 Tryz.results65 rfl ?_
  exact ⟨rfl, hT.out1 (by decide)⟩
end Go.Proofs.YtfkggfmibpigpaaGreatDoor

/- Steps through functions of the program. -/
set_option linter.unusedVariables false
set_option linter.unusedSimpArgs false
set_option maxRecDepth 100000
set_option maxHeartbeats 4000000
namespace Go.Proofs.YtfkggfmibpigpaaGreatDoor
open Go.K Go.K.Rep
namespace F41
noncomputable def c0 := bodyOf Tryz.f41
end F41
theorem sipsum_ok {w₀ : World} {C : Nat → Nat} {ka kb : Int} {b : List U8} {vb : Value} (hF : Lim w₀ C) (hb : RV w₀ (Mc C) b vb) : Calls Tryz.prog 41 #[.agg #[.int .u64 ka, .int .u64 kb], vb] w₀ (Ret fun v w' => v = .int .u64 (sumW ka kb b) ∧ Stp [] w₀ C w' C) := by
 have hF0 := hF
 have hT := Stp.refl [2, 3, 4, 5, 6, 7, 8, 9] w₀ (col1 C)
 replace hF := hF.col1
 replace hb : RV w₀ (Mc (col1 C)) b vb := by rw [Mc_col1]; exact hb
 have hle := hb.le
 refine calls_start (c := F41.c0) (N := 54) [.agg #[.int .u64 ka, .int .u64 kb], vb] Tryz.func41 (by kernel_rfl) (by kernel_rfl) (by kernel_rfl) ?_
 show Run _ _ _ _ [(0, .agg #[.int .u64 ka, .int .u64 kb]), (1, vb)] _ _
 refine run_sq ?_
 refine run_pl [nn 0, yy 1] ?_
 refine aS (kq 2 (.box 29 (.tmp 0))) rfl rfl (a_box (cs := [.int .u64 ka, .int .u64 kb]) hF 3 rfl rfl) ?_
 rintro _ w1 ⟨Cw1, bw1, rfl, hs, hk, hF⟩
 refine ⟨trivial, ?_⟩
 replace hT := hT.t hs; replace hb := hb.t hs
 refine yAc 4 (.int .u64 0) ?_
 refine Sch.nil ?_
 refine run_sq ?_
 refine run_pl [yy 0, nn 1, yy 2, yy 3, nn 4, yy 5, yy 6, nn 7, yy 8, yy 9, nn 10, yy 11, yy 12, nn 13, nn 14] ?_
 refine yF 7 29 2 0 0 ?_
 refine nS (kq 8 (.load 27 (.tmp 7))) rfl rfl trivial (val_loadOwn hk.at_ (by kernel_rfl) rfl rfl) ?_
 refine yV (kq 9 (.binOp .xor 27 (.tmp 8) (.const (.int .u64 8317987319222330741)) 27)) (fun _ => val_xor rfl rfl) ?_
 refine yF 10 29 2 1 1 ?_
 refine nS (kq 11 (.load 27 (.tmp 10))) rfl rfl trivial (val_loadOwn hk.at_ (by kernel_rfl) rfl rfl) ?_
 refine yV (kq 12 (.binOp .xor 27 (.tmp 11) (.const (.int .u64 7237128888997146477)) 27)) (fun _ => val_xor rfl rfl) ?_
 refine yF 13 29 2 0 0 ?_
 refine nS (kq 14 (.load 27 (.tmp 13))) rfl rfl trivial (val_loadOwn hk.at_ (by kernel_rfl) rfl rfl) ?_
 refine yV (kq 15 (.binOp .xor 27 (.tmp 14) (.const (.int .u64 7816392313619706465)) 27)) (fun _ => val_xor rfl rfl) ?_
 refine yF 16 29 2 1 1 ?_
 refine nS (kq 17 (.load 27 (.tmp 16))) rfl rfl trivial (val_loadOwn hk.at_ (by kernel_rfl) rfl rfl) ?_
 refine yV (kq 18 (.binOp .xor 27 (.tmp 17) (.const (.int .u64 8387220255154660723)) 27)) (fun _ => val_xor rfl rfl) ?_
 refine yV (kq 19 (.build 108 #[(0, (.tmp 9)), (1, (.tmp 12)), (2, (.tmp 15)), (3, (.tmp 18))])) (fun _ => val_build (zs := [.int .u64 0, .int .u64 0, .int .u64 0, .int .u64 0]) (ps := [(0, 1), (1, 1), (2, 1), (3, 1)]) (qs := [(0, [.int .u64 (iniW ka kb).a]), (1, [.int .u64 (iniW ka kb).b]), (2, [.int .u64 (iniW ka kb).c]), (3, [.int .u64 (iniW ka kb).d])]) (cs := [.int .u64 (iniW ka kb).a, .int .u64 (iniW ka kb).b, .int .u64 (iniW ka kb).c, .int .u64 (iniW ka kb).d]) (by kernel_rfl) (by kernel_rfl) (by exact ⟨rfl, ⟨_, rfl, rfl⟩, rfl, ⟨_, rfl, rfl⟩, rfl, ⟨_, rfl, rfl⟩, rfl, ⟨_, rfl, rfl⟩, trivial⟩) rfl) ?_
 refine aS (kq 5 (.alloc 108)) rfl rfl (a_alloc (cs := [.int .u64 0, .int .u64 0, .int .u64 0, .int .u64 0]) hF 4 (by kernel_rfl)) ?_
 rintro _ w2 ⟨Cw2, bw2, rfl, hs, hz, hF⟩
 refine ⟨trivial, ?_⟩
 replace hT := hT.t hs; replace hb := hb.t hs; replace hk := hk.t hs
 refine aN (k0 (.store 108 (.tmp 5) (.tmp 19))) rfl (a_storeAll (vs := [.int .u64 (iniW ka kb).a, .int .u64 (iniW ka kb).b, .int .u64 (iniW ka kb).c, .int .u64 (iniW ka kb).d]) (n := 4) rfl rfl (by kernel_rfl) rfl rfl (by intro z hz; simp only [List.mem_cons, List.not_mem_nil, or_false] at hz; rcases hz with rfl | rfl | rfl | rfl <;> rfl) hz rfl) ?_
 rintro _ w3 ⟨rfl, hs, hz⟩
 refine ⟨trivial, ?_⟩
 replace hF := hF.st hs
 replace hT := hT.t hs; replace hb := hb.t hs; replace hk := hk.t hs
 refine Sch.nil ?_
 refine run_sq ?_
 refine run_pl [yy 0, yy 1, yy 2, yy 3, yy 4] ?_
 refine yM 20 1 ?_
 refine yS (kq 21 (.call { callee := .builtin .len, args := #[(.tmp 20)], argTypes := #[85] })) rfl rfl (fun w' hS => hb.lenV rfl Tryz.underlying85 w' ) ?_
 refine yV (kq 22 (.convert 3 27 (.tmp 21))) (fun _ => val_conv_int rfl ⟨_, Tryz.underlying3⟩ Tryz.underlying27) ?_
 refine yV (kq 23 (.binOp .shl 27 (.tmp 22) (.const (.int .u64 56)) 58)) (fun _ => val_shl rfl rfl (by omega)) ?_
 refine yA 6 23 ?_
 refine Sch.nil ?_
 refine run_sq ?_
 refine run_bk 0 ?_
 
 refine run_lp (ι := Nat × Value × (Nat → Nat)) (I := fun x w => 8 * x.1 ≤ b.length ∧ Lim w x.2.2 ∧ Stp [2, 3, 4, 5, 6, 7, 8, 9] w₀ (col1 C) w x.2.2 ∧ RV w (Mc x.2.2) (b.drop (8 * x.1)) x.2.1 ∧ OwnB w x.2.2 4 bw2 (.cells [.int .u64 (grpW (iniW ka kb) b x.1).a, .int .u64 (grpW (iniW ka kb) b x.1).b, .int .u64 (grpW (iniW ka kb) b x.1).c, .int .u64 (grpW (iniW ka kb) b x.1).d].toArray 108)) (e := fun x => [(1, x.2.1), (5, .pointer (some ⟨bw2, 0, none⟩)), (6, .int .u64 (shlW (IntKind.u64.wrap b.length) 56))]) (m := fun x => b.length - 8 * x.1) (x₀ := (0, vb, Cw2)) (sr 1 (sr 5 (sr 6 (sub_nil _)))) ?_ ?_
 · exact ⟨(by omega), hF, hT, hb, hz⟩
 intro ⟨q, v1, C1⟩ w4 hI next
 obtain ⟨hq, hF, hT, hb, hz⟩ := hI
 try simp only at hq hF hT hb hz
 have next1 := next
 clear next
 show Run _ _ _ _ [(1, v1), (5, .pointer (some ⟨bw2, 0, none⟩)), (6, .int .u64 (shlW (IntKind.u64.wrap b.length) 56))] _ _
 have hdl : (b.drop (8 * q)).length = b.length - 8 * q := List.length_drop
 refine run_sq ?_
 refine run_sq ?_
 refine run_pl [yy 0, yy 1, yy 2] ?_
 refine yM 24 1 ?_
 refine yS (kq 25 (.call { callee := .builtin .len, args := #[(.tmp 24)], argTypes := #[85] })) rfl rfl (fun w' hS => hb.lenV rfl Tryz.underlying85 w' ) ?_
 refine yV (kq 26 (.binOp .geq 3 (.tmp 25) (.const (.int .i64 8)) 3)) (fun _ => val_geq rfl rfl) ?_
 refine Sch.nil ?_
 refine run_i 26 rfl (fun h26 => ?_) (fun h26 => ?_)
 ·
  have hq8 : 8 * q + 8 ≤ b.length := by omega
  refine run_sk ?_
  refine run_sq ?_
  refine run_bk 1 ?_
  refine run_pl [yy 0, yy 1, nn 2, nn 3] ?_
  refine yM 29 1 ?_
  refine sTR (e' := 5) (kq 30 (.slice 85 (.tmp 29) none (some (.const (.int .i64 8))) none)) rfl rfl hb rfl (by kernel_rfl) rfl (by omega) (by omega) ?_
  intro v30 h30
  try simp only [Int.toNat_natCast] at h30
  replace h30 : RV _ _ ((b.drop (8 * q)).take 8) _ := h30
  refine cS (kq 31 (.call { callee := .value (.func 65), args := #[(.tmp 30)], argTypes := #[85] })) rfl rfl (ent Tryz.call65 rfl) (sipnumber_ok hF h30 (by rw [List.length_take]; omega)) ?_
  rintro vw5 w5 ⟨rfl, hs⟩
  rw [show ((b.drop (8 * q)).take 8).length = 8 by rw [List.length_take]; omega, numW_take (by omega) (by omega)]
  refine ⟨trivial, ?_⟩
  replace hF := hF.st hs
  replace hT := hT.t hs; replace hb := hb.t hs; replace hz := hz.t hs; replace h30 := h30.t hs
  refine cS (kq 32 (.call { callee := .value (.func 64), args := #[(.tmp 5), (.tmp 31)], argTypes := #[108, 27] })) rfl rfl (ent Tryz.call64 rfl) (sipword_ok (s := (grpW (iniW ka kb) b q)) (m := (numW (b.drop (8 * q)) 8)) hF (by decide) hz) ?_
  rintro vw6 w6 ⟨rfl, hs, hz⟩
  refine ⟨trivial, ?_⟩
  replace hF := hF.st hs
  replace hT := hT.t hs; replace hb := hb.t hs; replace h30 := h30.t hs
  refine Sch.nil ?_
  refine run_inBlock ?_
  refine run_pl [yy 0, yy 1, yy 2] ?_
  refine yM 27 1 ?_
  refine sFR (e' := 5) (kq 28 (.slice 85 (.tmp 27) (some (.const (.int .i64 8))) none none)) rfl rfl hb rfl (by kernel_rfl) rfl (by omega) (by omega) ?_
  intro v28 h28
  try simp only [Int.toNat_natCast] at h28
  replace h28 : RV _ _ ((b.drop (8 * q)).drop 8) _ := h28
  rw [List.drop_drop] at h28
  refine yA 1 28 ?_
  refine Sch.nil ?_
  refine kp (sub_cons 1 rfl rfl (sub_cons 5 rfl rfl (sub_cons 6 rfl rfl (sub_nil _)))) (next1 (q + 1, v28, C1) _ ⟨(by first | omega | (simp only; omega)), hF, hT, h28, hz⟩ (by first | omega | (simp only; omega)))
 ·
  have hq8 : q = b.length / 8 := by omega
  have hr8 : b.length - 8 * q = b.length % 8 := by omega
  refine run_ex 0 ?_
  refine run_sq ?_
  refine run_pl [yy 0, nn 1, yy 2, yy 3, nn 4] ?_
  refine yM 33 1 ?_
  refine cS (kq 34 (.call { callee := .value (.func 65), args := #[(.tmp 33)], argTypes := #[85] })) rfl rfl (ent Tryz.call65 rfl) (sipnumber_ok hF hb (by omega)) ?_
  rintro vw7 w7 ⟨rfl, hs⟩
  rw [hdl, hr8]
  refine ⟨trivial, ?_⟩
  replace hF := hF.st hs
  replace hT := hT.t hs; replace hb := hb.t hs; replace hz := hz.t hs
  refine yM 35 6 ?_
  refine yV (kq 36 (.binOp .or 27 (.tmp 34) (.tmp 35) 27)) (fun _ => val_or rfl rfl) ?_
  have hlw : lastW b = orW (numW (b.drop (8 * q)) (b.length % 8)) (shlW (IntKind.u64.wrap b.length) 56) := by unfold lastW; rw [← hq8]
  refine cS (kq 37 (.call { callee := .value (.func 64), args := #[(.tmp 5), (.tmp 36)], argTypes := #[108, 27] })) rfl rfl (ent Tryz.call64 rfl) (sipword_ok (s := (grpW (iniW ka kb) b q)) (m := orW (numW (b.drop (8 * q)) (b.length % 8)) (shlW (IntKind.u64.wrap b.length) 56)) hF (by decide) hz) ?_
  rintro vw8 w8 ⟨rfl, hs, hz⟩
  refine ⟨trivial, ?_⟩
  replace hF := hF.st hs
  replace hT := hT.t hs; replace hb := hb.t hs
  obtain ⟨t, ht⟩ : ∃ t, t = takeW (grpW (iniW ka kb) b q) (lastW b) := ⟨_, rfl⟩
  rw [← hlw, ← ht] at hz
  refine Sch.nil ?_
  refine run_sq ?_
  refine run_pl [yy 0, nn 1, yy 2, yy 3, nn 4] ?_
  refine yF 38 108 5 2 2 ?_
  refine nS (kq 39 (.load 27 (.tmp 38))) rfl rfl trivial (val_loadOwn hz.at_ (by kernel_rfl) rfl rfl) ?_
  refine yV (kq 40 (.binOp .xor 27 (.tmp 39) (.const (.int .u64 255)) 27)) (fun _ => val_xor rfl rfl) ?_
  refine yF 41 108 5 2 2 ?_
  refine aN (k0 (.store 27 (.tmp 41) (.tmp 40))) rfl (a_store1 rfl rfl (by kernel_rfl) rfl rfl hz (by simp)) ?_
  rintro _ w9 ⟨rfl, hs, hz⟩
  refine ⟨trivial, ?_⟩
  replace hF := hF.st hs
  replace hT := hT.t hs; replace hb := hb.t hs
  refine Sch.nil ?_
  refine run_sq ?_
  refine run_pl [nn 0] ?_
  replace hz : OwnB _ _ 4 _ (.cells [.int .u64 t.a, .int .u64 t.b, .int .u64 (xorW t.c 255), .int .u64 t.d].toArray 108) := hz
  refine cS (kq 42 (.call { callee := .value (.func 66), args := #[(.tmp 5), (.const (.int .i64 4))], argTypes := #[108, 3] })) rfl rfl (ent Tryz.call66 rfl) (rounds_ok (n := 4) (s := ⟨t.a, t.b, xorW t.c 255, t.d⟩) hF (by decide) hz (by decide)) ?_
  rintro vw10 w10 ⟨rfl, hs, hz⟩
  refine ⟨trivial, ?_⟩
  replace hF := hF.st hs
  replace hT := hT.t hs; replace hb := hb.t hs
  obtain ⟨u, hu⟩ : ∃ u, u = rndsW ⟨t.a, t.b, xorW t.c 255, t.d⟩ 4 := ⟨_, rfl⟩
  rw [← hu] at hz
  refine Sch.nil ?_
  refine run_sq ?_
  refine run_pl [yy 0, nn 1, yy 2, nn 3, yy 4, yy 5, nn 6, yy 7, yy 8, nn 9, yy 10, yy 11] ?_
  refine yF 43 108 5 0 0 ?_
  refine nS (kq 44 (.load 27 (.tmp 43))) rfl rfl trivial (val_loadOwn hz.at_ (by kernel_rfl) rfl rfl) ?_
  refine yF 45 108 5 1 1 ?_
  refine nS (kq 46 (.load 27 (.tmp 45))) rfl rfl trivial (val_loadOwn hz.at_ (by kernel_rfl) rfl rfl) ?_
  refine yV (kq 47 (.binOp .xor 27 (.tmp 44) (.tmp 46) 27)) (fun _ => val_xor rfl rfl) ?_
  refine yF 48 108 5 2 2 ?_
  refine nS (kq 49 (.load 27 (.tmp 48))) rfl rfl trivial (val_loadOwn hz.at_ (by kernel_rfl) rfl rfl) ?_
  refine yV (kq 50 (.binOp .xor 27 (.tmp 47) (.tmp 49) 27)) (fun _ => val_xor rfl rfl) ?_
  refine yF 51 108 5 3 3 ?_
  refine nS (kq 52 (.load 27 (.tmp 51))) rfl rfl trivial (val_loadOwn hz.at_ (by kernel_rfl) rfl rfl) ?_
  refine yV (kq 53 (.binOp .xor 27 (.tmp 50) (.tmp 52) 27)) (fun _ => val_xor rfl rfl) ?_
  refine yA 4 53 ?_
  refine Sch.nil ?_
  refine run_ret1 (by kernel_rfl) Tryz.func41 Tryz.results41 rfl ?_
  rw [show sumW ka kb b = xorW (xorW (xorW u.a u.b) u.c) u.d from by unfold sumW; rw [← hq8, ← ht, hu]; rfl]
  exact ⟨rfl, hT.out1 (by decide)⟩
end Go.Proofs.YtfkggfmibpigpaaGreatDoor

/- Steps through functions of the program. -/
set_option linter.unusedVariables false
set_option linter.unusedSimpArgs false
set_option maxRecDepth 100000
set_option maxHeartbeats 4000000
namespace Go.Proofs.YtfkggfmibpigpaaGreatDoor
open Go.K Go.K.Rep
namespace F21
noncomputable def c0 := bodyOf Tryz.f21
end F21
theorem sipparts_ok {w₀ : World} {C : Nat → Nat} {ka kb : Int} {l : List Tx} {vl : Value} (hF : Lim w₀ C) (hl : RV w₀ (Mc C) l vl) (hs0 : ∀ x ∈ l, x.l.length ≤ 65535) (hn : l.length ≤ 100) : Calls Tryz.prog 21 #[.agg #[.int .u64 ka, .int .u64 kb], vl] w₀ (Ret fun v w' => v = .int .u64 (partsW ka kb (l.map (·.l))) ∧ Stp [] w₀ C w' C) := by
 have hF0 := hF
 have hT := Stp.refl [2, 3, 4, 5, 6, 7, 8, 9] w₀ (col1 C)
 replace hF := hF.col1
 replace hl : RV w₀ (Mc (col1 C)) l vl := by rw [Mc_col1]; exact hl
 refine calls_start (c := F21.c0) (N := 36) [.agg #[.int .u64 ka, .int .u64 kb], vl] Tryz.func21 (by kernel_rfl) (by kernel_rfl) (by kernel_rfl) ?_
 show Run _ _ _ _ [(0, .agg #[.int .u64 ka, .int .u64 kb]), (1, vl)] _ _
 refine run_sq ?_
 refine run_pl [nn 0, yy 1] ?_
 refine aS (kq 2 (.box 29 (.tmp 0))) rfl rfl (a_box (cs := [.int .u64 ka, .int .u64 kb]) hF 3 rfl rfl) ?_
 rintro _ w1 ⟨Cw1, bw1, rfl, hs, hk, hF⟩
 refine ⟨trivial, ?_⟩
 replace hT := hT.t hs; replace hl := hl.t hs
 refine yAc 4 (.int .u64 0) ?_
 refine Sch.nil ?_
 refine run_sq ?_
 refine run_pl [yy 0] ?_
 refine yV (kq 5 (.assign (.const (.slice none 0 0)))) (fun _ => val_assign rfl) ?_
 refine Sch.nil ?_
 refine run_sq ?_
 refine run_sq ?_
 refine run_pl [yy 0, yy 1, yy 2] ?_
 refine yM 8 1 ?_
 refine yS (kq 9 (.call { callee := .builtin .len, args := #[(.tmp 8)], argTypes := #[84] })) rfl rfl (fun w' hS => hl.lenV rfl Tryz.underlying84 w' ) ?_
 refine yV (kq 10 (.move (.const (.int .i64 0)))) (fun _ => val_move rfl) ?_
 refine Sch.nil ?_
 refine run_bk 0 ?_
 
 refine run_lp (ι := Nat × Value × (Nat → Nat)) (I := fun x w => x.1 ≤ l.length ∧ ((l.take x.1).flatMap fun x => lenB x.l).length ≤ 65537 * x.1 ∧ Lim w x.2.2 ∧ Stp [2, 3, 4, 5, 6, 7, 8, 9] w₀ (col1 C) w x.2.2 ∧ RV w (Mc x.2.2) l vl ∧ OwnB w x.2.2 3 bw1 (.cells [.int .u64 ka, .int .u64 kb].toArray 29) ∧ OwnL w x.2.2 4 5 x.2.1 ((l.take x.1).flatMap fun x => lenB x.l)) (e := fun x => [(2, .pointer (some ⟨bw1, 0, none⟩)), (5, x.2.1), (8, vl), (9, .int .i64 l.length), (10, .int .i64 x.1)]) (m := fun x => l.length - x.1) (x₀ := (0, .slice none 0 0, Cw1)) (sr 2 (sr 5 (sr 8 (sr 9 (sr 10 (sub_nil _)))))) ?_ ?_
 · exact ⟨Nat.zero_le _, by simp, hF, hT, hl, hk, OwnL.nil⟩
 intro ⟨k, vo, C1⟩ w2 hI next
 obtain ⟨hk0, hol, hF, hT, hl, hk, ho⟩ := hI
 try simp only at hk0 hol hF hT hl hk ho
 have next1 := next
 clear next
 show Run _ _ _ _ [(2, .pointer (some ⟨bw1, 0, none⟩)), (5, vo), (8, vl), (9, .int .i64 l.length), (10, .int .i64 k)] _ _
 have hle := hl.le
 refine run_sq ?_
 refine run_pl [yy 0] ?_
 refine yV (kq 11 (.binOp .lss 3 (.tmp 10) (.tmp 9) 3)) (fun _ => val_lss rfl rfl) ?_
 refine Sch.nil ?_
 refine run_sq ?_
 refine run_i 11 rfl (fun h11 => ?_) (fun h11 => ?_)
 ·
  have hkl : k < l.length := by omega
  have hx := hs0 _ (List.getElem_mem hkl)
  refine run_sk ?_
  refine run_sq ?_
  refine run_bk 1 ?_
  refine run_sq ?_
  refine run_pl [yy 0, nn 1, yy 2] ?_
  refine iS (e := 9) (kq 12 (.indexAddr 84 (.tmp 8) (.tmp 10))) rfl rfl hl rfl (by kernel_rfl) rfl (by omega) (by omega) ?_
  intro b12 o12 h12
  try simp only [Int.toNat_natCast] at h12
  refine lN (kq 13 (.load 9 (.tmp 12))) rfl rfl trivial h12 (by kernel_rfl) rfl rfl ?_
  intro v13 g13
  obtain ⟨rfl, hb13⟩ := rv_tx.1 g13
  refine yA 7 13 ?_
  refine Sch.nil ?_
  refine run_sq ?_
  refine run_pl [yy 0, yy 1, yy 2, yy 3, yy 4, yy 5] ?_
  refine yM 14 7 ?_
  refine yM 15 7 ?_
  refine yV (kq 16 (.call { callee := .builtin .len, args := #[(.tmp 15)], argTypes := #[9] })) (fun _ => val_lenT rfl Tryz.underlying9) ?_
  refine yV (kq 17 (.call { callee := .builtin .min, args := #[(.tmp 16), (.const (.int .i64 65535))], argTypes := #[3, 3] })) (fun _ => val_is (val_min rfl rfl Tryz.underlying3) (congrArg (Value.int .i64) (show min (((l[k]'hkl).l.length : Nat) : Int) 65535 = (l[k]'hkl).l.length by omega))) ?_
  refine yV (kq 18 (.slice 9 (.tmp 14) none (some (.tmp 17)) none)) (fun _ => val_is (val_subToN (i := (l[k]'hkl).l.length) rfl rfl Tryz.underlying9 (Nat.le_refl _)) (congrArg bs (List.take_length))) ?_
  refine yA 7 18 ?_
  refine Sch.nil ?_
  refine run_sq ?_
  refine run_pl [yy 0, yy 1, yy 2, yy 3, yy 4, yy 5, yy 6, yy 7, nn 8, nn 9, yy 10] ?_
  refine yM 19 5 ?_
  refine yM 20 7 ?_
  refine yV (kq 21 (.call { callee := .builtin .len, args := #[(.tmp 20)], argTypes := #[9] })) (fun _ => val_lenT rfl Tryz.underlying9) ?_
  refine yV (kq 22 (.binOp .shr 3 (.tmp 21) (.const (.int .u64 8)) 58)) (fun _ => val_shr rfl rfl (by omega)) ?_
  refine yV (kq 23 (.convert 3 5 (.tmp 22))) (fun _ => val_conv_int rfl ⟨_, Tryz.underlying3⟩ Tryz.underlying5) ?_
  refine yM 24 7 ?_
  refine yV (kq 25 (.call { callee := .builtin .len, args := #[(.tmp 24)], argTypes := #[9] })) (fun _ => val_lenT rfl Tryz.underlying9) ?_
  refine yV (kq 26 (.convert 3 5 (.tmp 25))) (fun _ => val_conv_int rfl ⟨_, Tryz.underlying3⟩ Tryz.underlying5) ?_
  refine aS (kq 27 (.buildSlice 85 2 #[(0, (.tmp 23)), (1, (.tmp 26))])) rfl rfl (a_buildSlice (ys := ([⟨IntKind.u8.wrap (((l[k]'hkl).l.length : Int).fdiv (2 ^ min (8 : Int).toNat IntKind.i64.bits))⟩, ⟨IntKind.u8.wrap ((l[k]'hkl).l.length : Int)⟩] : List U8)) (e := 5) (bytes := 1) hF (by kernel_rfl) rfl (by decide) (by decide) ⟨rfl, ⟨_, rfl, rv_num.2 rfl⟩, rfl, ⟨_, rfl, rv_num.2 rfl⟩, trivial⟩) ?_
  rintro v27 w3 ⟨hs, g27, hF⟩
  refine ⟨trivial, ?_⟩
  replace hT := hT.t hs; replace hl := hl.t hs; replace hk := hk.t hs; replace ho := ho.t hs; replace h12 := h12.t hs
  refine aS (kq 28 (.call { callee := .builtin .append, args := #[(.tmp 19), (.tmp 27)], argTypes := #[85, 85] })) rfl rfl (a_append (e := 5) (bytes := 1) hF (by decide) rfl rfl (by kernel_rfl) (by decide) ho g27 (by simp only [List.length_cons, List.length_nil]; omega) (by simp only [List.length_cons, List.length_nil]; omega)) ?_
  rintro v28 w4 ⟨Cw4, hs, ho, hF⟩
  refine ⟨trivial, ?_⟩
  replace hT := hT.t hs; replace hl := hl.t hs; replace hk := hk.t hs; replace h12 := h12.t hs; replace g27 := g27.t hs
  refine yA 5 28 ?_
  refine Sch.nil ?_
  refine run_pl [yy 0, yy 1, nn 2, yy 3] ?_
  refine yM 29 5 ?_
  refine yM 30 7 ?_
  refine aS (kq 31 (.call { callee := .builtin .append, args := #[(.tmp 29), (.tmp 30)], argTypes := #[85, 9] })) rfl rfl (a_appendT (s := (l[k]'hkl).l) hF (by decide) rfl rfl (by kernel_rfl) Tryz.underlying9 ho (by simp only [List.length_append, List.length_cons, List.length_nil]; omega)) ?_
  rintro v31 w5 ⟨Cw5, hs, ho, hF⟩
  refine ⟨trivial, ?_⟩
  replace hT := hT.t hs; replace hl := hl.t hs; replace hk := hk.t hs; replace h12 := h12.t hs; replace g27 := g27.t hs
  refine yA 5 31 ?_
  refine Sch.nil ?_
  refine run_inBlock ?_
  refine run_pl [yy 0, yy 1] ?_
  refine yV (kq 32 (.binOp .add 3 (.tmp 10) (.const (.int .i64 1)) 3)) (fun _ => val_addi rfl rfl (by omega) (by omega)) ?_
  refine yM 10 32 ?_
  refine Sch.nil ?_
  refine kp (sub_cons 2 rfl rfl (sub_cons 5 rfl rfl (sub_cons 8 rfl rfl (sub_cons 9 rfl rfl (sub_cons 10 rfl (eq_int (by simp)) (sub_nil _)))))) (next1 (k + 1, v31, Cw5) _ ⟨(by first | omega | (simp only; omega)), (by rw [lenB_next hkl]; simp only [List.length_append]; rw [lenB_len]; omega), hF, hT, hl, hk, (by rw [lenB_next hkl]; rw [List.append_assoc] at ho; exact ho)⟩ (by first | omega | (simp only; omega)))
 ·
  have hkl : k = l.length := by omega
  subst hkl
  rw [List.take_length] at ho hol
  refine run_ex 0 ?_
  refine run_sq ?_
  refine run_pl [nn 0, yy 1, nn 2, yy 3] ?_
  replace hF := hF.frz 4
  replace hT := hT.frz (n := 4) (fun b => Nat.lt_of_lt_of_le (col1_lt2 C b) (by decide))
  replace hl := hl.frz 4
  replace hk := hk.frz (n := 4) (by decide)
  have ho_ := ho.frz (n := 4) (by decide) (by omega)
  replace ho := ho_
  clear ho_
  refine nS (kq 33 (.load 29 (.tmp 2))) rfl rfl trivial (val_loadOwnAgg (n := 2) (vs := [.int .u64 ka, .int .u64 kb]) hk.at_ (by kernel_rfl) (by kernel_rfl) rfl rfl rfl) ?_
  refine yM 34 5 ?_
  refine cS (kq 35 (.call { callee := .value (.func 41), args := #[(.tmp 33), (.tmp 34)], argTypes := #[29, 85] })) rfl rfl (ent Tryz.call41 rfl) (sipsum_ok hF ho) ?_
  rintro vw6 w6 ⟨rfl, hs⟩
  refine ⟨trivial, ?_⟩
  replace hF := hF.st hs
  replace hT := hT.t hs; replace hl := hl.t hs; replace hk := hk.t hs; replace ho := ho.t hs
  refine yA 4 35 ?_
  refine Sch.nil ?_
  refine run_ret1 (by kernel_rfl) Tryz.func21 Tryz.results21 rfl ?_
  exact ⟨by rw [partsW, List.flatMap_map], hT.out1 (by decide)⟩
end Go.Proofs.YtfkggfmibpigpaaGreatDoor

/- Steps through functions of the program. -/
set_option linter.unusedVariables false
set_option linter.unusedSimpArgs false
set_option maxRecDepth 100000
set_option maxHeartbeats 4000000
namespace Go.Proofs.YtfkggfmibpigpaaGreatDoor
open Go.K Go.K.Rep
namespace F20
noncomputable def c0 := bodyOf Tryz.f20
noncomputable def o1 := rops (cl (cr c0))
end F20
theorem sipderive_ok {w₀ : World} {C : Nat → Nat} {ka kb : Int} {s : List UInt8} (hF : Lim w₀ C) (hsl : s.length ≤ 65535) : Calls Tryz.prog 20 #[.agg #[.int .u64 ka, .int .u64 kb], bs s] w₀ (Ret fun v w' => v = .agg #[.int .u64 (drvW ka kb s).1, .int .u64 (drvW ka kb s).2] ∧ Stp [] w₀ C w' C) := by
 have hF0 := hF
 have hT := Stp.refl [2, 3, 4, 5, 6, 7, 8, 9] w₀ (col1 C)
 replace hF := hF.col1
 refine calls_start (c := F20.c0) (N := 14) [.agg #[.int .u64 ka, .int .u64 kb], bs s] Tryz.func20 (by kernel_rfl) (by kernel_rfl) (by kernel_rfl) ?_
 show Run _ _ _ _ [(0, .agg #[.int .u64 ka, .int .u64 kb]), (1, bs s)] _ _
 refine run_sq ?_
 refine run_pl [nn 0, nn 1] ?_
 refine aS (kq 2 (.box 29 (.tmp 0))) rfl rfl (a_box (cs := [.int .u64 ka, .int .u64 kb]) hF 3 rfl rfl) ?_
 rintro _ w1 ⟨Cw1, bw1, rfl, hs, hk, hF⟩
 refine ⟨trivial, ?_⟩
 replace hT := hT.t hs
 refine aS (kq 4 (.alloc 29)) rfl rfl (a_alloc (cs := [.int .u64 0, .int .u64 0]) hF 4 (by kernel_rfl)) ?_
 rintro _ w2 ⟨Cw2, bw2, rfl, hs, hy, hF⟩
 refine ⟨trivial, ?_⟩
 replace hT := hT.t hs; replace hk := hk.t hs
 refine Sch.nil ?_
 refine run_sq ?_
 refine run_dag (id := 1) (ops := F20.o1) (C := Cw2) [4] (fun w C => True) [⟨[3], fun w C => OwnB w C 3 bw1 (.cells [.int .u64 ka, .int .u64 kb].toArray 29)⟩, ⟨[4], fun w C => OwnB w C 4 bw2 (.cells [.int .u64 0, .int .u64 0].toArray 29)⟩] [1, 5] [⟨0, some 5, [], [], [], [], [], [0], [], fun v vs w C => v = .agg #[.int .u64 ka, .int .u64 kb]⟩, ⟨2, some 7, [], [], [0], [], [], [], [], fun v vs w C => RV w (Mc C) ([⟨s⟩, ⟨[97]⟩] : List Tx) v⟩, ⟨3, some 8, [(0, 5), (2, 7)], [], [], [], [], [], [], fun v vs w C => v = .int .u64 (partsW ka kb [s, [97]])⟩, ⟨4, some 9, [], [], [], [], [], [0], [], fun v vs w C => v = .agg #[.int .u64 ka, .int .u64 kb]⟩, ⟨6, some 11, [], [], [0], [], [], [], [], fun v vs w C => RV w (Mc C) ([⟨s⟩, ⟨[98]⟩] : List Tx) v⟩, ⟨7, some 12, [(4, 9), (6, 11)], [], [], [], [], [], [], fun v vs w C => v = .int .u64 (partsW ka kb [s, [98]])⟩, ⟨8, some 13, [(3, 8), (7, 12)], [], [], [], [], [], [], fun v vs w C => v = .agg #[.int .u64 (partsW ka kb [s, [97]]), .int .u64 (partsW ka kb [s, [98]])]⟩, ⟨9, none, [(8, 13)], [4], [4], [], [], [1], [1], fun v vs w C => OwnB w C 4 bw2 (.cells [.int .u64 (partsW ka kb [s, [97]]), .int .u64 (partsW ka kb [s, [98]])].toArray 29)⟩] Tryz_mixed (by kernel_rfl) (by kernel_rfl) (by kernel_rfl) hF trivial ?_ ?_
 ·
  intro v hv
  simp only [List.mem_cons, List.not_mem_nil, or_false] at hv
  rcases hv with rfl | rfl
  · exact ⟨hk, fun w1 C1 w2 C2 W hW h hs => h.st hs (fun q => hW _ q (by simp))⟩
  · exact ⟨hy, fun w1 C1 w2 C2 W hW h hs => h.st hs (fun q => hW _ q (by simp))⟩
 refine ⟨_, _, _, (by kernel_rfl : opAt F20.o1 1 = some (some 6, .move (.tmp 1), none)), rfl, fun w' => val_move rfl, ?_⟩
 refine ⟨_, _, _, (by kernel_rfl : opAt F20.o1 5 = some (some 10, .move (.tmp 1), none)), rfl, fun w' => val_move rfl, ?_⟩
 refine ⟨?_, (by show List.Nodup [0, 2, 3, 4, 6, 7, 8, 9]; decide), (by show List.Nodup [5, 7, 8, 9, 11, 12, 13]; decide), ?_⟩
 ·
  intro m hm
  simp only [List.mem_cons, List.not_mem_nil, or_false] at hm
  rcases hm with rfl | rfl | rfl | rfl | rfl | rfl | rfl | rfl
  ·
   refine ⟨by kernel_rfl, rfl, fun t h => (by cases h; rfl), fun v vs w1 C1 w2 C2 W hW h hs => h, fun val w1 C1 hT1 hF1 hJ1 hn hu => ?_⟩
   have u0 := hu 0 (by simp)
   refine (Does.val (by kernel_rfl : opAt F20.o1 0 = some (some 5, .load 29 (.tmp 2), none)) (val_loadOwnAgg (n := 2) (vs := [.int .u64 ka, .int .u64 kb]) u0.at_ (by kernel_rfl) (by kernel_rfl) rfl rfl rfl)).mono ?_
   rintro v w2 ⟨rfl, rfl⟩
   exact ⟨C1, Stp.refl _ _ _, hF1, hJ1, rfl⟩
  ·
   refine ⟨by kernel_rfl, rfl, fun t h => (by cases h; rfl), fun v vs w1 C1 w2 C2 W hW h hs => h.st hs (fun q => hW _ q (by simp)), fun val w1 C1 hT1 hF1 hJ1 hn hu => ?_⟩
   refine (Does.act (by kernel_rfl : opAt F20.o1 2 = some (some 7, .buildSlice 84 2 #[(0, (.tmp 6)), (1, (.const (.string ⟨#[97]⟩)))], none)) (a_buildSlice (ys := ([⟨s⟩, ⟨[97]⟩] : List Tx)) (e := 9) (bytes := 16) hF1 (by kernel_rfl) rfl (by decide) (by decide) ⟨rfl, ⟨_, rfl, rv_tx.2 ⟨rfl, by show s.length ≤ 9223372036854775807; omega⟩⟩, rfl, ⟨_, rfl, rv_tx.2 ⟨rfl, by decide⟩⟩, trivial⟩)).mono ?_
   rintro v w2 ⟨hs, hr, hF2⟩
   exact ⟨C1, hs, hF2, trivial, hr⟩
  ·
   refine ⟨by kernel_rfl, rfl, fun t h => (by cases h; rfl), fun v vs w1 C1 w2 C2 W hW h hs => h, fun val w1 C1 hT1 hF1 hJ1 hn hu => ?_⟩
   have n0 := hn _ (List.mem_cons_self) (by simp)
   have n2 := hn _ (List.mem_cons_of_mem _ (List.mem_cons_self)) (by simp)
   have e0 : val 0 = .agg #[.int .u64 ka, .int .u64 kb] := n0
   refine (Does.call (by kernel_rfl : opAt F20.o1 3 = some (some 8, .call { callee := .value (.func 21), args := #[(.tmp 5), (.tmp 7)], argTypes := #[29, 84] }, none)) (ent Tryz.call21 rfl) (g := 21) (args := #[val 0, val 2]) (by rw [e0]; exact sipparts_ok hF1 n2 (by intro x hx; simp only [List.mem_cons, List.not_mem_nil, or_false] at hx; rcases hx with rfl | rfl; exact hsl; decide) (by show 2 ≤ 100; decide))).mono ?_
   rintro v w2 ⟨rfl, hs⟩
   exact ⟨C1, hs, hF1.st hs, trivial, rfl⟩
  ·
   refine ⟨by kernel_rfl, rfl, fun t h => (by cases h; rfl), fun v vs w1 C1 w2 C2 W hW h hs => h, fun val w1 C1 hT1 hF1 hJ1 hn hu => ?_⟩
   have u0 := hu 0 (by simp)
   refine (Does.val (by kernel_rfl : opAt F20.o1 4 = some (some 9, .load 29 (.tmp 2), none)) (val_loadOwnAgg (n := 2) (vs := [.int .u64 ka, .int .u64 kb]) u0.at_ (by kernel_rfl) (by kernel_rfl) rfl rfl rfl)).mono ?_
   rintro v w2 ⟨rfl, rfl⟩
   exact ⟨C1, Stp.refl _ _ _, hF1, hJ1, rfl⟩
  ·
   refine ⟨by kernel_rfl, rfl, fun t h => (by cases h; rfl), fun v vs w1 C1 w2 C2 W hW h hs => h.st hs (fun q => hW _ q (by simp)), fun val w1 C1 hT1 hF1 hJ1 hn hu => ?_⟩
   refine (Does.act (by kernel_rfl : opAt F20.o1 6 = some (some 11, .buildSlice 84 2 #[(0, (.tmp 10)), (1, (.const (.string ⟨#[98]⟩)))], none)) (a_buildSlice (ys := ([⟨s⟩, ⟨[98]⟩] : List Tx)) (e := 9) (bytes := 16) hF1 (by kernel_rfl) rfl (by decide) (by decide) ⟨rfl, ⟨_, rfl, rv_tx.2 ⟨rfl, by show s.length ≤ 9223372036854775807; omega⟩⟩, rfl, ⟨_, rfl, rv_tx.2 ⟨rfl, by decide⟩⟩, trivial⟩)).mono ?_
   rintro v w2 ⟨hs, hr, hF2⟩
   exact ⟨C1, hs, hF2, trivial, hr⟩
  ·
   refine ⟨by kernel_rfl, rfl, fun t h => (by cases h; rfl), fun v vs w1 C1 w2 C2 W hW h hs => h, fun val w1 C1 hT1 hF1 hJ1 hn hu => ?_⟩
   have n4 := hn _ (List.mem_cons_of_mem _ (List.mem_cons_of_mem _ (List.mem_cons_of_mem _ (List.mem_cons_self)))) (by simp)
   have n6 := hn _ (List.mem_cons_of_mem _ (List.mem_cons_of_mem _ (List.mem_cons_of_mem _ (List.mem_cons_of_mem _ (List.mem_cons_self))))) (by simp)
   have e4 : val 4 = .agg #[.int .u64 ka, .int .u64 kb] := n4
   refine (Does.call (by kernel_rfl : opAt F20.o1 7 = some (some 12, .call { callee := .value (.func 21), args := #[(.tmp 9), (.tmp 11)], argTypes := #[29, 84] }, none)) (ent Tryz.call21 rfl) (g := 21) (args := #[val 4, val 6]) (by rw [e4]; exact sipparts_ok hF1 n6 (by intro x hx; simp only [List.mem_cons, List.not_mem_nil, or_false] at hx; rcases hx with rfl | rfl; exact hsl; decide) (by show 2 ≤ 100; decide))).mono ?_
   rintro v w2 ⟨rfl, hs⟩
   exact ⟨C1, hs, hF1.st hs, trivial, rfl⟩
  ·
   refine ⟨by kernel_rfl, rfl, fun t h => (by cases h; rfl), fun v vs w1 C1 w2 C2 W hW h hs => h, fun val w1 C1 hT1 hF1 hJ1 hn hu => ?_⟩
   have n3 := hn _ (List.mem_cons_of_mem _ (List.mem_cons_of_mem _ (List.mem_cons_self))) (by simp)
   have n7 := hn _ (List.mem_cons_of_mem _ (List.mem_cons_of_mem _ (List.mem_cons_of_mem _ (List.mem_cons_of_mem _ (List.mem_cons_of_mem _ (List.mem_cons_self)))))) (by simp)
   refine (Does.val (by kernel_rfl : opAt F20.o1 8 = some (some 13, .build 29 #[(0, (.tmp 8)), (1, (.tmp 12))], none)) (v := .agg #[.int .u64 (partsW ka kb [s, [97]]), .int .u64 (partsW ka kb [s, [98]])]) (val_is (val_build (zs := [.int .u64 0, .int .u64 0]) (ps := [(0, 1), (1, 1)]) (cs := [.int .u64 (partsW ka kb [s, [97]]), .int .u64 (partsW ka kb [s, [98]])]) (qs := [(0, [.int .u64 (partsW ka kb [s, [97]])]), (1, [.int .u64 (partsW ka kb [s, [98]])])]) (by kernel_rfl) (by kernel_rfl) (by exact ⟨rfl, ⟨_, congrArg some n3, rfl⟩, rfl, ⟨_, congrArg some n7, rfl⟩, trivial⟩) rfl) rfl)).mono ?_
   rintro v w2 ⟨rfl, rfl⟩
   exact ⟨C1, Stp.refl _ _ _, hF1, hJ1, rfl⟩
  ·
   refine ⟨by kernel_rfl, rfl, fun t h => (by cases h), fun v vs w1 C1 w2 C2 W hW h hs => h.st hs (fun q => hW _ q (by simp)), fun val w1 C1 hT1 hF1 hJ1 hn hu => ?_⟩
   have n8 := hn _ (List.mem_cons_of_mem _ (List.mem_cons_of_mem _ (List.mem_cons_of_mem _ (List.mem_cons_of_mem _ (List.mem_cons_of_mem _ (List.mem_cons_of_mem _ (List.mem_cons_self))))))) (by simp)
   have u1 := hu 1 (by simp)
   have e8 : val 8 = .agg #[.int .u64 (partsW ka kb [s, [97]]), .int .u64 (partsW ka kb [s, [98]])] := n8
   refine (Does.act (by kernel_rfl : opAt F20.o1 9 = some (none, .store 29 (.tmp 4) (.tmp 13), none)) (a_storeAll (vs := [.int .u64 (partsW ka kb [s, [97]]), .int .u64 (partsW ka kb [s, [98]])]) (n := 2) rfl (by exact congrArg some e8) (by kernel_rfl) rfl rfl (by intro z hz; simp only [List.mem_cons, List.not_mem_nil, or_false] at hz; rcases hz with rfl | rfl <;> rfl) u1 rfl)).mono ?_
   rintro v w2 ⟨rfl, hs, hb2⟩
   exact ⟨C1, hs, hF1.st hs, trivial, hb2⟩
 clear hy
 intro val w19 C19 hs hF19 _ hM _
 obtain ⟨_, _, _, _, _, _, _, hy, _⟩ := hM
 replace hy : OwnB w19 C19 4 bw2 (.cells [.int .u64 (partsW ka kb [s, [97]]), .int .u64 (partsW ka kb [s, [98]])].toArray 29) := hy
 replace hT := hT.t hs; replace hk := hk.t hs
 replace hF := hF19
 show Sch _ _ _ _ _ _ _ [] (_ :: _) _
 refine Sch.nil ?_
 refine run_retC1 (by kernel_rfl) Tryz.func20 Tryz.results20 rfl hy.at_ (by kernel_rfl) (by kernel_rfl) rfl ?_
 exact ⟨rfl, hT.out1 (by decide)⟩
end Go.Proofs.YtfkggfmibpigpaaGreatDoor

/- Steps through functions of the program. -/
set_option linter.unusedVariables false
set_option linter.unusedSimpArgs false
set_option maxRecDepth 100000
set_option maxHeartbeats 4000000
namespace Go.Proofs.YtfkggfmibpigpaaGreatDoor
open Go.K Go.K.Rep
namespace F9
noncomputable def c0 := bodyOf Tryz.f9
noncomputable def o2 := rops (cl (cr (cr c0)))
end F9
theorem psd_ok {w₀ : World} {C : Nat → Nat} {num reg id turn : Nat} {ka kb : Int} {vr : Value} {lv : Bool} (hF : Lim w₀ C) (hb : Tb Tryz.prog w₀ C) (hn : num ≤ 9223372036854775807) (hr0 : reg ≤ 9223372036854775807) (hi0 : id ≤ 9223372036854775807) (ht0 : turn ≤ 9223372036854775807) : Calls Tryz.prog 9 #[.agg #[.int .i64 num, .int .u64 ka, .int .u64 kb, vr, .bool lv], .agg #[.int .i64 reg, .int .i64 id], .int .i64 turn] w₀ (Ret fun v w' => v = .int .u64 (psdW ka kb num reg id turn) ∧ Stp [] w₀ C w' C) := by
 have hF0 := hF
 have hT := Stp.refl [2, 3, 4, 5, 6, 7, 8, 9] w₀ (col1 C)
 replace hF := hF.col1
 replace hb := hb.col1
 refine calls_start (c := F9.c0) (N := 25) [.agg #[.int .i64 num, .int .u64 ka, .int .u64 kb, vr, .bool lv], .agg #[.int .i64 reg, .int .i64 id], .int .i64 turn] Tryz.func9 (by kernel_rfl) (by kernel_rfl) (by kernel_rfl) ?_
 show Run _ _ _ _ [(0, .agg #[.int .i64 num, .int .u64 ka, .int .u64 kb, vr, .bool lv]), (1, .agg #[.int .i64 reg, .int .i64 id]), (2, .int .i64 turn)] _ _
 refine run_sq ?_
 refine run_pl [nn 0, nn 1, yy 2] ?_
 refine aS (kq 3 (.box 31 (.tmp 0))) rfl rfl (a_box (cs := [.int .i64 num, .int .u64 ka, .int .u64 kb, vr, .bool lv]) hF 3 rfl rfl) ?_
 rintro _ w1 ⟨Cw1, bw1, rfl, hs, hp, hF⟩
 refine ⟨trivial, ?_⟩
 replace hT := hT.t hs
 replace hb := hb.st hs (by first | decide | (simp <;> omega))
 refine aS (kq 4 (.box 35 (.tmp 1))) rfl rfl (a_box (cs := [.int .i64 reg, .int .i64 id]) hF 4 rfl rfl) ?_
 rintro _ w2 ⟨Cw2, bw2, rfl, hs, hr, hF⟩
 refine ⟨trivial, ?_⟩
 replace hT := hT.t hs
 replace hb := hb.st hs (by first | decide | (simp <;> omega))
 replace hp := hp.t hs
 refine yAc 6 (.int .u64 0) ?_
 refine Sch.nil ?_
 refine run_sq ?_
 refine run_pl [yy 0, nn 1, nn 2, nn 3, nn 4] ?_
 refine yF 8 31 3 1 1 ?_
 refine nS (kq 9 (.load 29 (.tmp 8))) rfl rfl trivial (val_loadOwnAgg (n := 2) (vs := [.int .u64 ka, .int .u64 kb]) hp.at_ (by kernel_rfl) (by kernel_rfl) rfl rfl rfl) ?_
 refine cS (kq 10 (.call { callee := .value (.func 20), args := #[(.tmp 9), (.const (.string ⟨#[115, 116, 117, 100, 121]⟩))], argTypes := #[29, 9] })) rfl rfl (ent Tryz.call20 rfl) (sipderive_ok (s := [115, 116, 117, 100, 121]) hF (by decide)) ?_
 rintro vw3 w3 ⟨rfl, hs⟩
 refine ⟨trivial, ?_⟩
 replace hF := hF.st hs
 replace hT := hT.t hs
 replace hb := hb.st hs (by first | decide | (simp <;> omega))
 replace hp := hp.t hs; replace hr := hr.t hs
 refine aS (kq 7 (.alloc 29)) rfl rfl (a_alloc (cs := [.int .u64 0, .int .u64 0]) hF 5 (by kernel_rfl)) ?_
 rintro _ w4 ⟨Cw4, bw4, rfl, hs, hz, hF⟩
 refine ⟨trivial, ?_⟩
 replace hT := hT.t hs
 replace hb := hb.st hs (by first | decide | (simp <;> omega))
 replace hp := hp.t hs; replace hr := hr.t hs
 refine aN (k0 (.store 29 (.tmp 7) (.tmp 10))) rfl (a_storeAll (vs := [.int .u64 (drvW ka kb [115, 116, 117, 100, 121]).1, .int .u64 (drvW ka kb [115, 116, 117, 100, 121]).2]) (n := 2) rfl rfl (by kernel_rfl) rfl rfl (by intro z hz; simp only [List.mem_cons, List.not_mem_nil, or_false] at hz; rcases hz with rfl | rfl <;> rfl) hz rfl) ?_
 rintro _ w5 ⟨rfl, hs, hz⟩
 refine ⟨trivial, ?_⟩
 replace hF := hF.st hs
 replace hT := hT.t hs
 replace hb := hb.st hs (by first | decide | (simp <;> omega))
 replace hp := hp.t hs; replace hr := hr.t hs
 refine Sch.nil ?_
 refine run_sq ?_
 refine run_draw (id := 2) (ops := F9.o2) [] (Cw4) [yy 0, yy 1, yy 2, yy 4, yy 5, yy 7, yy 8, yy 10, nn 3, nn 6, nn 9, nn 11, nn 12, nn 13, yy 14] Tryz_mixed (by kernel_rfl) (by kernel_rfl) (by kernel_rfl) ?_
 intro w6 hs
 replace hF := hF.st hs
 replace hT := hT.t hs
 replace hb := hb.st hs (by first | decide | (simp <;> omega))
 replace hp := hp.t hs; replace hr := hr.t hs; replace hz := hz.t hs
 have hR := Stp.refl [] w6 (Cw4)
 refine yS (kq 11 (.load 29 (.tmp 7))) rfl rfl (fun w' hS => val_loadOwnAgg (n := 2) (vs := [.int .u64 (drvW ka kb [115, 116, 117, 100, 121]).1, .int .u64 (drvW ka kb [115, 116, 117, 100, 121]).2]) (hz.stay hS (by decide)) (by kernel_rfl) (by kernel_rfl) rfl rfl rfl) ?_
 refine yF 12 31 3 0 0 ?_
 refine yS (kq 13 (.load 3 (.tmp 12))) rfl rfl (fun w' hS => val_loadOwn (hp.sy hS) (by kernel_rfl) rfl rfl) ?_
 refine yF 15 35 4 0 0 ?_
 refine yS (kq 16 (.load 3 (.tmp 15))) rfl rfl (fun w' hS => val_loadOwn (hr.sy hS) (by kernel_rfl) rfl rfl) ?_
 refine yF 18 35 4 1 1 ?_
 refine yS (kq 19 (.load 3 (.tmp 18))) rfl rfl (fun w' hS => val_loadOwn (hr.sy hS) (by kernel_rfl) rfl rfl) ?_
 refine yM 21 2 ?_
 refine cS (kq 14 (.call { callee := .value (.func 22), args := #[(.tmp 13)], argTypes := #[3] })) rfl rfl (ent Tryz.call22 rfl) (itoa_any hn hb) ?_
 rintro vw7 w7 ⟨rfl, hs⟩
 refine ⟨(hR.trans hs (by simp)).ext, ?_⟩
 replace hF := hF.st hs
 replace hT := hT.t hs
 replace hb := hb.st hs (by first | decide | (simp <;> omega))
 replace hp := hp.t hs; replace hr := hr.t hs; replace hz := hz.t hs; replace hR := hR.t hs
 refine cS (kq 17 (.call { callee := .value (.func 22), args := #[(.tmp 16)], argTypes := #[3] })) rfl rfl (ent Tryz.call22 rfl) (itoa_any hr0 hb) ?_
 rintro vw8 w8 ⟨rfl, hs⟩
 refine ⟨(hR.trans hs (by simp)).ext, ?_⟩
 replace hF := hF.st hs
 replace hT := hT.t hs
 replace hb := hb.st hs (by first | decide | (simp <;> omega))
 replace hp := hp.t hs; replace hr := hr.t hs; replace hz := hz.t hs; replace hR := hR.t hs
 refine cS (kq 20 (.call { callee := .value (.func 22), args := #[(.tmp 19)], argTypes := #[3] })) rfl rfl (ent Tryz.call22 rfl) (itoa_any hi0 hb) ?_
 rintro vw9 w9 ⟨rfl, hs⟩
 refine ⟨(hR.trans hs (by simp)).ext, ?_⟩
 replace hF := hF.st hs
 replace hT := hT.t hs
 replace hb := hb.st hs (by first | decide | (simp <;> omega))
 replace hp := hp.t hs; replace hr := hr.t hs; replace hz := hz.t hs; replace hR := hR.t hs
 refine cS (kq 22 (.call { callee := .value (.func 22), args := #[(.tmp 21)], argTypes := #[3] })) rfl rfl (ent Tryz.call22 rfl) (itoa_any ht0 hb) ?_
 rintro vw10 w10 ⟨rfl, hs⟩
 refine ⟨(hR.trans hs (by simp)).ext, ?_⟩
 replace hF := hF.st hs
 replace hT := hT.t hs
 replace hb := hb.st hs (by first | decide | (simp <;> omega))
 replace hp := hp.t hs; replace hr := hr.t hs; replace hz := hz.t hs; replace hR := hR.t hs
 refine aS (kq 23 (.buildSlice 84 4 #[(0, (.tmp 14)), (1, (.tmp 17)), (2, (.tmp 20)), (3, (.tmp 22))])) rfl rfl (a_buildSlice (ys := ([⟨Lib.decDigits num⟩, ⟨Lib.decDigits reg⟩, ⟨Lib.decDigits id⟩, ⟨Lib.decDigits turn⟩] : List Tx)) (e := 9) (bytes := 16) hF (by kernel_rfl) rfl (by decide) (by decide) ⟨rfl, ⟨_, rfl, rv_tx.2 ⟨rfl, by have := dec_len hn; show (Lib.decDigits num).length ≤ 9223372036854775807; omega⟩⟩, rfl, ⟨_, rfl, rv_tx.2 ⟨rfl, by have := dec_len hr0; show (Lib.decDigits reg).length ≤ 9223372036854775807; omega⟩⟩, rfl, ⟨_, rfl, rv_tx.2 ⟨rfl, by have := dec_len hi0; show (Lib.decDigits id).length ≤ 9223372036854775807; omega⟩⟩, rfl, ⟨_, rfl, rv_tx.2 ⟨rfl, by have := dec_len ht0; show (Lib.decDigits turn).length ≤ 9223372036854775807; omega⟩⟩, trivial⟩) ?_
 rintro v23 w11 ⟨hs, g23, hF⟩
 refine ⟨(hR.trans hs (by simp)).ext, ?_⟩
 replace hT := hT.t hs
 replace hb := hb.st hs (by first | decide | (simp <;> omega))
 replace hp := hp.t hs; replace hr := hr.t hs; replace hz := hz.t hs; replace hR := hR.t hs
 refine cS (kq 24 (.call { callee := .value (.func 21), args := #[(.tmp 11), (.tmp 23)], argTypes := #[29, 84] })) rfl rfl (ent Tryz.call21 rfl) (sipparts_ok hF g23 (by intro x hx; simp only [List.mem_cons, List.not_mem_nil, or_false] at hx; have h1 := dec_len hn; have h2 := dec_len hr0; have h3 := dec_len hi0; have h4 := dec_len ht0; rcases hx with rfl | rfl | rfl | rfl <;> (simp only; omega)) (by show 4 ≤ 100; decide)) ?_
 rintro vw12 w12 ⟨rfl, hs⟩
 refine ⟨(hR.trans hs (by simp)).ext, ?_⟩
 replace hF := hF.st hs
 replace hT := hT.t hs
 replace hb := hb.st hs (by first | decide | (simp <;> omega))
 replace hp := hp.t hs; replace hr := hr.t hs; replace hz := hz.t hs; replace hR := hR.t hs; replace g23 := g23.t hs
 refine yA 6 24 ?_
 refine Sch.nil ?_
 refine run_ret1 (by kernel_rfl) Tryz.func9 Tryz.results9 rfl ?_
 exact ⟨rfl, hT.out1 (by decide)⟩
end Go.Proofs.YtfkggfmibpigpaaGreatDoor
