/- Steps through functions of the program. -/
import Derived.Test.YtdmgmlmlielfbaaGreatJF1
import Derived.Test.YtdmgmlmlielfbaaGreatL2
set_option linter.unusedVariables false
set_option linter.unusedSimpArgs false
set_option maxRecDepth 100000
set_option maxHeartbeats 4000000
namespace Go.Proofs.YtdmgmlmlielfbaaGreat
open Go.K Go.K.Rep
noncomputable section
namespace F120
def c0 := bodyOf Tryz.f120
end F120
theorem values1_ok {xs : List Couple} {px : Value} {b1 l : Nat} {J : List Couple → World → Prop} {w₀ : World} (hJa : ∀ pre A B, J pre A → Ext No A B → J pre B)
    (hr : ∀ pre A, J pre A → Low A C0 b1 (.cells [px].toArray 53) ∧ RV A (Mc C0) xs px)
    (hY : ∀ k (hk : k < xs.length) A, J (xs.take k) A → YieldAt Fence.wide 0 Tryz.prog l #[kvC xs[k]] A (fun e W' => e = .returned (.bool true) ∧ J (xs.take (k + 1)) W')) (h0 : J [] w₀) : Calls Tryz.prog 120 #[.func (.yield l) #[] #[], .pointer (some ⟨b1, 0, none⟩)] w₀ (Ret fun _ w' => J xs w') := by
 obtain ⟨h1, hp⟩ := hr _ _ h0
 have hF : Lim w₀ C0 := lim00 _
 refine c_st F120.c0 16 [.func (.yield l) #[] #[], .pointer (some ⟨b1, 0, none⟩)] Tryz.func120 ?_
 show Run _ _ _ _ [(0, .func (.yield l) #[] #[]), (1, .pointer (some ⟨b1, 0, none⟩))] _ _
 refine run_sq (run_pl [nn 0, yy 1, yy 2] ?_)
 refine nO 5 53 1 h1.at_ rfl rfl ?_
 refine yS (kq 6 (.call { callee := .builtin .len, args := #[(.tmp 5)], argTypes := #[53] })) rfl rfl (fun w' hS => hp.lenV rfl Tryz.underlying53 w' ) ?_
 refine yC 7 (.int .i64 0) ?_
 refine Sch.nil (run_bk 0 ?_)
 refine run_lp (ι := Nat) (I := fun x w => x ≤ xs.length ∧ J (xs.take x) w) (e := fun x => [(0, .func (.yield l) #[] #[]), (1, .pointer (some ⟨b1, 0, none⟩)), (5, px), (6, .int .i64 xs.length), (7, .int .i64 (x : Int))]) (m := fun x => xs.length - x) (x₀ := 0) (sr 0 (sr 1 (sr 5 (sub_cons 6 rfl (eq_int (by simp)) (sr 7 (sub_nil _)))))) ?_ ?_
 · exact ⟨Nat.zero_le _, (by rw [List.take_zero]; exact h0)⟩
 intro k w1 hI next1
 obtain ⟨hk, hJ⟩ := hI
 obtain ⟨h1, hp⟩ := hr _ _ hJ
 have hle := hp.le
 have hF : Lim w1 C0 := lim00 w1
 have hT := Stp.refl [3] w1 C0
 refine run_sq (run_pl [yy 0] ?_)
 refine yL 8 3 7 6 ?_
 refine Sch.nil (run_sq ?_)
 refine run_i 8 rfl (fun h8 => ?_) (fun h8 => ?_)
 ·
  have hkl : k < xs.length := by omega
  refine run_sk (run_sq (run_bk 1 (run_sq (run_pl [yy 0, nn 1, nn 2, nn 3] ?_))))
  refine iR 47 9 53 5 7 hp rfl (h := ?_)
  intro b9 o9 h9
  try simp only [Int.toNat_natCast] at h9
  refine lNA (kq 10 (.load 47 (.tmp 9))) rfl rfl trivial h9 (by kernel_rfl) (by kernel_rfl) rfl rfl ?_
  intro v10 g10
  obtain rfl := rv_couple.1 g10
  refine aT (kq 4 (.alloc 47)) rfl rfl (a_alloc (cs := [.int .i64 0, .int .i64 0]) hF 3 (by kernel_rfl)) ?_
  rintro _ w2 ⟨Cw2, bw2, rfl, s_1, hb, hF⟩
  refine aU (k0 (.store 47 (.tmp 4) (.tmp 10))) rfl (a_storeAll (vs := encR (xs[k]'hkl)) (n := 2) rfl rfl (by kernel_rfl) rfl rfl (by intro u hu; simp only [encR, List.mem_cons, List.not_mem_nil, or_false] at hu; rcases hu with rfl | rfl <;> rfl) hb rfl) ?_
  rintro _ w3 ⟨rfl, s_2, hb⟩
  refine Sch.nil (run_sq ?_)
  replace hT := (hT.t s_1).t s_2
  replace hJ := hJa _ _ _ hJ (hT.ext.mono (fun b _ hb => by simp at hb))
  refine run_plW 1 ?_
  refine wi_val (fun _ => trivial) (by kernel_rfl : opAt _ 0 = some (some 11, .move (.tmp 0), none)) (fun c e => by cases e) rfl (val_move rfl) ?_
  refine wi_val (fun _ => trivial) (by kernel_rfl : opAt _ 1 = some (some 12, .load 47 (.tmp 4), none)) (fun c e => by cases e) rfl (val_loadOwnAgg (n := 2) (vs := encR (xs[k]'hkl)) hb.at_ (by kernel_rfl) (by kernel_rfl) rfl rfl rfl) ?_
  refine wi_yield (fun _ => trivial) rfl (by kernel_rfl : opAt _ 2 = some (some 13, .call { callee := .value (.tmp 11), args := #[.tmp 12], argTypes := #[47] }, none)) rfl rfl rfl (hY k hkl _ hJ) ?_
  rintro _ w9 ⟨rfl, hJ9⟩
  refine ⟨_, rfl, ?_⟩
  refine wi_val (fun _ => trivial) (by kernel_rfl : opAt _ 3 = some (some 14, .unOp .not 4 (.tmp 13), none)) (fun c e => by cases e) rfl (val_not rfl) ?_
  refine wi_end ?_
  refine run_cF 14 (run_sk (run_inBlock (run_pl [yy 0, yy 1] ?_)))
  refine yI 15 3 7 1 ?_
  refine yM 7 15 ?_
  refine Sch.nil ?_
  refine kp (sr 0 (sr 1 (sr 5 (sr 6 (sub_cons 7 rfl (eq_int (by simp)) (sub_nil _)))))) (next1 (k + 1) _ ⟨by omega, hJ9⟩ (by omega))
 have hkl : k = xs.length := by omega
 refine run_ex 0 ?_
 refine run_end0 Tryz.func120 rfl ?_
 rw [hkl, List.take_length] at hJ
 exact hJ
end
end Go.Proofs.YtdmgmlmlielfbaaGreat
