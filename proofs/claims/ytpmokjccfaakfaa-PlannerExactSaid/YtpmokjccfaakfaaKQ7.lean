/- Steps through functions of the program. -/
import Derived.Test.YtpmokjccfaakfaaKQ6
set_option linter.unusedVariables false
set_option linter.unusedSimpArgs false
set_option maxRecDepth 100000
set_option maxHeartbeats 400000
namespace Go.Proofs.Ytpmokjccfaakfaa
open Go.K Go.K.Rep

namespace F36
noncomputable def c0 : Code := bodyOf Try.f36
noncomputable def c1 : Code := cl c0
noncomputable def o0 : Array Oper := rops c1
noncomputable def c2 : Code := cr c0
noncomputable def c3 : Code := cl c2
noncomputable def o1 : Array Oper := rops c3
noncomputable def c4 : Code := cr c2
noncomputable def c5 : Code := cl c4
noncomputable def o2 : Array Oper := rops c5
noncomputable def c6 : Code := cr c4
noncomputable def c7 : Code := cl c6
noncomputable def o3 : Array Oper := rops c7
noncomputable def c8 : Code := cr c6
noncomputable def c9 : Code := cl c8
noncomputable def o4 : Array Oper := rops c9
noncomputable def c10 : Code := cr c8
noncomputable def c11 : Code := cl c10
noncomputable def o5 : Array Oper := rops c11
noncomputable def c12 : Code := cr c10
end F36
/-- 'missed'. -/
theorem missedS_ok {w₀ : World} {C : Nat → Nat} {rs : List Int} {S : List Nat} {mask : Nat} {vs vr : Value} (hF : Lim w₀ C) (hS0 : RV w₀ (Mc C) (S.map fun n : Nat => (n : Int)) vs) (hr : RV w₀ (Mc C) rs vr) (hrs : RatesOK rs) (hrl : rs.length ≤ 10) (hS : ∀ x ∈ S, x < 1024) (hm : mask < 256) (hSl : S.length ≤ 8) :
    Calls Try.prog 36 #[vs, vr, .int .i64 (mask : Int)] w₀ (Ret fun v w' => v = .int .i64 (missS S rs mask) ∧ Stp [] w₀ C w' C) := by
  have hF0 := hF
  have hT := Stp.refl [2, 3, 4, 5, 6, 7, 8, 9] w₀ (col1 C)
  replace hF := hF.col1
  replace hS0 : RV w₀ (Mc (col1 C)) (S.map fun n : Nat => (n : Int)) vs := by rw [Mc_col1]; exact hS0
  replace hr : RV w₀ (Mc (col1 C)) rs vr := by rw [Mc_col1]; exact hr
  have hb0 : (0 : Int) + 1 * 64 ^ rs.length ≤ 1152921504606846976 := by
    have h1 : (64 : Nat) ^ rs.length ≤ 64 ^ 10 := Nat.pow_le_pow_right (by decide) hrl
    have h2 : ((64 : Int)) ^ rs.length = ((64 ^ rs.length : Nat) : Int) := by simp
    rw [h2]; omega
  refine calls_start (c := F36.c0) (N := 13) [vs, vr, .int .i64 (mask : Int)] Try.func36 (by kernel_rfl) (by kernel_rfl) (by kernel_rfl) ?_
  show Run _ _ _ _ [(0, vs), (1, vr), (2, .int .i64 (mask : Int))] _ _
  refine run_seq (x := F36.c1) (y := F36.c2) (by kernel_rfl) ?_
  refine run_plain (id := 0) (ops := F36.o0) [(0, false), (1, false), (2, false), (3, true)] (by kernel_rfl) (by kernel_rfl) ?_
  refine aS (by kernel_rfl : opAt F36.o0 0 = some (some 3, .box 22 (.tmp 0), none)) rfl rfl (a_box (cs := [vs]) hF 4 rfl (hS0.one rfl).1) ?_
  rintro _ w1 ⟨Cw1, bw1, rfl, hs, hb3, hF⟩
  refine ⟨trivial, ?_⟩
  replace hT := hT.trans hs (by simp)
  replace hS0 := hS0.st hs (by first | decide | (simp <;> omega))
  replace hr := hr.st hs (by first | decide | (simp <;> omega))
  refine aS (by kernel_rfl : opAt F36.o0 1 = some (some 4, .box 22 (.tmp 1), none)) rfl rfl (a_box (cs := [vr]) hF 5 rfl (hr.one rfl).1) ?_
  rintro _ w2 ⟨Cw2, bw2, rfl, hs, hb4, hF⟩
  refine ⟨trivial, ?_⟩
  replace hT := hT.trans hs (by simp)
  replace hS0 := hS0.st hs (by first | decide | (simp <;> omega))
  replace hr := hr.st hs (by first | decide | (simp <;> omega))
  replace hb3 := hb3.st hs (by first | decide | (simp <;> omega))
  refine aS (by kernel_rfl : opAt F36.o0 2 = some (some 5, .box 3 (.tmp 2), none)) rfl rfl (a_box (cs := [.int .i64 (mask : Int)]) hF 6 rfl rfl) ?_
  rintro _ w3 ⟨Cw3, bw3, rfl, hs, hb5, hF⟩
  refine ⟨trivial, ?_⟩
  replace hT := hT.trans hs (by simp)
  replace hS0 := hS0.st hs (by first | decide | (simp <;> omega))
  replace hr := hr.st hs (by first | decide | (simp <;> omega))
  replace hb3 := hb3.st hs (by first | decide | (simp <;> omega))
  replace hb4 := hb4.st hs (by first | decide | (simp <;> omega))
  refine yS (by kernel_rfl : opAt F36.o0 3 = some (some 6, .assign (.const (.int .i64 0)), none)) rfl rfl (fun w' hS => val_assign rfl) ?_
  refine Sch.nil ?_
  refine run_seq (x := F36.c3) (y := F36.c4) (by kernel_rfl) ?_
  refine run_plain (id := 1) (ops := F36.o1) [(0, false), (1, false)] (by kernel_rfl) (by kernel_rfl) ?_
  refine aS (by kernel_rfl : opAt F36.o1 0 = some (some 7, .alloc 3, none)) rfl rfl (a_alloc (cs := [.int .i64 0]) hF 3 (by kernel_rfl)) ?_
  rintro _ w4 ⟨Cw4, bw4, rfl, hs, hsum, hF⟩
  refine ⟨trivial, ?_⟩
  replace hT := hT.trans hs (by simp)
  replace hS0 := hS0.st hs (by first | decide | (simp <;> omega))
  replace hr := hr.st hs (by first | decide | (simp <;> omega))
  replace hb3 := hb3.st hs (by first | decide | (simp <;> omega))
  replace hb4 := hb4.st hs (by first | decide | (simp <;> omega))
  replace hb5 := hb5.st hs (by first | decide | (simp <;> omega))
  refine aN (by kernel_rfl : opAt F36.o1 1 = some (none, .store 3 (.tmp 7) (.const (.int .i64 0)), none)) rfl (a_store1 rfl rfl (by kernel_rfl) rfl rfl hsum (by simp)) ?_
  rintro _ w5 ⟨rfl, hs, hsum⟩
  refine ⟨trivial, ?_⟩
  replace hF := hF.st hs
  replace hT := hT.trans hs (by simp)
  replace hS0 := hS0.st hs (by first | decide | (simp <;> omega))
  replace hr := hr.st hs (by first | decide | (simp <;> omega))
  replace hb3 := hb3.st hs (by first | decide | (simp <;> omega))
  replace hb4 := hb4.st hs (by first | decide | (simp <;> omega))
  replace hb5 := hb5.st hs (by first | decide | (simp <;> omega))
  refine Sch.nil ?_
  refine run_seq (x := F36.c5) (y := F36.c6) (by kernel_rfl) ?_
  refine run_plain (id := 2) (ops := F36.o2) [(0, false)] (by kernel_rfl) (by kernel_rfl) ?_
  refine aS (by kernel_rfl : opAt F36.o2 0 = some (some 8, .alloc 72, none)) rfl rfl (a_alloc (cs := [.nilFunc]) hF 7 (by kernel_rfl)) ?_
  rintro _ w6 ⟨Cw6, bw6, rfl, hs, hw, hF⟩
  refine ⟨trivial, ?_⟩
  replace hT := hT.trans hs (by simp)
  replace hS0 := hS0.st hs (by first | decide | (simp <;> omega))
  replace hr := hr.st hs (by first | decide | (simp <;> omega))
  replace hb3 := hb3.st hs (by first | decide | (simp <;> omega))
  replace hb4 := hb4.st hs (by first | decide | (simp <;> omega))
  replace hb5 := hb5.st hs (by first | decide | (simp <;> omega))
  replace hsum := hsum.st hs (by first | decide | (simp <;> omega))
  refine Sch.nil ?_
  refine run_seq (x := F36.c7) (y := F36.c8) (by kernel_rfl) ?_
  refine run_plain (id := 3) (ops := F36.o3) [(0, true), (1, false)] (by kernel_rfl) (by kernel_rfl) ?_
  refine yS (by kernel_rfl : opAt F36.o3 0 = some (some 9, .makeFunc (.func 46) #[] #[(.tmp 4), (.tmp 8), (.tmp 3), (.tmp 5), (.tmp 7)], none)) rfl rfl (fun w' hS => val_makeFunc rfl rfl) ?_
  refine aN (by kernel_rfl : opAt F36.o3 1 = some (none, .store 72 (.tmp 8) (.tmp 9), none)) rfl (a_store1 rfl rfl (by kernel_rfl) rfl rfl hw (by simp)) ?_
  rintro _ w7 ⟨rfl, hs, hw⟩
  refine ⟨trivial, ?_⟩
  replace hF := hF.st hs
  replace hT := hT.trans hs (by simp)
  replace hS0 := hS0.st hs (by first | decide | (simp <;> omega))
  replace hr := hr.st hs (by first | decide | (simp <;> omega))
  replace hb3 := hb3.st hs (by first | decide | (simp <;> omega))
  replace hb4 := hb4.st hs (by first | decide | (simp <;> omega))
  replace hb5 := hb5.st hs (by first | decide | (simp <;> omega))
  replace hsum := hsum.st hs (by first | decide | (simp <;> omega))
  refine Sch.nil ?_
  have ha4 := hb4.ra (x := rs) (n := 4) (by decide) (hr.frz 4) rfl
  have ha3 := hb3.ra (x := S.map fun n : Nat => (n : Int)) (n := 4) (by decide) (hS0.frz 4) rfl
  have ha5 := hb5.ra (x := (mask : Int)) (n := 4) (by decide) (rv_int.2 rfl) rfl
  have haw := hw.ra (x := (⟨.func (.func 46) #[] #[.pointer (some ⟨bw2, 0, none⟩), .pointer (some ⟨bw6, 0, none⟩), .pointer (some ⟨bw1, 0, none⟩), .pointer (some ⟨bw3, 0, none⟩), .pointer (some ⟨bw4, 0, none⟩)], rfl⟩ : Fv)) (n := 4) (by decide) (rv_fv.2 rfl) rfl
  replace hsum := hsum.frz (n := 4) (by decide)
  replace hF := hF.frz 4
  replace hT := hT.frz (n := 4) (fun b => Nat.lt_of_lt_of_le (col1_lt2 C b) (by decide))
  clear hb4 hb3 hb5 hw hr hS0
  refine run_seq (x := F36.c9) (y := F36.c10) (by kernel_rfl) ?_
  refine run_plain (id := 4) (ops := F36.o4) [(0, false), (1, false)] (by kernel_rfl) (by kernel_rfl) ?_
  refine lN (by kernel_rfl : opAt F36.o4 0 = some (some 10, .load 72 (.tmp 8), none)) rfl rfl trivial haw (by kernel_rfl) rfl rfl ?_
  intro v10 g10
  obtain rfl := rv_fv.1 g10
  refine cS (by kernel_rfl : opAt F36.o4 1 = some (some 11, .call { callee := .value (.tmp 10), args := #[(.const (.int .i64 0)), (.const (.int .i64 0)), (.const (.int .i64 1))], argTypes := #[3, 3, 3] }, none)) rfl rfl (enters_func (cap := #[.pointer (some ⟨bw2, 0, none⟩), .pointer (some ⟨bw6, 0, none⟩), .pointer (some ⟨bw1, 0, none⟩), .pointer (some ⟨bw3, 0, none⟩), .pointer (some ⟨bw4, 0, none⟩)]) (fun args w => Try.call46 args w) rfl rfl) (walk_ok hrs hrl hS hm hSl rs.length 0 0 1 0 _ _ _ (by omega) (by decide) (by decide) (by decide) hb0 (by decide) hF ha4 haw ha3 ha5 hsum) ?_
  rintro vw8 w8 ⟨rfl, hs, hsum⟩
  refine ⟨trivial, ?_⟩
  replace hF := hF.st hs
  replace hT := hT.trans hs (by simp)
  replace ha3 := ha3.st hs (by first | decide | (simp <;> omega))
  replace ha4 := ha4.st hs (by first | decide | (simp <;> omega))
  replace ha5 := ha5.st hs (by first | decide | (simp <;> omega))
  replace haw := haw.st hs (by first | decide | (simp <;> omega))
  replace g10 := g10.st hs (by first | decide | (simp <;> omega))
  refine Sch.nil ?_
  refine run_seq (x := F36.c11) (y := F36.c12) (by kernel_rfl) ?_
  refine run_plain (id := 5) (ops := F36.o5) [(0, false), (1, true)] (by kernel_rfl) (by kernel_rfl) ?_
  refine nS (by kernel_rfl : opAt F36.o5 0 = some (some 12, .load 3 (.tmp 7), none)) rfl rfl trivial (val_loadOwn hsum.at_ (by kernel_rfl) rfl rfl) ?_
  refine yS (by kernel_rfl : opAt F36.o5 1 = some (some 6, .assign (.tmp 12), none)) rfl rfl (fun w' hS => val_assign rfl) ?_
  refine Sch.nil ?_
  refine run_ret1 (by kernel_rfl) Try.func36 Try.results36 rfl ?_
  exact ⟨eq_int (by rw [Int.zero_add, List.drop_zero]; rfl), hT.out1 (by decide)⟩
end Go.Proofs.Ytpmokjccfaakfaa

