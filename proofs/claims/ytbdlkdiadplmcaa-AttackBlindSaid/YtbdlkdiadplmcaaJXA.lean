/- Steps through functions of the program. -/
import Derived.Test.YtbdlkdiadplmcaaJX9
set_option linter.unusedVariables false
set_option linter.unusedSimpArgs false
set_option maxRecDepth 100000
set_option maxHeartbeats 4000000
namespace Go.Proofs.Ytbdlkdiadplmcaa
open Go.K Go.K.Rep

def awX : Bits := ⟨64, [⟨1⟩]⟩
def awY : Bits := ⟨64, [⟨2⟩]⟩
def sAnn : ByteArray := ⟨#[97, 110, 110]⟩
def sBob : ByteArray := ⟨#[98, 111, 98]⟩
def awD : List Ent := [⟨sAnn, 9⟩, ⟨sBob, 4⟩]
def awG : List Grp := [⟨awX, [0, 2]⟩, ⟨awY, [1]⟩]
def awA : List Gss := [⟨0, sAnn⟩, ⟨1, sBob⟩]
theorem aw_g : grpsOf [awX, awY, awX] [awX, awY, awX].length = awG := by kernel_rfl
theorem aw_a : alignS (sizesS awG) awD = awA := by kernel_rfl
theorem aw_al : alwaysS [awX, awY] = 0 := by kernel_rfl
theorem aw_h : hitsS awG [sAnn, sBob, sAnn] awA = 3 := by kernel_rfl
theorem aw_s : sngS (sizesS awG) (sizesS awG).length = 3 := by kernel_rfl
theorem aw_d : DictOK awD := ⟨by decide, fun i h => by
  match i, h with
  | 0, _ => show strLt sAnn sBob = true; kernel_rfl
  | i + 1, h => exact absurd h (by show ¬ (i + 1 + 1 < 2); omega), fun x hx => by
  simp only [awD, List.mem_cons, List.not_mem_nil, or_false] at hx
  rcases hx with rfl | rfl <;> decide⟩
theorem aw_hm : ∀ g ∈ awG, g.mem.length ≤ 1000 ∧ ∀ m ∈ g.mem, 0 ≤ m ∧ m < 3 := fun g hg => by
  simp only [awG, List.mem_cons, List.not_mem_nil, or_false] at hg
  rcases hg with rfl | rfl <;> decide
theorem aw_ha : ∀ g ∈ awA, 0 ≤ g.grp ∧ g.grp < 2 := fun g hg => by
  simp only [awA, List.mem_cons, List.not_mem_nil, or_false] at hg
  rcases hg with rfl | rfl <;> decide

namespace F7
noncomputable def c0 : Code := bodyOf Try.f7
noncomputable def c1 : Code := cl c0
noncomputable def o0 : Array Oper := rops c1
noncomputable def c2 : Code := cr c0
noncomputable def c3 : Code := cl c2
noncomputable def o1 : Array Oper := rops c3
noncomputable def c4 : Code := cr c2
noncomputable def c5 : Code := cl c4
noncomputable def o2 : Array Oper := rops c5
noncomputable def c6 : Code := cr c4
noncomputable def c7 : Code := cl c6
noncomputable def o3 : Array Oper := rops c7
noncomputable def c8 : Code := cr c6
noncomputable def c9 : Code := cl c8
noncomputable def o4 : Array Oper := rops c9
noncomputable def c10 : Code := cr c8
noncomputable def c11 : Code := cl c10
noncomputable def o5 : Array Oper := rops c11
noncomputable def c12 : Code := cr c10
end F7
/-- The sanity check. -/
theorem awake_ok {w₀ : World} {C : Nat → Nat} (hF : Lim w₀ C) : Calls Try.prog 7 #[] w₀ (Ret fun v w' => v = .bool true ∧ Stp [] w₀ C w' C) := by
  have hF0 := hF
  have hT := Stp.refl [2, 3, 4, 5, 6, 7, 8, 9] w₀ (col1 C)
  replace hF := hF.col1
  refine calls_start (c := F7.c0) (N := 64) [] Try.func7 (by kernel_rfl) (by kernel_rfl) (by kernel_rfl) ?_
  show Run _ _ _ _ [] _ _
  refine run_seq (x := F7.c1) (y := F7.c2) (by kernel_rfl) ?_
  refine run_plain (id := 0) (ops := F7.o0) [(0, true)] (by kernel_rfl) (by kernel_rfl) ?_
  refine yS (by kernel_rfl : opAt F7.o0 0 = some (some 0, .assign (.const (.bool false)), none)) rfl rfl (fun w' hS => val_assign rfl) ?_
  refine Sch.nil ?_
  refine run_seq (x := F7.c3) (y := F7.c4) (by kernel_rfl) ?_
  refine run_plain (id := 1) (ops := F7.o1) [(0, false), (1, true), (2, false), (3, true), (4, false), (5, false), (6, false), (7, false)] (by kernel_rfl) (by kernel_rfl) ?_
  refine aS (by kernel_rfl : opAt F7.o1 0 = some (some 8, .buildSlice 31 1 #[(0, (.const (.int .u64 1)))], none)) rfl rfl (a_buildSlice (ys := (awX.words : List U64)) (e := 59) (bytes := 8) hF (by kernel_rfl) rfl (by decide) (by decide) ⟨rfl, ⟨_, rfl, rv_num.2 rfl⟩, trivial⟩) ?_
  rintro v8 w1 ⟨hs, hwx, hF⟩
  refine ⟨trivial, ?_⟩
  replace hT := hT.trans hs (by simp)
  refine yS (by kernel_rfl : opAt F7.o1 1 = some (some 9, .build 33 #[(0, (.const (.int .i64 64))), (1, (.tmp 8))], none)) rfl rfl (fun w' hS => val_build (zs := [.int .i64 0, .slice none 0 0]) (ps := [(0, 1), (1, 1)]) (qs := [(0, [.int .i64 awX.len]), (1, [v8])]) (cs := [.int .i64 awX.len, v8]) (by kernel_rfl) (by kernel_rfl) (by exact ⟨rfl, ⟨_, rfl, rfl⟩, rfl, ⟨_, rfl, (hwx.one rfl).1⟩, trivial⟩) rfl) ?_
  refine aS (by kernel_rfl : opAt F7.o1 2 = some (some 10, .buildSlice 31 1 #[(0, (.const (.int .u64 2)))], none)) rfl rfl (a_buildSlice (ys := (awY.words : List U64)) (e := 59) (bytes := 8) hF (by kernel_rfl) rfl (by decide) (by decide) ⟨rfl, ⟨_, rfl, rv_num.2 rfl⟩, trivial⟩) ?_
  rintro v10 w2 ⟨hs, hwy, hF⟩
  refine ⟨trivial, ?_⟩
  replace hT := hT.trans hs (by simp)
  replace hwx := hwx.st hs (by first | decide | (simp <;> omega))
  refine yS (by kernel_rfl : opAt F7.o1 3 = some (some 11, .build 33 #[(0, (.const (.int .i64 64))), (1, (.tmp 10))], none)) rfl rfl (fun w' hS => val_build (zs := [.int .i64 0, .slice none 0 0]) (ps := [(0, 1), (1, 1)]) (qs := [(0, [.int .i64 awY.len]), (1, [v10])]) (cs := [.int .i64 awY.len, v10]) (by kernel_rfl) (by kernel_rfl) (by exact ⟨rfl, ⟨_, rfl, rfl⟩, rfl, ⟨_, rfl, (hwy.one rfl).1⟩, trivial⟩) rfl) ?_
  refine aS (by kernel_rfl : opAt F7.o1 4 = some (some 1, .alloc 33, none)) rfl rfl (a_alloc (cs := [.int .i64 0, .slice none 0 0]) hF 3 (by kernel_rfl)) ?_
  rintro _ w3 ⟨Cw3, bw3, rfl, hs, hA, hF⟩
  refine ⟨trivial, ?_⟩
  replace hT := hT.trans hs (by simp)
  replace hwx := hwx.st hs (by first | decide | (simp <;> omega))
  replace hwy := hwy.st hs (by first | decide | (simp <;> omega))
  refine aS (by kernel_rfl : opAt F7.o1 5 = some (some 2, .alloc 33, none)) rfl rfl (a_alloc (cs := [.int .i64 0, .slice none 0 0]) hF 4 (by kernel_rfl)) ?_
  rintro _ w4 ⟨Cw4, bw4, rfl, hs, hB, hF⟩
  refine ⟨trivial, ?_⟩
  replace hT := hT.trans hs (by simp)
  replace hwx := hwx.st hs (by first | decide | (simp <;> omega))
  replace hwy := hwy.st hs (by first | decide | (simp <;> omega))
  replace hA := hA.st hs (by first | decide | (simp <;> omega))
  refine aN (by kernel_rfl : opAt F7.o1 6 = some (none, .store 33 (.tmp 1) (.tmp 9), none)) rfl (a_storeAll (vs := [.int .i64 awX.len, v8]) (n := 2) rfl rfl (by kernel_rfl) rfl rfl (by intro z hz; simp only [List.mem_cons, List.not_mem_nil, or_false] at hz; rcases hz with rfl | rfl <;> first | rfl | exact (hwx.one rfl).2) hA rfl) ?_
  rintro _ w5 ⟨rfl, hs, hA⟩
  refine ⟨trivial, ?_⟩
  replace hF := hF.st hs
  replace hT := hT.trans hs (by simp)
  replace hwx := hwx.st hs (by first | decide | (simp <;> omega))
  replace hwy := hwy.st hs (by first | decide | (simp <;> omega))
  replace hB := hB.st hs (by first | decide | (simp <;> omega))
  refine aN (by kernel_rfl : opAt F7.o1 7 = some (none, .store 33 (.tmp 2) (.tmp 11), none)) rfl (a_storeAll (vs := [.int .i64 awY.len, v10]) (n := 2) rfl rfl (by kernel_rfl) rfl rfl (by intro z hz; simp only [List.mem_cons, List.not_mem_nil, or_false] at hz; rcases hz with rfl | rfl <;> first | rfl | exact (hwy.one rfl).2) hB rfl) ?_
  rintro _ w6 ⟨rfl, hs, hB⟩
  refine ⟨trivial, ?_⟩
  replace hF := hF.st hs
  replace hT := hT.trans hs (by simp)
  replace hwx := hwx.st hs (by first | decide | (simp <;> omega))
  replace hwy := hwy.st hs (by first | decide | (simp <;> omega))
  replace hA := hA.st hs (by first | decide | (simp <;> omega))
  refine Sch.nil ?_
  refine run_seq (x := F7.c5) (y := F7.c6) (by kernel_rfl) ?_
  refine run_plain (id := 2) (ops := F7.o2) [(0, false), (1, false), (2, false), (3, false), (4, false), (5, true)] (by kernel_rfl) (by kernel_rfl) ?_
  refine nS (by kernel_rfl : opAt F7.o2 0 = some (some 12, .load 33 (.tmp 1), none)) rfl rfl trivial (val_loadOwnAgg (n := 2) (vs := [.int .i64 awX.len, v8]) hA.at_ (by kernel_rfl) (by kernel_rfl) rfl rfl rfl) ?_
  refine nS (by kernel_rfl : opAt F7.o2 1 = some (some 13, .load 33 (.tmp 2), none)) rfl rfl trivial (val_loadOwnAgg (n := 2) (vs := [.int .i64 awY.len, v10]) hB.at_ (by kernel_rfl) (by kernel_rfl) rfl rfl rfl) ?_
  refine nS (by kernel_rfl : opAt F7.o2 2 = some (some 14, .load 33 (.tmp 1), none)) rfl rfl trivial (val_loadOwnAgg (n := 2) (vs := [.int .i64 awX.len, v8]) hA.at_ (by kernel_rfl) (by kernel_rfl) rfl rfl rfl) ?_
  refine aS (by kernel_rfl : opAt F7.o2 3 = some (some 15, .buildSlice 27 3 #[(0, (.tmp 12)), (1, (.tmp 13)), (2, (.tmp 14))], none)) rfl rfl (a_buildSlice (ys := ([awX, awY, awX] : List Bits)) (e := 33) (bytes := 32) hF (by kernel_rfl) rfl (by decide) (by decide) ⟨rfl, ⟨_, rfl, rv_bits.2 ⟨v8, rfl, hwx⟩⟩, rfl, ⟨_, rfl, rv_bits.2 ⟨v10, rfl, hwy⟩⟩, rfl, ⟨_, rfl, rv_bits.2 ⟨v8, rfl, hwx⟩⟩, trivial⟩) ?_
  rintro v15 w7 ⟨hs, hcl, hF⟩
  refine ⟨trivial, ?_⟩
  replace hT := hT.trans hs (by simp)
  replace hwx := hwx.st hs (by first | decide | (simp <;> omega))
  replace hwy := hwy.st hs (by first | decide | (simp <;> omega))
  replace hA := hA.st hs (by first | decide | (simp <;> omega))
  replace hB := hB.st hs (by first | decide | (simp <;> omega))
  refine cS (by kernel_rfl : opAt F7.o2 4 = some (some 16, .call { callee := .value (.func 11), args := #[(.tmp 15)], argTypes := #[27] }, none)) rfl rfl (ent Try.call11 rfl) (groups_ok hF hcl (by decide)) ?_
  rintro vw8 w8 ⟨hs, hg⟩
  refine ⟨trivial, ?_⟩
  replace hF := hF.st hs
  replace hT := hT.trans hs (by simp)
  replace hwx := hwx.st hs (by first | decide | (simp <;> omega))
  replace hwy := hwy.st hs (by first | decide | (simp <;> omega))
  replace hA := hA.st hs (by first | decide | (simp <;> omega))
  replace hB := hB.st hs (by first | decide | (simp <;> omega))
  replace hcl := hcl.st hs (by first | decide | (simp <;> omega))
  rw [aw_g] at hg
  have hgl : awG.length = 2 := rfl
  refine yS (by kernel_rfl : opAt F7.o2 5 = some (some 3, .assign (.tmp 16), none)) rfl rfl (fun w' hS => val_assign rfl) ?_
  refine Sch.nil ?_
  refine run_seq (x := F7.c7) (y := F7.c8) (by kernel_rfl) ?_
  refine run_plain (id := 3) (ops := F7.o3) [(0, true), (1, true), (2, true), (3, false), (4, false), (5, true), (6, true), (7, true), (8, true), (9, true)] (by kernel_rfl) (by kernel_rfl) ?_
  refine yS (by kernel_rfl : opAt F7.o3 0 = some (some 18, .move (.tmp 3), none)) rfl rfl (fun w' hS => val_move rfl) ?_
  refine yS (by kernel_rfl : opAt F7.o3 1 = some (some 19, .build 61 #[(0, (.const (.string ⟨#[97, 110, 110]⟩))), (1, (.const (.int .i64 9)))], none)) rfl rfl (fun w' hS => val_build (zs := [.string ⟨#[]⟩, .int .i64 0]) (ps := [(0, 1), (1, 1)]) (qs := [(0, [.string sAnn]), (1, [.int .i64 9])]) (cs := [.string sAnn, .int .i64 9]) (by kernel_rfl) (by kernel_rfl) (by exact ⟨rfl, ⟨_, rfl, rfl⟩, rfl, ⟨_, rfl, rfl⟩, trivial⟩) rfl) ?_
  refine yS (by kernel_rfl : opAt F7.o3 2 = some (some 20, .build 61 #[(0, (.const (.string ⟨#[98, 111, 98]⟩))), (1, (.const (.int .i64 4)))], none)) rfl rfl (fun w' hS => val_build (zs := [.string ⟨#[]⟩, .int .i64 0]) (ps := [(0, 1), (1, 1)]) (qs := [(0, [.string sBob]), (1, [.int .i64 4])]) (cs := [.string sBob, .int .i64 4]) (by kernel_rfl) (by kernel_rfl) (by exact ⟨rfl, ⟨_, rfl, rfl⟩, rfl, ⟨_, rfl, rfl⟩, trivial⟩) rfl) ?_
  refine aS (by kernel_rfl : opAt F7.o3 3 = some (some 21, .buildSlice 43 2 #[(0, (.tmp 19)), (1, (.tmp 20))], none)) rfl rfl (a_buildSlice (ys := awD) (e := 61) (bytes := 24) hF (by kernel_rfl) rfl (by decide) (by decide) ⟨rfl, ⟨_, rfl, rv_ent.2 ⟨rfl, by decide⟩⟩, rfl, ⟨_, rfl, rv_ent.2 ⟨rfl, by decide⟩⟩, trivial⟩) ?_
  rintro v21 w9 ⟨hs, hD, hF⟩
  refine ⟨trivial, ?_⟩
  replace hT := hT.trans hs (by simp)
  replace hwx := hwx.st hs (by first | decide | (simp <;> omega))
  replace hwy := hwy.st hs (by first | decide | (simp <;> omega))
  replace hA := hA.st hs (by first | decide | (simp <;> omega))
  replace hB := hB.st hs (by first | decide | (simp <;> omega))
  replace hcl := hcl.st hs (by first | decide | (simp <;> omega))
  replace hg := hg.st hs (by first | decide | (simp <;> omega))
  refine cS (by kernel_rfl : opAt F7.o3 4 = some (some 22, .call { callee := .value (.func 18), args := #[(.tmp 18), (.tmp 21)], argTypes := #[29, 43] }, none)) rfl rfl (ent Try.call18 rfl) (align_ok hF hg hD aw_d (by decide)) ?_
  rintro vw10 w10 ⟨ua, rfl, hs, ha⟩
  refine ⟨trivial, ?_⟩
  replace hF := hF.st hs
  replace hT := hT.trans hs (by simp)
  replace hwx := hwx.st hs (by first | decide | (simp <;> omega))
  replace hwy := hwy.st hs (by first | decide | (simp <;> omega))
  replace hA := hA.st hs (by first | decide | (simp <;> omega))
  replace hB := hB.st hs (by first | decide | (simp <;> omega))
  replace hcl := hcl.st hs (by first | decide | (simp <;> omega))
  replace hg := hg.st hs (by first | decide | (simp <;> omega))
  replace hD := hD.st hs (by first | decide | (simp <;> omega))
  rw [aw_a] at ha
  have hal : awA.length = 2 := rfl
  refine yS (by kernel_rfl : opAt F7.o3 5 = some (some 17, .move (.tmp 22), none)) rfl rfl (fun w' hS => val_move rfl) ?_
  refine yS (by kernel_rfl : opAt F7.o3 6 = some (some 23, .extract (.tmp 17) 0, none)) rfl rfl (fun w' hS => val_extract rfl rfl) ?_
  refine yS (by kernel_rfl : opAt F7.o3 7 = some (some 24, .extract (.tmp 17) 1, none)) rfl rfl (fun w' hS => val_extract rfl rfl) ?_
  refine yS (by kernel_rfl : opAt F7.o3 8 = some (some 4, .assign (.tmp 23), none)) rfl rfl (fun w' hS => val_assign rfl) ?_
  refine yS (by kernel_rfl : opAt F7.o3 9 = some (some 5, .assign (.tmp 24), none)) rfl rfl (fun w' hS => val_assign rfl) ?_
  refine Sch.nil ?_
  refine run_seq (x := F7.c9) (y := F7.c10) (by kernel_rfl) ?_
  refine run_plain (id := 4) (ops := F7.o4) [(0, true), (1, true), (2, false), (3, false), (4, true), (5, true), (6, true), (7, true), (8, true)] (by kernel_rfl) (by kernel_rfl) ?_
  refine yS (by kernel_rfl : opAt F7.o4 0 = some (some 26, .move (.tmp 3), none)) rfl rfl (fun w' hS => val_move rfl) ?_
  refine yS (by kernel_rfl : opAt F7.o4 1 = some (some 27, .move (.tmp 4), none)) rfl rfl (fun w' hS => val_move rfl) ?_
  refine aS (by kernel_rfl : opAt F7.o4 2 = some (some 28, .buildSlice 51 3 #[(0, (.const (.string ⟨#[97, 110, 110]⟩))), (1, (.const (.string ⟨#[98, 111, 98]⟩))), (2, (.const (.string ⟨#[97, 110, 110]⟩)))], none)) rfl rfl (a_buildSlice (ys := ([sAnn, sBob, sAnn] : List ByteArray)) (e := 9) (bytes := 16) hF (by kernel_rfl) rfl (by decide) (by decide) ⟨rfl, ⟨_, rfl, rv_str.2 ⟨rfl, by decide⟩⟩, rfl, ⟨_, rfl, rv_str.2 ⟨rfl, by decide⟩⟩, rfl, ⟨_, rfl, rv_str.2 ⟨rfl, by decide⟩⟩, trivial⟩) ?_
  rintro v28 w11 ⟨hs, hN, hF⟩
  refine ⟨trivial, ?_⟩
  replace hT := hT.trans hs (by simp)
  replace hwx := hwx.st hs (by first | decide | (simp <;> omega))
  replace hwy := hwy.st hs (by first | decide | (simp <;> omega))
  replace hA := hA.st hs (by first | decide | (simp <;> omega))
  replace hB := hB.st hs (by first | decide | (simp <;> omega))
  replace hcl := hcl.st hs (by first | decide | (simp <;> omega))
  replace hg := hg.st hs (by first | decide | (simp <;> omega))
  replace hD := hD.st hs (by first | decide | (simp <;> omega))
  replace ha := ha.st hs (by first | decide | (simp <;> omega))
  refine cS (by kernel_rfl : opAt F7.o4 3 = some (some 29, .call { callee := .value (.func 24), args := #[(.tmp 26), (.tmp 27), (.tmp 28)], argTypes := #[29, 45, 51] }, none)) rfl rfl (ent Try.call24 rfl) (hits_ok hF hg ha hN (by decide) aw_ha (fun g hg => (aw_hm g hg).1) (fun g hg m hm => (aw_hm g hg).2 m hm)) ?_
  rintro vw12 w12 ⟨rfl, hs⟩
  refine ⟨trivial, ?_⟩
  replace hF := hF.st hs
  replace hT := hT.trans hs (by simp)
  replace hwx := hwx.st hs (by first | decide | (simp <;> omega))
  replace hwy := hwy.st hs (by first | decide | (simp <;> omega))
  replace hA := hA.st hs (by first | decide | (simp <;> omega))
  replace hB := hB.st hs (by first | decide | (simp <;> omega))
  replace hcl := hcl.st hs (by first | decide | (simp <;> omega))
  replace hg := hg.st hs (by first | decide | (simp <;> omega))
  replace hD := hD.st hs (by first | decide | (simp <;> omega))
  replace ha := ha.st hs (by first | decide | (simp <;> omega))
  replace hN := hN.st hs (by first | decide | (simp <;> omega))
  rw [aw_h]
  refine yS (by kernel_rfl : opAt F7.o4 4 = some (some 25, .move (.tmp 29), none)) rfl rfl (fun w' hS => val_move rfl) ?_
  refine yS (by kernel_rfl : opAt F7.o4 5 = some (some 30, .extract (.tmp 25) 0, none)) rfl rfl (fun w' hS => val_extract rfl rfl) ?_
  refine yS (by kernel_rfl : opAt F7.o4 6 = some (some 31, .extract (.tmp 25) 1, none)) rfl rfl (fun w' hS => val_extract rfl rfl) ?_
  refine yS (by kernel_rfl : opAt F7.o4 7 = some (some 6, .assign (.tmp 30), none)) rfl rfl (fun w' hS => val_assign rfl) ?_
  refine yS (by kernel_rfl : opAt F7.o4 8 = some (some 7, .assign (.tmp 31), none)) rfl rfl (fun w' hS => val_assign rfl) ?_
  refine Sch.nil ?_
  refine run_seq (x := F7.c11) (y := F7.c12) (by kernel_rfl) ?_
  refine run_plain (id := 5) (ops := F7.o5) [(0, true), (1, true), (2, true), (3, true), (4, true), (5, true), (6, true), (7, true), (8, true), (9, true), (10, true), (11, true), (12, true), (13, true), (14, true), (15, true), (16, true), (17, true), (18, true), (19, true), (20, true), (21, true), (22, false), (23, true), (24, true), (25, true), (26, false), (27, false), (28, false), (29, false), (30, true), (31, true), (32, true)] (by kernel_rfl) (by kernel_rfl) ?_
  have hA0 := hA
  have hB0 := hB
  refine yS (by kernel_rfl : opAt F7.o5 0 = some (some 32, .move (.tmp 5), none)) rfl rfl (fun w' hS => val_move rfl) ?_
  refine yS (by kernel_rfl : opAt F7.o5 1 = some (some 33, .binOp .eql 40 (.tmp 32) (.const (.int .i64 0)) 40, none)) rfl rfl (fun w' hS => val_T (val_eql rfl rfl) rfl) ?_
  refine yS (by kernel_rfl : opAt F7.o5 2 = some (some 34, .move (.tmp 33), none)) rfl rfl (fun w' hS => val_move rfl) ?_
  refine yS (by kernel_rfl : opAt F7.o5 3 = some (some 35, .move (.tmp 7), (some (2, true)))) rfl rfl (fun w' hS => val_move rfl) ?_
  refine yS (by kernel_rfl : opAt F7.o5 4 = some (some 36, .binOp .eql 40 (.tmp 35) (.const (.int .i64 0)) 40, (some (2, true)))) rfl rfl (fun w' hS => val_T (val_eql rfl rfl) rfl) ?_
  refine yS (by kernel_rfl : opAt F7.o5 5 = some (some 37, .pick (.tmp 34) (.tmp 36) (.const (.bool false)), none)) rfl rfl (fun w' hS => val_pick_t rfl rfl) ?_
  refine yS (by kernel_rfl : opAt F7.o5 6 = some (some 38, .move (.tmp 37), none)) rfl rfl (fun w' hS => val_move rfl) ?_
  refine yS (by kernel_rfl : opAt F7.o5 7 = some (some 39, .move (.tmp 3), (some (6, true)))) rfl rfl (fun w' hS => val_move rfl) ?_
  refine yS (by kernel_rfl : opAt F7.o5 8 = some (some 40, .call { callee := .builtin .len, args := #[(.tmp 39)], argTypes := #[29] }, (some (6, true)))) rfl rfl (fun w' hS => hg.lenV rfl Try.underlying29 w' ) ?_
  refine yS (by kernel_rfl : opAt F7.o5 9 = some (some 41, .binOp .eql 3 (.tmp 40) (.const (.int .i64 2)) 3, (some (6, true)))) rfl rfl (fun w' hS => val_T (val_eql rfl rfl) (by rw [hgl]; rfl)) ?_
  refine yS (by kernel_rfl : opAt F7.o5 10 = some (some 42, .pick (.tmp 38) (.tmp 41) (.const (.bool false)), none)) rfl rfl (fun w' hS => val_pick_t rfl rfl) ?_
  refine yS (by kernel_rfl : opAt F7.o5 11 = some (some 43, .move (.tmp 42), none)) rfl rfl (fun w' hS => val_move rfl) ?_
  refine yS (by kernel_rfl : opAt F7.o5 12 = some (some 44, .move (.tmp 4), (some (11, true)))) rfl rfl (fun w' hS => val_move rfl) ?_
  refine yS (by kernel_rfl : opAt F7.o5 13 = some (some 45, .call { callee := .builtin .len, args := #[(.tmp 44)], argTypes := #[45] }, (some (11, true)))) rfl rfl (fun w' hS => ha.lenV rfl Try.underlying45 w' ) ?_
  refine yS (by kernel_rfl : opAt F7.o5 14 = some (some 46, .binOp .eql 3 (.tmp 45) (.const (.int .i64 2)) 3, (some (11, true)))) rfl rfl (fun w' hS => val_T (val_eql rfl rfl) (by rw [hal]; rfl)) ?_
  refine yS (by kernel_rfl : opAt F7.o5 15 = some (some 47, .pick (.tmp 43) (.tmp 46) (.const (.bool false)), none)) rfl rfl (fun w' hS => val_pick_t rfl rfl) ?_
  refine yS (by kernel_rfl : opAt F7.o5 16 = some (some 48, .move (.tmp 47), none)) rfl rfl (fun w' hS => val_move rfl) ?_
  refine yS (by kernel_rfl : opAt F7.o5 17 = some (some 49, .move (.tmp 6), (some (16, true)))) rfl rfl (fun w' hS => val_move rfl) ?_
  refine yS (by kernel_rfl : opAt F7.o5 18 = some (some 50, .binOp .eql 3 (.tmp 49) (.const (.int .i64 3)) 3, (some (16, true)))) rfl rfl (fun w' hS => val_T (val_eql rfl rfl) rfl) ?_
  refine yS (by kernel_rfl : opAt F7.o5 19 = some (some 51, .pick (.tmp 48) (.tmp 50) (.const (.bool false)), none)) rfl rfl (fun w' hS => val_pick_t rfl rfl) ?_
  refine yS (by kernel_rfl : opAt F7.o5 20 = some (some 52, .move (.tmp 51), none)) rfl rfl (fun w' hS => val_move rfl) ?_
  refine yS (by kernel_rfl : opAt F7.o5 21 = some (some 53, .move (.tmp 3), (some (20, true)))) rfl rfl (fun w' hS => val_move rfl) ?_
  refine cS (by kernel_rfl : opAt F7.o5 22 = some (some 54, .call { callee := .value (.func 20), args := #[(.tmp 53)], argTypes := #[29] }, (some (20, true)))) rfl rfl (ent Try.call20 rfl) (singular_ok hF hg (by decide) (fun g hg => Nat.le_trans (aw_hm g hg).1 (by decide))) ?_
  rintro vw13 w13 ⟨rfl, hs⟩
  refine ⟨trivial, ?_⟩
  replace hF := hF.st hs
  replace hT := hT.trans hs (by simp)
  replace hwx := hwx.st hs (by first | decide | (simp <;> omega))
  replace hwy := hwy.st hs (by first | decide | (simp <;> omega))
  replace hA := hA.st hs (by first | decide | (simp <;> omega))
  replace hB := hB.st hs (by first | decide | (simp <;> omega))
  replace hcl := hcl.st hs (by first | decide | (simp <;> omega))
  replace hg := hg.st hs (by first | decide | (simp <;> omega))
  replace hD := hD.st hs (by first | decide | (simp <;> omega))
  replace ha := ha.st hs (by first | decide | (simp <;> omega))
  replace hN := hN.st hs (by first | decide | (simp <;> omega))
  rw [aw_s]
  refine yS (by kernel_rfl : opAt F7.o5 23 = some (some 55, .binOp .eql 3 (.tmp 54) (.const (.int .i64 3)) 3, (some (20, true)))) rfl rfl (fun w' hS => val_T (val_eql rfl rfl) rfl) ?_
  refine yS (by kernel_rfl : opAt F7.o5 24 = some (some 56, .pick (.tmp 52) (.tmp 55) (.const (.bool false)), none)) rfl rfl (fun w' hS => val_pick_t rfl rfl) ?_
  refine yS (by kernel_rfl : opAt F7.o5 25 = some (some 57, .move (.tmp 56), none)) rfl rfl (fun w' hS => val_move rfl) ?_
  refine nS (by kernel_rfl : opAt F7.o5 26 = some (some 58, .load 33 (.tmp 1), (some (25, true)))) rfl rfl trivial (val_loadOwnAgg (n := 2) (vs := [.int .i64 awX.len, v8]) hA.at_ (by kernel_rfl) (by kernel_rfl) rfl rfl rfl) ?_
  refine nS (by kernel_rfl : opAt F7.o5 27 = some (some 59, .load 33 (.tmp 2), (some (25, true)))) rfl rfl trivial (val_loadOwnAgg (n := 2) (vs := [.int .i64 awY.len, v10]) hB.at_ (by kernel_rfl) (by kernel_rfl) rfl rfl rfl) ?_
  refine aS (by kernel_rfl : opAt F7.o5 28 = some (some 60, .buildSlice 27 2 #[(0, (.tmp 58)), (1, (.tmp 59))], (some (25, true)))) rfl rfl (a_buildSlice (ys := ([awX, awY] : List Bits)) (e := 33) (bytes := 32) hF (by kernel_rfl) rfl (by decide) (by decide) ⟨rfl, ⟨_, rfl, rv_bits.2 ⟨v8, rfl, hwx⟩⟩, rfl, ⟨_, rfl, rv_bits.2 ⟨v10, rfl, hwy⟩⟩, trivial⟩) ?_
  rintro v60 w14 ⟨hs, hcl2, hF⟩
  refine ⟨trivial, ?_⟩
  replace hT := hT.trans hs (by simp)
  replace hwx := hwx.st hs (by first | decide | (simp <;> omega))
  replace hwy := hwy.st hs (by first | decide | (simp <;> omega))
  replace hA := hA.st hs (by first | decide | (simp <;> omega))
  replace hB := hB.st hs (by first | decide | (simp <;> omega))
  replace hcl := hcl.st hs (by first | decide | (simp <;> omega))
  replace hg := hg.st hs (by first | decide | (simp <;> omega))
  replace hD := hD.st hs (by first | decide | (simp <;> omega))
  replace ha := ha.st hs (by first | decide | (simp <;> omega))
  replace hN := hN.st hs (by first | decide | (simp <;> omega))
  refine cS (by kernel_rfl : opAt F7.o5 29 = some (some 61, .call { callee := .value (.func 25), args := #[(.tmp 60)], argTypes := #[27] }, (some (25, true)))) rfl rfl (ent Try.call25 rfl) (always_ok hF hcl2 (by decide) (by decide)) ?_
  rintro vw15 w15 ⟨rfl, hs⟩
  refine ⟨trivial, ?_⟩
  replace hF := hF.st hs
  replace hT := hT.trans hs (by simp)
  replace hwx := hwx.st hs (by first | decide | (simp <;> omega))
  replace hwy := hwy.st hs (by first | decide | (simp <;> omega))
  replace hA := hA.st hs (by first | decide | (simp <;> omega))
  replace hB := hB.st hs (by first | decide | (simp <;> omega))
  replace hcl := hcl.st hs (by first | decide | (simp <;> omega))
  replace hg := hg.st hs (by first | decide | (simp <;> omega))
  replace hD := hD.st hs (by first | decide | (simp <;> omega))
  replace ha := ha.st hs (by first | decide | (simp <;> omega))
  replace hN := hN.st hs (by first | decide | (simp <;> omega))
  replace hcl2 := hcl2.st hs (by first | decide | (simp <;> omega))
  rw [aw_al]
  refine yS (by kernel_rfl : opAt F7.o5 30 = some (some 62, .binOp .eql 3 (.tmp 61) (.const (.int .i64 0)) 3, (some (25, true)))) rfl rfl (fun w' hS => val_T (val_eql rfl rfl) rfl) ?_
  refine yS (by kernel_rfl : opAt F7.o5 31 = some (some 63, .pick (.tmp 57) (.tmp 62) (.const (.bool false)), none)) rfl rfl (fun w' hS => val_pick_t rfl rfl) ?_
  refine yS (by kernel_rfl : opAt F7.o5 32 = some (some 0, .assign (.tmp 63), none)) rfl rfl (fun w' hS => val_assign rfl) ?_
  refine Sch.nil ?_
  refine run_ret1 (by kernel_rfl) Try.func7 Try.results7 rfl ?_
  exact ⟨rfl, hT.out1 (by decide)⟩
end Go.Proofs.Ytbdlkdiadplmcaa
