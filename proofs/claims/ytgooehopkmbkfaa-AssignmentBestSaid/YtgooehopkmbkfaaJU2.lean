/- Steps through functions of the program. -/
import Derived.Test.YtgooehopkmbkfaaJU1
set_option linter.unusedVariables false
set_option linter.unusedSimpArgs false
set_option maxRecDepth 100000
set_option maxHeartbeats 4000000
namespace Go.Proofs.Ytgooehopkmbkfaa
open Go.K Go.K.Rep

namespace F46
noncomputable def c0 : Code := bodyOf Try.f46
noncomputable def c1 : Code := cl c0
noncomputable def o0 : Array Oper := rops c1
noncomputable def c2 : Code := cr c0
noncomputable def c3 : Code := cl c2
noncomputable def o1 : Array Oper := rops c3
noncomputable def c4 : Code := cr c2
end F46
/-- The weight of two nodes. -/
theorem weightOf_ok {w₀ : World} {C : Nat → Nat} {um : List (Couple × Int)} {bm b2 : Nat} {i j : Int} (hF : Lim w₀ C) (h2 : RA w₀ (Mc C) (⟨.map (some bm)⟩ : Sv) b2 0) (hm : RM w₀ (Mc C) kvC kvI um (.map (some bm))) :
    Calls Try.prog 46 #[.int .i64 i, .int .i64 j, .pointer (some ⟨b2, 0, none⟩)] w₀ (Ret fun v w' => v = .int .i64 ((mget um ⟨i, j⟩).getD 0) ∧ Stp [] w₀ C w' C) := by
  have hF0 := hF
  have hT := Stp.refl [2, 3, 4, 5, 6, 7, 8, 9] w₀ (col1 C)
  replace hF := hF.col1
  replace h2 := (show RA w₀ (Mc (col1 C)) _ _ 0 from by rw [Mc_col1]; exact h2)
  replace hm := (show RM w₀ (Mc (col1 C)) _ _ _ _ from by rw [Mc_col1]; exact hm)
  refine calls_start (c := F46.c0) (N := 11) [.int .i64 i, .int .i64 j, .pointer (some ⟨b2, 0, none⟩)] Try.func46 (by kernel_rfl) (by kernel_rfl) (by kernel_rfl) ?_
  show Run _ _ _ _ [(0, .int .i64 i), (1, .int .i64 j), (2, .pointer (some ⟨b2, 0, none⟩))] _ _
  refine run_seq (x := F46.c1) (y := F46.c2) (by kernel_rfl) ?_
  refine run_plain (id := 0) (ops := F46.o0) [(0, true)] (by kernel_rfl) (by kernel_rfl) ?_
  refine yS (by kernel_rfl : opAt F46.o0 0 = some (some 5, .assign (.const (.int .i64 0)), none)) rfl rfl (fun w' hS => val_assign rfl) ?_
  refine Sch.nil ?_
  refine run_seq (x := F46.c3) (y := F46.c4) (by kernel_rfl) ?_
  refine run_plain (id := 1) (ops := F46.o1) [(0, false), (1, true), (2, true), (3, true), (4, false), (5, true)] (by kernel_rfl) (by kernel_rfl) ?_
  refine lN (by kernel_rfl : opAt F46.o1 0 = some (some 6, .load 83 (.tmp 2), none)) rfl rfl trivial h2 (by kernel_rfl) rfl rfl ?_
  intro v6 g6
  obtain ⟨e6, _⟩ := rv_sv.1 g6
  subst e6
  refine yS (by kernel_rfl : opAt F46.o1 1 = some (some 7, .move (.tmp 0), none)) rfl rfl (fun w' hS => val_move rfl) ?_
  refine yS (by kernel_rfl : opAt F46.o1 2 = some (some 8, .move (.tmp 1), none)) rfl rfl (fun w' hS => val_move rfl) ?_
  refine yS (by kernel_rfl : opAt F46.o1 3 = some (some 9, .build 33 #[(0, (.tmp 7)), (1, (.tmp 8))], none)) rfl rfl (fun w' hS => val_buildArr (zs := [.int .i64 0, .int .i64 0]) (cs := [.int .i64 i, .int .i64 j]) (qs := [(0, [.int .i64 i]), (1, [.int .i64 j])]) Try.underlying33 (by kernel_rfl) (by kernel_rfl) (by kernel_rfl) (by exact ⟨rfl, ⟨_, rfl, rfl⟩, rfl, ⟨_, rfl, rfl⟩, trivial⟩) rfl) ?_
  refine nS (by kernel_rfl : opAt F46.o1 4 = some (some 10, .lookup 83 (.tmp 6) (.tmp 9) false, none)) rfl rfl trivial (hm.lookup (z0 := (0 : Int)) (k := (⟨i, j⟩ : Couple)) Try.underlying83 (keyOK_arr Try.underlying33 Try.underlying3 (by kernel_rfl) (by kernel_rfl)) Try.zeroValue3 rfl rfl) ?_
  refine yS (by kernel_rfl : opAt F46.o1 5 = some (some 5, .assign (.tmp 10), none)) rfl rfl (fun w' hS => val_assign rfl) ?_
  refine Sch.nil ?_
  refine run_ret1 (by kernel_rfl) Try.func46 Try.results46 rfl ?_
  exact ⟨rfl, hT.out1 (by decide)⟩
namespace F32
noncomputable def c0 : Code := bodyOf Try.f32
noncomputable def c1 : Code := cl c0
noncomputable def o0 : Array Oper := rops c1
noncomputable def c2 : Code := cr c0
noncomputable def c3 : Code := cl c2
noncomputable def o1 : Array Oper := rops c3
noncomputable def c4 : Code := cr c2
noncomputable def c5 : Code := cl c4
noncomputable def c6 : Code := cl c5
noncomputable def o2 : Array Oper := rops c6
noncomputable def c7 : Code := cr c5
noncomputable def c8 : Code := cl c7
noncomputable def c9 : Code := cl c8
noncomputable def c10 : Code := cl c9
noncomputable def o3 : Array Oper := rops c10
noncomputable def c11 : Code := cr c9
noncomputable def c12 : Code := cl c11
noncomputable def c13 : Code := cl c12
noncomputable def c14 : Code := cr c12
noncomputable def c15 : Code := cr c11
noncomputable def c16 : Code := cl c15
noncomputable def c17 : Code := cl c16
noncomputable def c18 : Code := cl c17
noncomputable def o4 : Array Oper := rops c18
noncomputable def c19 : Code := cr c17
noncomputable def o5 : Array Oper := rops c19
noncomputable def c20 : Code := cr c15
noncomputable def o6 : Array Oper := rops c20
noncomputable def c21 : Code := cr c4
noncomputable def c22 : Code := cl c21
noncomputable def o7 : Array Oper := rops c22
noncomputable def c23 : Code := cr c21
end F32
/-- 'graph'. -/
theorem graph_all {w₀ : World} {C : Nat → Nat} {n m : Nat} {l : List K.Edge} {vl : Value} (hF : Lim w₀ C) (hV : VE n m l) (hl : RV w₀ (Mc C) l vl) :
    Calls Try.prog 32 #[.int .i64 n, .int .i64 m, vl] w₀ (Ret fun v w' => ∃ (b : Nat) (gr : Gr) (U V : Nat → Int), v = .pointer (some ⟨b, 0, none⟩) ∧ Stp [] w₀ C w' C ∧ RA w' (Mc C) gr b 0 ∧ GrIs n m (edW l) U V gr ∧ GiveG w₀ C w' 3 b gr) := by
  have hF0 := hF
  have hT := Stp.refl [2, 3, 4, 5, 6, 7, 8, 9] w₀ (col1 C)
  replace hF := hF.col1
  replace hl : RV w₀ (Mc (col1 C)) l vl := by rw [Mc_col1]; exact hl
  have hn1 := hV.n1
  have hm1 := hV.m1
  refine calls_start (c := F32.c0) (N := 30) [.int .i64 n, .int .i64 m, vl] Try.func32 (by kernel_rfl) (by kernel_rfl) (by kernel_rfl) ?_
  show Run _ _ _ _ [(0, .int .i64 n), (1, .int .i64 m), (2, vl)] _ _
  refine run_seq (x := F32.c1) (y := F32.c2) (by kernel_rfl) ?_
  refine run_plain (id := 0) (ops := F32.o0) [(0, true)] (by kernel_rfl) (by kernel_rfl) ?_
  refine yS (by kernel_rfl : opAt F32.o0 0 = some (some 6, .assign (.const (.pointer none)), none)) rfl rfl (fun w' hS => val_assign rfl) ?_
  refine Sch.nil ?_
  refine run_seq (x := F32.c3) (y := F32.c4) (by kernel_rfl) ?_
  refine run_plain (id := 1) (ops := F32.o1) [(0, false), (1, false), (2, false)] (by kernel_rfl) (by kernel_rfl) ?_
  refine aS (by kernel_rfl : opAt F32.o1 0 = some (some 10, .makeMap 83 none, none)) rfl rfl (a_makeMap hF 3 kvC kvI) ?_
  rintro _ wm ⟨Cm, bm, rfl, hs, hm, hF⟩
  refine ⟨trivial, ?_⟩
  replace hT := hT.trans hs (by simp)
  replace hl := hl.st hs (by first | decide | (simp <;> omega))
  refine aS (by kernel_rfl : opAt F32.o1 1 = some (some 7, .alloc 83, none)) rfl rfl (a_alloc (cs := [.map none]) hF 4 (by kernel_rfl)) ?_
  rintro _ w1 ⟨Cw1, bw1, rfl, hs, hb7, hF⟩
  refine ⟨trivial, ?_⟩
  replace hT := hT.trans hs (by simp)
  replace hl := hl.st hs (by first | decide | (simp <;> omega))
  replace hm := hm.st hs (by first | decide | (simp <;> omega))
  refine aN (by kernel_rfl : opAt F32.o1 2 = some (none, .store 83 (.tmp 7) (.tmp 10), none)) rfl (a_storeAll (vs := [.map (some bm)]) (n := 1) rfl rfl (by kernel_rfl) rfl rfl (by intro u hu2; rw [List.mem_singleton.1 hu2]; rfl) hb7 rfl) ?_
  rintro _ w2 ⟨rfl, hs, hb7⟩
  refine ⟨trivial, ?_⟩
  replace hF := hF.st hs
  replace hT := hT.trans hs (by simp)
  replace hl := hl.st hs (by first | decide | (simp <;> omega))
  replace hm := hm.st hs (by first | decide | (simp <;> omega))
  refine Sch.nil ?_
  refine run_seq (x := F32.c5) (y := F32.c21) (by kernel_rfl) ?_
  refine run_seq (x := F32.c6) (y := F32.c7) (by kernel_rfl) ?_
  refine run_plain (id := 2) (ops := F32.o2) [(0, true), (1, true), (2, true)] (by kernel_rfl) (by kernel_rfl) ?_
  refine yS (by kernel_rfl : opAt F32.o2 0 = some (some 11, .move (.tmp 2), none)) rfl rfl (fun w' hS => val_move rfl) ?_
  refine yS (by kernel_rfl : opAt F32.o2 1 = some (some 12, .call { callee := .builtin .len, args := #[(.tmp 11)], argTypes := #[23] }, none)) rfl rfl (fun w' hS => hl.lenV rfl Try.underlying23 w' ) ?_
  refine yS (by kernel_rfl : opAt F32.o2 2 = some (some 13, .move (.const (.int .i64 0)), none)) rfl rfl (fun w' hS => val_move rfl) ?_
  refine Sch.nil ?_
  refine run_block (x := F32.c8) (id := 0) (by kernel_rfl) ?_
  
  refine run_loop (ι := Nat × (Nat → Nat)) (I := fun x w => x.1 ≤ l.length ∧ Lim w x.2 ∧ Stp [2, 3, 4, 5, 6, 7, 8, 9] w₀ (col1 C) w x.2 ∧ RV w (Mc x.2) l vl ∧ OwnM w x.2 3 bm kvC kvI (edM (l.take x.1)) ∧ OwnB w x.2 4 bw1 (.cells [.map (some bm)].toArray 83)) (e := fun x => [(0, .int .i64 n), (1, .int .i64 m), (7, .pointer (some ⟨bw1, 0, none⟩)), (11, vl), (12, .int .i64 l.length), (13, .int .i64 x.1)]) (m := fun x => l.length - x.1) (x₀ := (0, Cw1)) (body := F32.c9) (by kernel_rfl) (sub_cons 0 rfl rfl (sub_cons 1 rfl rfl (sub_cons 7 rfl rfl (sub_cons 11 rfl rfl (sub_cons 12 rfl rfl (sub_cons 13 rfl rfl (sub_nil _))))))) ?_ ?_
  · exact ⟨Nat.zero_le _, hF, hT, hl, hm, hb7⟩
  intro ⟨i, C1⟩ w3 hI next
  obtain ⟨hi, hF, hT, hl, hm, hb7⟩ := hI
  try simp only at hi hF hT hl hm hb7
  have next1 := next
  clear next
  show Run _ _ _ _ [(0, .int .i64 n), (1, .int .i64 m), (7, .pointer (some ⟨bw1, 0, none⟩)), (11, vl), (12, .int .i64 l.length), (13, .int .i64 i)] _ _
  have hle := hl.le
  refine run_seq (x := F32.c10) (y := F32.c11) (by kernel_rfl) ?_
  refine run_plain (id := 3) (ops := F32.o3) [(0, true)] (by kernel_rfl) (by kernel_rfl) ?_
  refine yS (by kernel_rfl : opAt F32.o3 0 = some (some 14, .binOp .lss 3 (.tmp 13) (.tmp 12) 3, none)) rfl rfl (fun w' hS => val_lss rfl rfl) ?_
  refine Sch.nil ?_
  refine run_seq (x := F32.c12) (y := F32.c15) (by kernel_rfl) ?_
  refine run_if (x := F32.c13) (y := F32.c14) (o := .tmp 14) (by kernel_rfl) rfl (fun h14 => ?_) (fun h14 => ?_)
  · skip
    have hil : i < l.length := by omega
    refine run_skip (by kernel_rfl) ?_
    refine run_seq (x := F32.c16) (y := F32.c20) (by kernel_rfl) ?_
    refine run_block (x := F32.c17) (id := 1) (by kernel_rfl) ?_
    refine run_seq (x := F32.c18) (y := F32.c19) (by kernel_rfl) ?_
    refine run_plain (id := 4) (ops := F32.o4) [(0, true), (1, false), (2, false), (3, false)] (by kernel_rfl) (by kernel_rfl) ?_
    refine iS (e := 46) (by kernel_rfl : opAt F32.o4 0 = some (some 15, .indexAddr 23 (.tmp 11) (.tmp 13), none)) rfl rfl hl rfl (by kernel_rfl) rfl (by omega) (by omega) ?_
    intro b15 o15 h15
    try simp only [Int.toNat_natCast] at h15
    refine lNA (by kernel_rfl : opAt F32.o4 1 = some (some 16, .load 46 (.tmp 15), none)) rfl rfl trivial h15 (by kernel_rfl) (by kernel_rfl) rfl rfl ?_
    intro v16 g16
    obtain rfl := rv_edge.1 g16
    refine aS (by kernel_rfl : opAt F32.o4 2 = some (some 9, .alloc 46, none)) rfl rfl (a_alloc (cs := [.int .i64 0, .int .i64 0, .int .i64 0]) hF 5 (by kernel_rfl)) ?_
    rintro _ w4 ⟨Cw4, bw4, rfl, hs, hx, hF⟩
    refine ⟨trivial, ?_⟩
    replace hT := hT.trans hs (by simp)
    replace hl := hl.st hs (by first | decide | (simp <;> omega))
    replace hm := hm.st hs (by first | decide | (simp <;> omega))
    replace hb7 := hb7.st hs (by first | decide | (simp <;> omega))
    replace h15 := h15.st hs (by first | decide | (simp <;> omega))
    refine aN (by kernel_rfl : opAt F32.o4 3 = some (none, .store 46 (.tmp 9) (.tmp 16), none)) rfl (a_storeAll (vs := encE (l[i]'hil)) (n := 3) rfl rfl (by kernel_rfl) rfl rfl (by intro u hu; simp only [encE, List.mem_cons, List.not_mem_nil, or_false] at hu; rcases hu with rfl | rfl | rfl <;> rfl) hx rfl) ?_
    rintro _ w5 ⟨rfl, hs, hx⟩
    refine ⟨trivial, ?_⟩
    replace hF := hF.st hs
    replace hT := hT.trans hs (by simp)
    replace hl := hl.st hs (by first | decide | (simp <;> omega))
    replace hm := hm.st hs (by first | decide | (simp <;> omega))
    replace hb7 := hb7.st hs (by first | decide | (simp <;> omega))
    replace h15 := h15.st hs (by first | decide | (simp <;> omega))
    refine Sch.nil ?_
    refine run_plain (id := 5) (ops := F32.o5) [(0, false), (1, true), (2, false), (3, true), (4, false), (5, true), (6, true), (7, false), (8, false)] (by kernel_rfl) (by kernel_rfl) ?_
    refine nS (by kernel_rfl : opAt F32.o5 0 = some (some 17, .load 83 (.tmp 7), none)) rfl rfl trivial (val_loadOwn hb7.at_ (by kernel_rfl) rfl rfl) ?_
    refine yS (by kernel_rfl : opAt F32.o5 1 = some (some 18, .fieldAddr 46 (.tmp 9) 0, none)) rfl rfl (fun w' hS => val_fieldAddr (off := 0) (by kernel_rfl) rfl) ?_
    refine nS (by kernel_rfl : opAt F32.o5 2 = some (some 19, .load 3 (.tmp 18), none)) rfl rfl trivial (val_loadOwn hx.at_ (by kernel_rfl) rfl rfl) ?_
    refine yS (by kernel_rfl : opAt F32.o5 3 = some (some 20, .fieldAddr 46 (.tmp 9) 1, none)) rfl rfl (fun w' hS => val_fieldAddr (off := 1) (by kernel_rfl) rfl) ?_
    refine nS (by kernel_rfl : opAt F32.o5 4 = some (some 21, .load 3 (.tmp 20), none)) rfl rfl trivial (val_loadOwn hx.at_ (by kernel_rfl) rfl rfl) ?_
    refine yS (by kernel_rfl : opAt F32.o5 5 = some (some 22, .build 33 #[(0, (.tmp 19)), (1, (.tmp 21))], none)) rfl rfl (fun w' hS => val_buildArr (zs := [.int .i64 0, .int .i64 0]) (cs := [.int .i64 (l[i]'hil).a, .int .i64 (l[i]'hil).b]) (qs := [(0, [.int .i64 (l[i]'hil).a]), (1, [.int .i64 (l[i]'hil).b])]) Try.underlying33 (by kernel_rfl) (by kernel_rfl) (by kernel_rfl) (by exact ⟨rfl, ⟨_, rfl, rfl⟩, rfl, ⟨_, rfl, rfl⟩, trivial⟩) rfl) ?_
    refine yS (by kernel_rfl : opAt F32.o5 6 = some (some 23, .fieldAddr 46 (.tmp 9) 2, none)) rfl rfl (fun w' hS => val_fieldAddr (off := 2) (by kernel_rfl) rfl) ?_
    refine nS (by kernel_rfl : opAt F32.o5 7 = some (some 24, .load 3 (.tmp 23), none)) rfl rfl trivial (val_loadOwn hx.at_ (by kernel_rfl) rfl rfl) ?_
    refine aN (by kernel_rfl : opAt F32.o5 8 = some (none, .mapUpdate 83 (.tmp 17) (.tmp 22) (.tmp 24), none)) rfl (a_mapUpdate (k := (l[i]'hil).k) (u := (l[i]'hil).w) hm Try.underlying83 (keyOK_arr Try.underlying33 Try.underlying3 (by kernel_rfl) (by kernel_rfl)) rfl rfl rfl) ?_
    rintro _ w6 ⟨rfl, hs, hm⟩
    refine ⟨trivial, ?_⟩
    replace hF := hF.st hs
    replace hT := hT.trans hs (by simp)
    replace hl := hl.st hs (by first | decide | (simp <;> omega))
    replace hb7 := hb7.st hs (by first | decide | (simp <;> omega))
    replace h15 := h15.st hs (by first | decide | (simp <;> omega))
    replace hx := hx.st hs (by first | decide | (simp <;> omega))
    refine Sch.nil ?_
    refine run_inBlock ?_
    refine run_plain (id := 6) (ops := F32.o6) [(0, true), (1, true)] (by kernel_rfl) (by kernel_rfl) ?_
    refine yS (by kernel_rfl : opAt F32.o6 0 = some (some 25, .binOp .add 3 (.tmp 13) (.const (.int .i64 1)) 3, none)) rfl rfl (fun w' hS => val_addi rfl rfl (by omega) (by omega)) ?_
    refine yS (by kernel_rfl : opAt F32.o6 1 = some (some 13, .move (.tmp 25), none)) rfl rfl (fun w' hS => val_move rfl) ?_
    refine Sch.nil ?_
    refine kp (sub_cons 0 rfl rfl (sub_cons 1 rfl rfl (sub_cons 7 rfl rfl (sub_cons 11 rfl rfl (sub_cons 12 rfl rfl (sub_cons 13 rfl (eq_int (by simp)) (sub_nil _))))))) (next1 (i + 1, Cw4) _ ⟨(by first | omega | (simp only; omega)), hF, hT, hl, (by simp only; rw [edM_take hil]; exact hm), hb7⟩ (by first | omega | (simp only; omega)))
  · skip
    have hil : i = l.length := by omega
    subst hil
    rw [List.take_length] at hm
    have hb_ := hb7.frzA (n := 2) (by decide) (by rfl)
    have hm_ := hm.frz (n := 2) (by decide)
    replace hF := hF.frz 2
    replace hT := hT.frz (n := 2) (fun b => col1_lt2 C b)
    replace hl := hl.frz 2
    have hbr : RA _ _ (⟨_⟩ : Sv) _ 0 := hb_
    have hmr := hm_
    clear hb_ hb7 hm_ hm
    refine run_exit (id := 0) (by kernel_rfl) rfl ?_
    refine run_seq (x := F32.c22) (y := F32.c23) (by kernel_rfl) ?_
    refine run_plain (id := 7) (ops := F32.o7) [(0, true), (1, true), (2, true), (3, false), (4, true)] (by kernel_rfl) (by kernel_rfl) ?_
    refine yS (by kernel_rfl : opAt F32.o7 0 = some (some 26, .move (.tmp 0), none)) rfl rfl (fun w' hS => val_move rfl) ?_
    refine yS (by kernel_rfl : opAt F32.o7 1 = some (some 27, .move (.tmp 1), none)) rfl rfl (fun w' hS => val_move rfl) ?_
    refine yS (by kernel_rfl : opAt F32.o7 2 = some (some 28, .makeFunc (.func 46) #[] #[(.tmp 7)], none)) rfl rfl (fun w' hS => val_makeFunc rfl rfl) ?_
    have hwt := fun (w1 : World) (hs1 : Stp [] _ _ w1 _) (a b : Nat) (ha : a < n) (hb : b < m) => weightOf_ok (i := (a : Int)) (j := (b : Int)) (hF.st hs1) (hbr.st hs1 (by simp)) (hmr.st hs1 (by simp))
    have hTg := hT
    refine cS (by kernel_rfl : opAt F32.o7 3 = some (some 29, .call { callee := .value (.func 45), args := #[(.tmp 26), (.tmp 27), (.tmp 28)], argTypes := #[3, 3, 82] }, none)) rfl rfl (ent Try.call45 rfl) (tnew_all (wt := edW l) (W := 65536) hF (by omega) (by omega) (fun args w => Try.call46 args w) hwt (fun i j _ _ => (hV.wle i j).2) (by decide) (by decide) (by omega)) ?_
    rintro vw7 w7 ⟨gb, gr, U, V, rfl, hs, hg, hG, hgv⟩
    refine ⟨trivial, ?_⟩
    replace hF := hF.st hs
    replace hT := hT.trans hs (by simp)
    replace hl := hl.st hs (by first | decide | (simp <;> omega))
    replace hbr := hbr.st hs (by first | decide | (simp <;> omega))
    replace hmr := hmr.st hs (by first | decide | (simp <;> omega))
    refine yS (by kernel_rfl : opAt F32.o7 4 = some (some 6, .assign (.tmp 29), none)) rfl rfl (fun w' hS => val_assign rfl) ?_
    refine Sch.nil ?_
    refine run_ret1 (by kernel_rfl) Try.func32 Try.results32 rfl ?_
    exact ⟨gb, gr, U, V, rfl, hT.out1 (by decide), RA.out hg hT hF0 (Mc_col1 C), hG, hgv.out hTg (hT.out1 (by decide)) hF0 (Mc_col1 C) (fun b => col1_lt C (by decide) b)⟩
theorem graph_ok {w₀ : World} {C : Nat → Nat} {n m : Nat} {l : List K.Edge} {vl : Value} (hF : Lim w₀ C) (hV : VE n m l) (hl : RV w₀ (Mc C) l vl) :
    Calls Try.prog 32 #[.int .i64 n, .int .i64 m, vl] w₀ (Ret fun v w' => ∃ (b : Nat) (gr : Gr) (U V : Nat → Int), v = .pointer (some ⟨b, 0, none⟩) ∧ Stp [] w₀ C w' C ∧ RA w' (Mc C) gr b 0 ∧ GrIs n m (edW l) U V gr) := by
  refine (graph_all hF hV hl).mono ?_
  rintro e w' ⟨v, rfl, b, gr, U, V, h1, h2, h3, h4, _⟩
  exact ⟨v, rfl, b, gr, U, V, h1, h2, h3, h4⟩
end Go.Proofs.Ytgooehopkmbkfaa
