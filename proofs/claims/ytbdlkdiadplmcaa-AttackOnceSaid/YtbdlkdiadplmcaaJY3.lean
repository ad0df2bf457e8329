/- Steps through functions of the program. -/
import Derived.Test.YtbdlkdiadplmcaaJXD
set_option linter.unusedVariables false
set_option linter.unusedSimpArgs false
set_option maxRecDepth 100000
set_option maxHeartbeats 4000000
namespace Go.Proofs.Ytbdlkdiadplmcaa
open Go.K Go.K.Rep

namespace F5
noncomputable def c0 : Code := bodyOf Try.f5
noncomputable def c1 : Code := cl c0
noncomputable def o0 : Array Oper := rops c1
noncomputable def c2 : Code := cr c0
noncomputable def c3 : Code := cl c2
noncomputable def c4 : Code := cl c3
noncomputable def o1 : Array Oper := rops c4
noncomputable def c5 : Code := cr c3
noncomputable def c6 : Code := cl c5
noncomputable def c7 : Code := cl c6
noncomputable def o2 : Array Oper := rops c7
noncomputable def c8 : Code := cr c6
noncomputable def c9 : Code := cr c5
noncomputable def c10 : Code := cr c2
noncomputable def c11 : Code := cl c10
noncomputable def o3 : Array Oper := rops c11
noncomputable def c12 : Code := cr c10
noncomputable def c13 : Code := cl c12
noncomputable def o4 : Array Oper := rops c13
noncomputable def c14 : Code := cr c12
noncomputable def c15 : Code := cl c14
noncomputable def o5 : Array Oper := rops c15
noncomputable def c16 : Code := cr c14
noncomputable def c17 : Code := cl c16
noncomputable def o6 : Array Oper := rops c17
noncomputable def c18 : Code := cr c16
noncomputable def c19 : Code := cl c18
noncomputable def o7 : Array Oper := rops c19
noncomputable def c20 : Code := cr c18
noncomputable def c21 : Code := cl c20
noncomputable def c22 : Code := cl c21
noncomputable def o8 : Array Oper := rops c22
noncomputable def c23 : Code := cr c21
noncomputable def c24 : Code := cl c23
noncomputable def c25 : Code := cl c24
noncomputable def c26 : Code := cl c25
noncomputable def o9 : Array Oper := rops c26
noncomputable def c27 : Code := cr c25
noncomputable def c28 : Code := cl c27
noncomputable def c29 : Code := cl c28
noncomputable def c30 : Code := cr c28
noncomputable def c31 : Code := cr c27
noncomputable def c32 : Code := cl c31
noncomputable def c33 : Code := cl c32
noncomputable def c34 : Code := cl c33
noncomputable def o10 : Array Oper := rops c34
noncomputable def c35 : Code := cr c33
noncomputable def o11 : Array Oper := rops c35
noncomputable def c36 : Code := cr c31
noncomputable def o12 : Array Oper := rops c36
noncomputable def c37 : Code := cr c20
noncomputable def c38 : Code := cl c37
noncomputable def o13 : Array Oper := rops c38
noncomputable def c39 : Code := cr c37
noncomputable def c40 : Code := cl c39
noncomputable def c41 : Code := cl c40
noncomputable def o14 : Array Oper := rops c41
noncomputable def c42 : Code := cr c40
noncomputable def c43 : Code := cl c42
noncomputable def c44 : Code := cl c43
noncomputable def o15 : Array Oper := rops c44
noncomputable def c45 : Code := cr c43
noncomputable def c46 : Code := cr c42
noncomputable def c47 : Code := cr c39
noncomputable def c48 : Code := cl c47
noncomputable def c49 : Code := cl c48
noncomputable def o16 : Array Oper := rops c49
noncomputable def c50 : Code := cr c48
noncomputable def c51 : Code := cl c50
noncomputable def c52 : Code := cl c51
noncomputable def c53 : Code := cl c52
noncomputable def o17 : Array Oper := rops c53
noncomputable def c54 : Code := cr c52
noncomputable def c55 : Code := cl c54
noncomputable def c56 : Code := cl c55
noncomputable def c57 : Code := cr c55
noncomputable def c58 : Code := cr c54
noncomputable def c59 : Code := cl c58
noncomputable def c60 : Code := cl c59
noncomputable def c61 : Code := cl c60
noncomputable def o18 : Array Oper := rops c61
noncomputable def c62 : Code := cr c60
noncomputable def c63 : Code := cl c62
noncomputable def o19 : Array Oper := rops c63
noncomputable def c64 : Code := cr c62
noncomputable def c65 : Code := cl c64
noncomputable def c66 : Code := cl c65
noncomputable def c67 : Code := cl c66
noncomputable def c68 : Code := cl c67
noncomputable def o20 : Array Oper := rops c68
noncomputable def c69 : Code := cr c67
noncomputable def c70 : Code := cl c69
noncomputable def c71 : Code := cr c69
noncomputable def c72 : Code := cr c66
noncomputable def c73 : Code := cl c72
noncomputable def c74 : Code := cl c73
noncomputable def c75 : Code := cl c74
noncomputable def o22 : Array Oper := rops c75
noncomputable def c76 : Code := cr c74
noncomputable def c77 : Code := cl c76
noncomputable def c78 : Code := cl c77
noncomputable def o23 : Array Oper := rops c78
noncomputable def c79 : Code := cr c77
noncomputable def c80 : Code := cr c76
noncomputable def c81 : Code := cr c72
noncomputable def o21 : Array Oper := rops c81
noncomputable def c82 : Code := cr c58
noncomputable def o24 : Array Oper := rops c82
noncomputable def c83 : Code := cr c47
noncomputable def c84 : Code := cl c83
noncomputable def o25 : Array Oper := rops c84
noncomputable def c85 : Code := cr c83
end F5
/-- The statement's function answers true. -/
theorem onceLaw_ok {w₀ : World} {C : Nat → Nat} {l : List Int} {vl : Value} (hF : Lim w₀ C) (hl : RV w₀ (Mc C) l vl) : Calls Try.prog 5 #[vl] w₀ (Ret fun v w' => v = .bool true ∧ Stp [] w₀ C w' C) := by
  have hF0 := hF
  have hT := Stp.refl [2, 3, 4, 5, 6, 7, 8, 9] w₀ (col1 C)
  replace hF := hF.col1
  replace hl : RV w₀ (Mc (col1 C)) l vl := by rw [Mc_col1]; exact hl
  refine calls_start (c := F5.c0) (N := 108) [vl] Try.func5 (by kernel_rfl) (by kernel_rfl) (by kernel_rfl) ?_
  show Run _ _ _ _ [(0, vl)] _ _
  refine run_seq (x := F5.c1) (y := F5.c2) (by kernel_rfl) ?_
  refine run_plain (id := 0) (ops := F5.o0) [(0, true)] (by kernel_rfl) (by kernel_rfl) ?_
  refine yS (by kernel_rfl : opAt F5.o0 0 = some (some 2, .assign (.const (.bool false)), none)) rfl rfl (fun w' hS => val_assign rfl) ?_
  refine Sch.nil ?_
  refine run_seq (x := F5.c3) (y := F5.c10) (by kernel_rfl) ?_
  refine run_seq (x := F5.c4) (y := F5.c5) (by kernel_rfl) ?_
  refine run_plain (id := 1) (ops := F5.o1) [(0, false), (1, true), (2, true), (3, true), (4, false), (5, true), (6, true)] (by kernel_rfl) (by kernel_rfl) ?_
  refine cS (by kernel_rfl : opAt F5.o1 0 = some (some 14, .call { callee := .value (.func 7), args := #[], argTypes := #[] }, none)) rfl rfl (ent Try.call7 rfl) (awake_ok hF) ?_
  rintro vw1 w1 ⟨rfl, hs⟩
  refine ⟨trivial, ?_⟩
  replace hF := hF.st hs
  replace hT := hT.trans hs (by simp)
  replace hl := hl.st hs (by first | decide | (simp <;> omega))
  refine yS (by kernel_rfl : opAt F5.o1 1 = some (some 15, .unOp .not 4 (.tmp 14), none)) rfl rfl (fun w' hS => val_not rfl) ?_
  refine yS (by kernel_rfl : opAt F5.o1 2 = some (some 16, .move (.tmp 15), none)) rfl rfl (fun w' hS => val_move rfl) ?_
  refine yS (by kernel_rfl : opAt F5.o1 3 = some (some 17, .move (.tmp 0), (some (2, false)))) rfl rfl (fun w' hS => val_move rfl) ?_
  refine cS (by kernel_rfl : opAt F5.o1 4 = some (some 18, .call { callee := .value (.func 8), args := #[(.tmp 17)], argTypes := #[22] }, (some (2, false)))) rfl rfl (ent Try.call8 rfl) (few_any hl) ?_
  rintro vw2 w2 ⟨rfl, rfl⟩
  refine ⟨trivial, ?_⟩
  refine yS (by kernel_rfl : opAt F5.o1 5 = some (some 19, .unOp .not 4 (.tmp 18), (some (2, false)))) rfl rfl (fun w' hS => val_notd rfl) ?_
  refine yS (by kernel_rfl : opAt F5.o1 6 = some (some 20, .pick (.tmp 16) (.const (.bool true)) (.tmp 19), none)) rfl rfl (fun w' hS => val_pick_f rfl rfl) ?_
  refine Sch.nil ?_
  refine run_if (x := F5.c6) (y := F5.c9) (o := .tmp 20) (by kernel_rfl) rfl (fun h20 => ?_) (fun h20 => ?_)
  · skip
    refine run_seq (x := F5.c7) (y := F5.c8) (by kernel_rfl) ?_
    refine run_plain (id := 2) (ops := F5.o2) [(0, false), (1, true)] (by kernel_rfl) (by kernel_rfl) ?_
    refine cS (by kernel_rfl : opAt F5.o2 0 = some (some 21, .call { callee := .value (.func 7), args := #[], argTypes := #[] }, none)) rfl rfl (ent Try.call7 rfl) (awake_ok hF) ?_
    rintro vw3 w3 ⟨rfl, hs⟩
    refine ⟨trivial, ?_⟩
    replace hF := hF.st hs
    replace hT := hT.trans hs (by simp)
    replace hl := hl.st hs (by first | decide | (simp <;> omega))
    refine yS (by kernel_rfl : opAt F5.o2 1 = some (some 2, .assign (.tmp 21), none)) rfl rfl (fun w' hS => val_assign rfl) ?_
    refine Sch.nil ?_
    refine run_ret1 (by kernel_rfl) Try.func5 Try.results5 rfl ?_
    exact ⟨rfl, hT.out1 (by decide)⟩
  · skip
    refine run_skip (by kernel_rfl) ?_
    refine run_seq (x := F5.c11) (y := F5.c12) (by kernel_rfl) ?_
    refine run_plain (id := 3) (ops := F5.o3) [(0, true), (1, false), (2, true)] (by kernel_rfl) (by kernel_rfl) ?_
    refine yS (by kernel_rfl : opAt F5.o3 0 = some (some 22, .move (.tmp 0), none)) rfl rfl (fun w' hS => val_move rfl) ?_
    refine cS (by kernel_rfl : opAt F5.o3 1 = some (some 23, .call { callee := .value (.func 9), args := #[(.tmp 22)], argTypes := #[22] }, none)) rfl rfl (ent Try.call9 rfl) (new_any hF hl) ?_
    rintro vw4 w4 ⟨Cd, bd, rfl, hs, hF, hd⟩
    refine ⟨trivial, ?_⟩
    replace hT := hT.trans hs (by simp)
    replace hl := hl.st hs (by first | decide | (simp <;> omega))
    refine yS (by kernel_rfl : opAt F5.o3 2 = some (some 3, .assign (.tmp 23), none)) rfl rfl (fun w' hS => val_assign rfl) ?_
    refine Sch.nil ?_
    refine run_seq (x := F5.c13) (y := F5.c14) (by kernel_rfl) ?_
    refine run_plain (id := 4) (ops := F5.o4) [(0, true), (1, false), (2, true)] (by kernel_rfl) (by kernel_rfl) ?_
    refine yS (by kernel_rfl : opAt F5.o4 0 = some (some 24, .move (.tmp 3), none)) rfl rfl (fun w' hS => val_move rfl) ?_
    refine cS (by kernel_rfl : opAt F5.o4 1 = some (some 25, .call { callee := .value (.func 10), args := #[(.tmp 24), (.const (.int .i64 14))], argTypes := #[25, 3] }, none)) rfl rfl (ent Try.call10 rfl) (column_any (n := 14) hF (by decide) hd (by decide) (by decide)) ?_
    rintro v25 w5 ⟨cl, hcl, hgd, hs, hd, hc⟩
    refine ⟨trivial, ?_⟩
    replace hF := hF.st hs
    replace hT := hT.trans hs (by simp)
    replace hl := hl.st hs (by first | decide | (simp <;> omega))
    refine yS (by kernel_rfl : opAt F5.o4 2 = some (some 4, .assign (.tmp 25), none)) rfl rfl (fun w' hS => val_assign rfl) ?_
    refine Sch.nil ?_
    refine run_seq (x := F5.c15) (y := F5.c16) (by kernel_rfl) ?_
    refine run_plain (id := 5) (ops := F5.o5) [(0, true), (1, false), (2, true)] (by kernel_rfl) (by kernel_rfl) ?_
    refine yS (by kernel_rfl : opAt F5.o5 0 = some (some 26, .move (.tmp 4), none)) rfl rfl (fun w' hS => val_move rfl) ?_
    refine cS (by kernel_rfl : opAt F5.o5 1 = some (some 27, .call { callee := .value (.func 22), args := #[(.tmp 26)], argTypes := #[27] }, none)) rfl rfl (ent Try.call22 rfl) (refGroups_ok hF hc (by omega)) ?_
    rintro vgs w6 ⟨hs, hg⟩
    refine ⟨trivial, ?_⟩
    replace hF := hF.st hs
    replace hT := hT.trans hs (by simp)
    replace hl := hl.st hs (by first | decide | (simp <;> omega))
    replace hd := hd.st hs (by first | decide | (simp <;> omega)) (by first | decide | (simp <;> omega))
    replace hc := hc.st hs (by first | decide | (simp <;> omega))
    obtain ⟨gs, hgs⟩ : ∃ gs, gs = grpsOf cl cl.length := ⟨_, rfl⟩
    rw [← hgs] at hg
    have hgl : gs.length = (fsts cl cl.length).length := by rw [hgs, grpsOf_len]
    have hfl := fsts_le (cl := cl) (k := cl.length)
    have hmb : ∀ g ∈ gs, g.mem.length ≤ 1000 := fun g hg => by
      subst hgs
      obtain ⟨q, hq, rfl⟩ := List.getElem_of_mem hg
      rw [grpsOf_get]; show (ints (mems cl cl.length q)).length ≤ _
      rw [ints_len]; have := mems_len (cl := cl) (k := cl.length) (g := q); omega
    have hmm : ∀ g ∈ gs, ∀ m ∈ g.mem, 0 ≤ m ∧ m < (cl.length : Int) := fun g hg m hm => by
      subst hgs
      obtain ⟨q, hq, rfl⟩ := List.getElem_of_mem hg
      rw [grpsOf_get] at hm
      replace hm : m ∈ ints (mems cl cl.length q) := hm
      unfold ints at hm
      obtain ⟨i, hi, rfl⟩ := List.mem_map.1 hm
      have := mems_lt (by rw [← grpsOf_len]; exact hq) hi
      omega
    clear hgs
    refine yS (by kernel_rfl : opAt F5.o5 2 = some (some 5, .assign (.tmp 27), none)) rfl rfl (fun w' hS => val_assign rfl) ?_
    refine Sch.nil ?_
    refine run_seq (x := F5.c17) (y := F5.c18) (by kernel_rfl) ?_
    refine run_plain (id := 6) (ops := F5.o6) [(0, true), (1, true), (2, false), (3, false), (4, true), (5, true), (6, true), (7, true), (8, true)] (by kernel_rfl) (by kernel_rfl) ?_
    refine yS (by kernel_rfl : opAt F5.o6 0 = some (some 29, .move (.tmp 5), none)) rfl rfl (fun w' hS => val_move rfl) ?_
    refine yS (by kernel_rfl : opAt F5.o6 1 = some (some 30, .move (.tmp 3), none)) rfl rfl (fun w' hS => val_move rfl) ?_
    refine cS (by kernel_rfl : opAt F5.o6 2 = some (some 31, .call { callee := .value (.func 17), args := #[(.tmp 30)], argTypes := #[25] }, none)) rfl rfl (ent Try.call17 rfl) (dict_any hF (by decide) hd) ?_
    rintro vw7 w7 ⟨es, js, hD, hs, hd, hes⟩
    refine ⟨trivial, ?_⟩
    replace hF := hF.st hs
    replace hT := hT.trans hs (by simp)
    replace hl := hl.st hs (by first | decide | (simp <;> omega))
    replace hc := hc.st hs (by first | decide | (simp <;> omega))
    replace hg := hg.st hs (by first | decide | (simp <;> omega))
    refine cS (by kernel_rfl : opAt F5.o6 3 = some (some 32, .call { callee := .value (.func 18), args := #[(.tmp 29), (.tmp 31)], argTypes := #[29, 43] }, none)) rfl rfl (ent Try.call18 rfl) (align_ok hF hg hes (hD.ok (by decide)) (by omega)) ?_
    rintro vw8 w8 ⟨ua, rfl, hs, ha⟩
    refine ⟨trivial, ?_⟩
    replace hF := hF.st hs
    replace hT := hT.trans hs (by simp)
    replace hl := hl.st hs (by first | decide | (simp <;> omega))
    replace hd := hd.st hs (by first | decide | (simp <;> omega)) (by first | decide | (simp <;> omega))
    replace hc := hc.st hs (by first | decide | (simp <;> omega))
    replace hg := hg.st hs (by first | decide | (simp <;> omega))
    replace hes := hes.st hs (by first | decide | (simp <;> omega))
    have hszl := sizesS_len gs
    have hall : (alignS (sizesS gs) es).length ≤ (sizesS gs).length := alignK_len
    have hasc : (alignS (sizesS gs) es).Pairwise fun g h => g.grp < h.grp := alignK_sorted
    have hin : ∀ g ∈ alignS (sizesS gs) es, 0 ≤ g.grp ∧ g.grp < gs.length := fun g hg => by
      obtain ⟨q, hq, e, _⟩ := align_sing hg
      rw [e]; omega
    have hun := fun (g k : Gss) (h1 : g ∈ alignS (sizesS gs) es) (h2 : k ∈ alignS (sizesS gs) es) (e : g.val = k.val) => align_uniq (hD.uniq (by decide)) h1 h2 e
    have hhit : ∀ ns : List ByteArray, 0 ≤ hitsS gs ns (alignS (sizesS gs) es) ∧ hitsS gs ns (alignS (sizesS gs) es) ≤ sngS (sizesS gs) (sizesS gs).length := fun ns => hits_align (gs := gs) (ns := ns) (u := valsS es es.length) (sizesS gs).length (by omega)
    obtain ⟨al, hal⟩ : ∃ al, al = alignS (sizesS gs) es := ⟨_, rfl⟩
    rw [← hal] at ha hall hasc hin hun
    simp only [← hal] at hhit
    clear hal
    refine yS (by kernel_rfl : opAt F5.o6 4 = some (some 28, .move (.tmp 32), none)) rfl rfl (fun w' hS => val_move rfl) ?_
    refine yS (by kernel_rfl : opAt F5.o6 5 = some (some 33, .extract (.tmp 28) 0, none)) rfl rfl (fun w' hS => val_extract rfl rfl) ?_
    refine yS (by kernel_rfl : opAt F5.o6 6 = some (some 34, .extract (.tmp 28) 1, none)) rfl rfl (fun w' hS => val_extract rfl rfl) ?_
    refine yS (by kernel_rfl : opAt F5.o6 7 = some (some 6, .assign (.tmp 33), none)) rfl rfl (fun w' hS => val_assign rfl) ?_
    refine yS (by kernel_rfl : opAt F5.o6 8 = some (some 7, .assign (.tmp 34), none)) rfl rfl (fun w' hS => val_assign rfl) ?_
    refine Sch.nil ?_
    refine run_seq (x := F5.c19) (y := F5.c20) (by kernel_rfl) ?_
    refine run_plain (id := 7) (ops := F5.o7) [(0, true), (1, true), (2, false), (3, true)] (by kernel_rfl) (by kernel_rfl) ?_
    refine yS (by kernel_rfl : opAt F5.o7 0 = some (some 35, .move (.tmp 4), none)) rfl rfl (fun w' hS => val_move rfl) ?_
    refine yS (by kernel_rfl : opAt F5.o7 1 = some (some 36, .call { callee := .builtin .len, args := #[(.tmp 35)], argTypes := #[27] }, none)) rfl rfl (fun w' hS => hc.lenV rfl Try.underlying27 w' ) ?_
    have hle := hc.le
    refine aS (by kernel_rfl : opAt F5.o7 2 = some (some 37, .makeSlice 51 (.tmp 36) (.tmp 36), none)) rfl rfl (a_make (e := 9) (bytes := 16) (x0 := (⟨#[]⟩ : ByteArray)) (zs := [.string ⟨#[]⟩]) hF (j := 4) (by decide) (by kernel_rfl) (by kernel_rfl) rfl rfl (by omega) (by omega) (by omega) (fun h M => ⟨rfl, by decide⟩)) ?_
    rintro v37 w9 ⟨Cw9, hs, hn, hF⟩
    refine ⟨trivial, ?_⟩
    replace hT := hT.trans hs (by simp)
    replace hl := hl.st hs (by first | decide | (simp <;> omega))
    replace hd := hd.st hs (by first | decide | (simp <;> omega)) (by first | decide | (simp <;> omega))
    replace hc := hc.st hs (by first | decide | (simp <;> omega))
    replace hg := hg.st hs (by first | decide | (simp <;> omega))
    replace hes := hes.st hs (by first | decide | (simp <;> omega))
    replace ha := ha.st hs (by first | decide | (simp <;> omega))
    try simp only [Int.toNat_natCast] at hn
    refine yS (by kernel_rfl : opAt F5.o7 3 = some (some 8, .assign (.tmp 37), none)) rfl rfl (fun w' hS => val_assign rfl) ?_
    refine Sch.nil ?_
    refine run_seq (x := F5.c21) (y := F5.c37) (by kernel_rfl) ?_
    refine run_seq (x := F5.c22) (y := F5.c23) (by kernel_rfl) ?_
    refine run_plain (id := 8) (ops := F5.o8) [(0, true), (1, true), (2, true)] (by kernel_rfl) (by kernel_rfl) ?_
    refine yS (by kernel_rfl : opAt F5.o8 0 = some (some 38, .move (.tmp 8), none)) rfl rfl (fun w' hS => val_move rfl) ?_
    refine yS (by kernel_rfl : opAt F5.o8 1 = some (some 39, .call { callee := .builtin .len, args := #[(.tmp 38)], argTypes := #[51] }, none)) rfl rfl (fun w' hS => hn.lenV rfl Try.underlying51 w' ) ?_
    refine yS (by kernel_rfl : opAt F5.o8 2 = some (some 40, .move (.const (.int .i64 0)), none)) rfl rfl (fun w' hS => val_move rfl) ?_
    refine Sch.nil ?_
    refine run_block (x := F5.c24) (id := 0) (by kernel_rfl) ?_
    
    refine run_loop (ι := Nat × (List ByteArray) × (Nat → Nat)) (I := fun x w => x.1 ≤ cl.length ∧ x.2.1.length = cl.length ∧ Lim w x.2.2 ∧ Stp [2, 3, 4, 5, 6, 7, 8, 9] w₀ (col1 C) w x.2.2 ∧ DeckIs w x.2.2 3 bd ∧ RV w (Mc x.2.2) gs vgs ∧ RV w (Mc x.2.2) al ua ∧ OwnL w x.2.2 4 9 v37 x.2.1) (e := fun x => [(3, .pointer (some ⟨bd, 0, none⟩)), (5, vgs), (6, ua), (7, .int .i64 0), (8, v37), (39, .int .i64 cl.length), (40, .int .i64 x.1)]) (m := fun x => cl.length - x.1) (x₀ := (0, List.replicate cl.length ⟨#[]⟩, Cw9)) (body := F5.c25) (by kernel_rfl) (sub_cons 3 rfl rfl (sub_cons 5 rfl rfl (sub_cons 6 rfl rfl (sub_cons 7 rfl rfl (sub_cons 8 rfl rfl (sub_cons 39 rfl (eq_int (by simp)) (sub_cons 40 rfl rfl (sub_nil _)))))))) ?_ ?_
    · exact ⟨Nat.zero_le _, List.length_replicate, hF, hT, hd, hg, ha, hn⟩
    intro ⟨k, nl, C1⟩ w10 hI next
    obtain ⟨hk, hnl, hF, hT, hd, hg, ha, hn⟩ := hI
    try simp only at hk hnl hF hT hd hg ha hn
    have next1 := next
    clear next
    show Run _ _ _ _ [(3, .pointer (some ⟨bd, 0, none⟩)), (5, vgs), (6, ua), (7, .int .i64 0), (8, v37), (39, .int .i64 cl.length), (40, .int .i64 k)] _ _
    refine run_seq (x := F5.c26) (y := F5.c27) (by kernel_rfl) ?_
    refine run_plain (id := 9) (ops := F5.o9) [(0, true)] (by kernel_rfl) (by kernel_rfl) ?_
    refine yS (by kernel_rfl : opAt F5.o9 0 = some (some 41, .binOp .lss 3 (.tmp 40) (.tmp 39) 3, none)) rfl rfl (fun w' hS => val_lss rfl rfl) ?_
    refine Sch.nil ?_
    refine run_seq (x := F5.c28) (y := F5.c31) (by kernel_rfl) ?_
    refine run_if (x := F5.c29) (y := F5.c30) (o := .tmp 41) (by kernel_rfl) rfl (fun h41 => ?_) (fun h41 => ?_)
    · skip
      have hkl : k < cl.length := by omega
      refine run_skip (by kernel_rfl) ?_
      refine run_seq (x := F5.c32) (y := F5.c36) (by kernel_rfl) ?_
      refine run_block (x := F5.c33) (id := 1) (by kernel_rfl) ?_
      refine run_seq (x := F5.c34) (y := F5.c35) (by kernel_rfl) ?_
      refine run_plain (id := 10) (ops := F5.o10) [(0, true), (1, true)] (by kernel_rfl) (by kernel_rfl) ?_
      refine yS (by kernel_rfl : opAt F5.o10 0 = some (some 42, .move (.tmp 40), none)) rfl rfl (fun w' hS => val_move rfl) ?_
      refine yS (by kernel_rfl : opAt F5.o10 1 = some (some 9, .assign (.tmp 42), none)) rfl rfl (fun w' hS => val_assign rfl) ?_
      refine Sch.nil ?_
      refine run_plain (id := 11) (ops := F5.o11) [(0, true), (1, true), (2, true), (3, false), (4, false), (5, true), (6, false)] (by kernel_rfl) (by kernel_rfl) ?_
      refine yS (by kernel_rfl : opAt F5.o11 0 = some (some 43, .move (.tmp 8), none)) rfl rfl (fun w' hS => val_move rfl) ?_
      refine yS (by kernel_rfl : opAt F5.o11 1 = some (some 44, .move (.tmp 9), none)) rfl rfl (fun w' hS => val_move rfl) ?_
      refine yS (by kernel_rfl : opAt F5.o11 2 = some (some 45, .move (.tmp 3), none)) rfl rfl (fun w' hS => val_move rfl) ?_
      refine aS (by kernel_rfl : opAt F5.o11 3 = some (some 46, .buildSlice 51 4 #[(0, (.const (.string ⟨#[97, 110, 110, 32, 109, 105, 108, 108, 101, 114]⟩))), (1, (.const (.string ⟨#[111, 110, 101, 105, 108, 108]⟩))), (2, (.const (.string ⟨#[112, 101, 116, 101, 114]⟩))), (3, (.const (.string ⟨#[114, 117, 116, 104]⟩)))], none)) rfl rfl (a_buildSlice (ys := ([nmD 0, nmD 1, nmD 2, nmD 5] : List ByteArray)) (e := 9) (bytes := 16) hF (by kernel_rfl) rfl (by decide) (by decide) ⟨rfl, ⟨_, rfl, rv_str.2 ⟨rfl, by decide⟩⟩, rfl, ⟨_, rfl, rv_str.2 ⟨rfl, by decide⟩⟩, rfl, ⟨_, rfl, rv_str.2 ⟨rfl, by decide⟩⟩, rfl, ⟨_, rfl, rv_str.2 ⟨rfl, by decide⟩⟩, trivial⟩) ?_
      rintro v46 w11 ⟨hs, g46, hF⟩
      refine ⟨trivial, ?_⟩
      replace hT := hT.trans hs (by simp)
      replace hd := hd.st hs (by first | decide | (simp <;> omega)) (by first | decide | (simp <;> omega))
      replace hg := hg.st hs (by first | decide | (simp <;> omega))
      replace ha := ha.st hs (by first | decide | (simp <;> omega))
      replace hn := hn.st hs (by first | decide | (simp <;> omega)) (by first | decide | (simp <;> omega))
      refine cS (by kernel_rfl : opAt F5.o11 4 = some (some 47, .call { callee := .value (.func 23), args := #[(.tmp 45), (.tmp 46)], argTypes := #[25, 51] }, none)) rfl rfl (ent Try.call23 rfl) (pick_any hF (by decide) hd g46 (by simp)) ?_
      rintro vw12 w12 ⟨s, rfl, hss, hs, hd⟩
      refine ⟨trivial, ?_⟩
      replace hF := hF.st hs
      replace hT := hT.trans hs (by simp)
      replace hg := hg.st hs (by first | decide | (simp <;> omega))
      replace ha := ha.st hs (by first | decide | (simp <;> omega))
      replace hn := hn.st hs (by first | decide | (simp <;> omega)) (by first | decide | (simp <;> omega))
      replace g46 := g46.st hs (by first | decide | (simp <;> omega))
      refine oI (e' := 9) (by kernel_rfl : opAt F5.o11 5 = some (some 48, .indexAddr 51 (.tmp 43) (.tmp 44), none)) rfl rfl hn rfl (by kernel_rfl) rfl (by omega) (by omega) ?_
      intro g48 hg48
      try simp only [Int.toNat_natCast]
      refine aN (by kernel_rfl : opAt F5.o11 6 = some (none, .store 9 (.tmp 48) (.tmp 47), none)) rfl (a_storeO hn hg48 (by omega) rfl rfl (by kernel_rfl) (x0 := s) (rv_str.2 ⟨rfl, hss⟩)) ?_
      rintro _ w13 ⟨rfl, hs, hn⟩
      refine ⟨trivial, ?_⟩
      replace hF := hF.st hs
      replace hT := hT.trans hs (by simp)
      replace hd := hd.st hs (by first | decide | (simp <;> omega)) (by first | decide | (simp <;> omega))
      replace hg := hg.st hs (by first | decide | (simp <;> omega))
      replace ha := ha.st hs (by first | decide | (simp <;> omega))
      replace g46 := g46.st hs (by first | decide | (simp <;> omega))
      refine Sch.nil ?_
      refine run_inBlock ?_
      refine run_plain (id := 12) (ops := F5.o12) [(0, true), (1, true)] (by kernel_rfl) (by kernel_rfl) ?_
      refine yS (by kernel_rfl : opAt F5.o12 0 = some (some 49, .binOp .add 3 (.tmp 40) (.const (.int .i64 1)) 3, none)) rfl rfl (fun w' hS => val_addi rfl rfl (by omega) (by omega)) ?_
      refine yS (by kernel_rfl : opAt F5.o12 1 = some (some 40, .move (.tmp 49), none)) rfl rfl (fun w' hS => val_move rfl) ?_
      refine Sch.nil ?_
      refine kp (sub_cons 3 rfl rfl (sub_cons 5 rfl rfl (sub_cons 6 rfl rfl (sub_cons 7 rfl rfl (sub_cons 8 rfl rfl (sub_cons 39 rfl rfl (sub_cons 40 rfl (eq_int (by simp)) (sub_nil _)))))))) (next1 (k + 1, nl.set k s, C1) _ ⟨(by first | omega | (simp only; omega)), (by simp only [List.length_set]; exact hnl), hF, hT, hd, hg, ha, hn⟩ (by first | omega | (simp only; omega)))
    · skip
      replace hF := hF.frz 4
      replace hT := hT.frz (n := 4) (fun b => Nat.lt_of_lt_of_le (col1_lt2 C b) (by decide))
      replace hd := hd.frz (n := 4) (by decide)
      replace hg := hg.frz 4
      replace ha := ha.frz 4
      have hnr_ := hn.frz (n := 4) (by decide) (by omega)
      clear hn
      have hnr := hnr_
      clear hnr_
      refine run_exit (id := 0) (by kernel_rfl) rfl ?_
      refine run_seq (x := F5.c38) (y := F5.c39) (by kernel_rfl) ?_
      refine run_plain (id := 13) (ops := F5.o13) [(0, true), (1, true), (2, true), (3, false), (4, true), (5, true), (6, true), (7, true), (8, true)] (by kernel_rfl) (by kernel_rfl) ?_
      refine yS (by kernel_rfl : opAt F5.o13 0 = some (some 51, .move (.tmp 5), none)) rfl rfl (fun w' hS => val_move rfl) ?_
      refine yS (by kernel_rfl : opAt F5.o13 1 = some (some 52, .move (.tmp 6), none)) rfl rfl (fun w' hS => val_move rfl) ?_
      refine yS (by kernel_rfl : opAt F5.o13 2 = some (some 53, .move (.tmp 8), none)) rfl rfl (fun w' hS => val_move rfl) ?_
      refine cS (by kernel_rfl : opAt F5.o13 3 = some (some 54, .call { callee := .value (.func 24), args := #[(.tmp 51), (.tmp 52), (.tmp 53)], argTypes := #[29, 45, 51] }, none)) rfl rfl (ent Try.call24 rfl) (hits_ok hF hg ha hnr (by omega) hin hmb (fun g hg m hm => by rw [hnl]; exact hmm g hg m hm)) ?_
      rintro vw14 w14 ⟨rfl, hs⟩
      refine ⟨trivial, ?_⟩
      replace hF := hF.st hs
      replace hT := hT.trans hs (by simp)
      replace hd := hd.st hs (by first | decide | (simp <;> omega)) (by first | decide | (simp <;> omega))
      replace hg := hg.st hs (by first | decide | (simp <;> omega))
      replace ha := ha.st hs (by first | decide | (simp <;> omega))
      replace hnr := hnr.st hs (by first | decide | (simp <;> omega))
      have hh := hhit nl
      refine yS (by kernel_rfl : opAt F5.o13 4 = some (some 50, .move (.tmp 54), none)) rfl rfl (fun w' hS => val_move rfl) ?_
      refine yS (by kernel_rfl : opAt F5.o13 5 = some (some 55, .extract (.tmp 50) 0, none)) rfl rfl (fun w' hS => val_extract rfl rfl) ?_
      refine yS (by kernel_rfl : opAt F5.o13 6 = some (some 56, .extract (.tmp 50) 1, none)) rfl rfl (fun w' hS => val_extract rfl rfl) ?_
      refine yS (by kernel_rfl : opAt F5.o13 7 = some (some 10, .assign (.tmp 55), none)) rfl rfl (fun w' hS => val_assign rfl) ?_
      refine yS (by kernel_rfl : opAt F5.o13 8 = some (some 11, .assign (.tmp 56), none)) rfl rfl (fun w' hS => val_assign rfl) ?_
      refine Sch.nil ?_
      refine run_seq (x := F5.c40) (y := F5.c47) (by kernel_rfl) ?_
      refine run_seq (x := F5.c41) (y := F5.c42) (by kernel_rfl) ?_
      refine run_plain (id := 14) (ops := F5.o14) [(0, true), (1, true), (2, true), (3, true), (4, true), (5, true), (6, true), (7, true), (8, true), (9, true), (10, true), (11, true), (12, true), (13, false), (14, true), (15, true)] (by kernel_rfl) (by kernel_rfl) ?_
      refine yS (by kernel_rfl : opAt F5.o14 0 = some (some 57, .move (.tmp 7), none)) rfl rfl (fun w' hS => val_move rfl) ?_
      refine yS (by kernel_rfl : opAt F5.o14 1 = some (some 58, .binOp .neq 40 (.tmp 57) (.const (.int .i64 0)) 40, none)) rfl rfl (fun w' hS => val_F (val_neq rfl rfl) (fun e => e rfl)) ?_
      refine yS (by kernel_rfl : opAt F5.o14 2 = some (some 59, .move (.tmp 58), none)) rfl rfl (fun w' hS => val_move rfl) ?_
      refine yS (by kernel_rfl : opAt F5.o14 3 = some (some 60, .move (.tmp 11), (some (2, false)))) rfl rfl (fun w' hS => val_move rfl) ?_
      refine yS (by kernel_rfl : opAt F5.o14 4 = some (some 61, .binOp .neq 40 (.tmp 60) (.const (.int .i64 0)) 40, (some (2, false)))) rfl rfl (fun w' hS => val_F (val_neq rfl rfl) (fun e => e rfl)) ?_
      refine yS (by kernel_rfl : opAt F5.o14 5 = some (some 62, .pick (.tmp 59) (.const (.bool true)) (.tmp 61), none)) rfl rfl (fun w' hS => val_pick_f rfl rfl) ?_
      refine yS (by kernel_rfl : opAt F5.o14 6 = some (some 63, .move (.tmp 62), none)) rfl rfl (fun w' hS => val_move rfl) ?_
      refine yS (by kernel_rfl : opAt F5.o14 7 = some (some 64, .move (.tmp 10), (some (6, false)))) rfl rfl (fun w' hS => val_move rfl) ?_
      refine yS (by kernel_rfl : opAt F5.o14 8 = some (some 65, .binOp .lss 3 (.tmp 64) (.const (.int .i64 0)) 3, (some (6, false)))) rfl rfl (fun w' hS => val_F (val_lss rfl rfl) (by omega)) ?_
      refine yS (by kernel_rfl : opAt F5.o14 9 = some (some 66, .pick (.tmp 63) (.const (.bool true)) (.tmp 65), none)) rfl rfl (fun w' hS => val_pick_f rfl rfl) ?_
      refine yS (by kernel_rfl : opAt F5.o14 10 = some (some 67, .move (.tmp 66), none)) rfl rfl (fun w' hS => val_move rfl) ?_
      refine yS (by kernel_rfl : opAt F5.o14 11 = some (some 68, .move (.tmp 10), (some (10, false)))) rfl rfl (fun w' hS => val_move rfl) ?_
      refine yS (by kernel_rfl : opAt F5.o14 12 = some (some 69, .move (.tmp 5), (some (10, false)))) rfl rfl (fun w' hS => val_move rfl) ?_
      refine cS (by kernel_rfl : opAt F5.o14 13 = some (some 70, .call { callee := .value (.func 20), args := #[(.tmp 69)], argTypes := #[29] }, (some (10, false)))) rfl rfl (ent Try.call20 rfl) (singular_ok hF hg (by omega) (fun g hg => Nat.le_trans (hmb g hg) (by decide))) ?_
      rintro vw15 w15 ⟨rfl, hs⟩
      refine ⟨trivial, ?_⟩
      replace hF := hF.st hs
      replace hT := hT.trans hs (by simp)
      replace hd := hd.st hs (by first | decide | (simp <;> omega)) (by first | decide | (simp <;> omega))
      replace hg := hg.st hs (by first | decide | (simp <;> omega))
      replace ha := ha.st hs (by first | decide | (simp <;> omega))
      replace hnr := hnr.st hs (by first | decide | (simp <;> omega))
      refine yS (by kernel_rfl : opAt F5.o14 14 = some (some 71, .binOp .gtr 3 (.tmp 68) (.tmp 70) 3, (some (10, false)))) rfl rfl (fun w' hS => val_F (val_gtr rfl rfl) (by omega)) ?_
      refine yS (by kernel_rfl : opAt F5.o14 15 = some (some 72, .pick (.tmp 67) (.const (.bool true)) (.tmp 71), none)) rfl rfl (fun w' hS => val_pick_f rfl rfl) ?_
      refine Sch.nil ?_
      refine run_cond (x := F5.c43) (y := F5.c46) (o := .tmp 72) (b := false) (by kernel_rfl) rfl (fun h => by cases h) (fun _ => ?_)
      refine run_skip (by kernel_rfl) ?_
      refine run_seq (x := F5.c48) (y := F5.c83) (by kernel_rfl) ?_
      refine run_seq (x := F5.c49) (y := F5.c50) (by kernel_rfl) ?_
      refine run_plain (id := 16) (ops := F5.o16) [(0, true), (1, true), (2, true)] (by kernel_rfl) (by kernel_rfl) ?_
      refine yS (by kernel_rfl : opAt F5.o16 0 = some (some 73, .move (.tmp 6), none)) rfl rfl (fun w' hS => val_move rfl) ?_
      refine yS (by kernel_rfl : opAt F5.o16 1 = some (some 74, .call { callee := .builtin .len, args := #[(.tmp 73)], argTypes := #[45] }, none)) rfl rfl (fun w' hS => ha.lenV rfl Try.underlying45 w' ) ?_
      refine yS (by kernel_rfl : opAt F5.o16 2 = some (some 75, .move (.const (.int .i64 0)), none)) rfl rfl (fun w' hS => val_move rfl) ?_
      refine Sch.nil ?_
      refine run_block (x := F5.c51) (id := 2) (by kernel_rfl) ?_
      
      refine run_loop (ι := Nat × (Nat → Nat)) (I := fun x w => x.1 ≤ al.length ∧ Lim w x.2 ∧ Stp [2, 3, 4, 5, 6, 7, 8, 9] w₀ (col1 C) w x.2 ∧ RV w (Mc x.2) al ua) (e := fun x => [(6, ua), (74, .int .i64 al.length), (75, .int .i64 x.1)]) (m := fun x => al.length - x.1) (x₀ := (0, K.frz 4 C1)) (body := F5.c52) (by kernel_rfl) (sub_cons 6 rfl rfl (sub_cons 74 rfl rfl (sub_cons 75 rfl rfl (sub_nil _)))) ?_ ?_
      · exact ⟨Nat.zero_le _, hF, hT, ha⟩
      intro ⟨i, C1⟩ w16 hI next
      obtain ⟨hi, hF, hT, ha⟩ := hI
      try simp only at hi hF hT ha
      have next2 := next
      clear next
      show Run _ _ _ _ [(6, ua), (74, .int .i64 al.length), (75, .int .i64 i)] _ _
      refine run_seq (x := F5.c53) (y := F5.c54) (by kernel_rfl) ?_
      refine run_plain (id := 17) (ops := F5.o17) [(0, true)] (by kernel_rfl) (by kernel_rfl) ?_
      refine yS (by kernel_rfl : opAt F5.o17 0 = some (some 76, .binOp .lss 3 (.tmp 75) (.tmp 74) 3, none)) rfl rfl (fun w' hS => val_lss rfl rfl) ?_
      refine Sch.nil ?_
      refine run_seq (x := F5.c55) (y := F5.c58) (by kernel_rfl) ?_
      refine run_if (x := F5.c56) (y := F5.c57) (o := .tmp 76) (by kernel_rfl) rfl (fun h76 => ?_) (fun h76 => ?_)
      · skip
        have hil : i < al.length := by omega
        refine run_skip (by kernel_rfl) ?_
        refine run_seq (x := F5.c59) (y := F5.c82) (by kernel_rfl) ?_
        refine run_block (x := F5.c60) (id := 3) (by kernel_rfl) ?_
        refine run_seq (x := F5.c61) (y := F5.c62) (by kernel_rfl) ?_
        refine run_plain (id := 18) (ops := F5.o18) [(0, true), (1, true)] (by kernel_rfl) (by kernel_rfl) ?_
        refine yS (by kernel_rfl : opAt F5.o18 0 = some (some 77, .move (.tmp 75), none)) rfl rfl (fun w' hS => val_move rfl) ?_
        refine yS (by kernel_rfl : opAt F5.o18 1 = some (some 12, .assign (.tmp 77), none)) rfl rfl (fun w' hS => val_assign rfl) ?_
        refine Sch.nil ?_
        refine run_seq (x := F5.c63) (y := F5.c64) (by kernel_rfl) ?_
        refine run_plain (id := 19) (ops := F5.o19) [(0, true)] (by kernel_rfl) (by kernel_rfl) ?_
        refine yS (by kernel_rfl : opAt F5.o19 0 = some (some 13, .assign (.const (.int .i64 0)), none)) rfl rfl (fun w' hS => val_assign rfl) ?_
        refine Sch.nil ?_
        refine run_block (x := F5.c65) (id := 4) (by kernel_rfl) ?_
        
        refine run_loop (ι := Nat × (Nat → Nat)) (I := fun x w => x.1 ≤ i ∧ Lim w x.2 ∧ Stp [2, 3, 4, 5, 6, 7, 8, 9] w₀ (col1 C) w x.2 ∧ RV w (Mc x.2) al ua) (e := fun x => [(6, ua), (12, .int .i64 i), (13, .int .i64 x.1), (74, .int .i64 al.length), (75, .int .i64 i)]) (m := fun x => i - x.1) (x₀ := (0, C1)) (body := F5.c66) (by kernel_rfl) (sub_cons 6 rfl rfl (sub_cons 12 rfl rfl (sub_cons 13 rfl rfl (sub_cons 74 rfl rfl (sub_cons 75 rfl rfl (sub_nil _)))))) ?_ ?_
        · exact ⟨Nat.zero_le _, hF, hT, ha⟩
        intro ⟨j, C1⟩ w17 hI next
        obtain ⟨hj, hF, hT, ha⟩ := hI
        try simp only at hj hF hT ha
        have next3 := next
        clear next
        show Run _ _ _ _ [(6, ua), (12, .int .i64 i), (13, .int .i64 j), (74, .int .i64 al.length), (75, .int .i64 i)] _ _
        refine run_seq (x := F5.c67) (y := F5.c72) (by kernel_rfl) ?_
        refine run_seq (x := F5.c68) (y := F5.c69) (by kernel_rfl) ?_
        refine run_plain (id := 20) (ops := F5.o20) [(0, true), (1, true), (2, true)] (by kernel_rfl) (by kernel_rfl) ?_
        refine yS (by kernel_rfl : opAt F5.o20 0 = some (some 78, .move (.tmp 13), none)) rfl rfl (fun w' hS => val_move rfl) ?_
        refine yS (by kernel_rfl : opAt F5.o20 1 = some (some 79, .move (.tmp 12), none)) rfl rfl (fun w' hS => val_move rfl) ?_
        refine yS (by kernel_rfl : opAt F5.o20 2 = some (some 80, .binOp .lss 3 (.tmp 78) (.tmp 79) 3, none)) rfl rfl (fun w' hS => val_lss rfl rfl) ?_
        refine Sch.nil ?_
        refine run_if (x := F5.c70) (y := F5.c71) (o := .tmp 80) (by kernel_rfl) rfl (fun h80 => ?_) (fun h80 => ?_)
        · skip
          have hjl : j < i := by omega
          have hlt := List.pairwise_iff_getElem.1 hasc j i (by omega) hil hjl
          have hne : ¬ al[i].val = al[j].val := fun e => by
            have := hun _ _ (List.getElem_mem hil) (List.getElem_mem (show j < al.length by omega)) e
            omega
          refine run_skip (by kernel_rfl) ?_
          refine run_seq (x := F5.c73) (y := F5.c81) (by kernel_rfl) ?_
          refine run_block (x := F5.c74) (id := 5) (by kernel_rfl) ?_
          refine run_seq (x := F5.c75) (y := F5.c76) (by kernel_rfl) ?_
          refine run_draw (id := 22) (ops := F5.o22) [] (C1) [(0, true), (1, true), (2, true), (3, true), (4, true), (5, true), (6, true), (7, true), (8, true), (9, true), (10, true), (11, true), (12, true), (13, true), (14, true), (15, true), (16, true), (17, true), (18, true), (19, true), (20, true), (21, true), (22, true), (23, true)] Try_mixed (by kernel_rfl) (by kernel_rfl) (by kernel_rfl) ?_
          intro w18 hs
          replace hF := hF.st hs
          replace hT := hT.trans hs (by simp)
          replace ha := ha.st hs (by first | decide | (simp <;> omega))
          refine yS (by kernel_rfl : opAt F5.o22 0 = some (some 83, .move (.tmp 6), none)) rfl rfl (fun w' hS => val_move rfl) ?_
          refine yS (by kernel_rfl : opAt F5.o22 1 = some (some 84, .move (.tmp 12), none)) rfl rfl (fun w' hS => val_move rfl) ?_
          refine iS (e := 56) (by kernel_rfl : opAt F5.o22 2 = some (some 85, .indexAddr 45 (.tmp 83) (.tmp 84), none)) rfl rfl ha rfl (by kernel_rfl) rfl (by omega) (by omega) ?_
          intro b85 o85 h85
          try simp only [Int.toNat_natCast] at h85
          have h86 := RA.gssg h85
          refine yS (by kernel_rfl : opAt F5.o22 3 = some (some 86, .fieldAddr 56 (.tmp 85) 0, none)) rfl rfl (fun w' hS => val_fieldAddr (off := 0) (by kernel_rfl) rfl) ?_
          refine lS (by kernel_rfl : opAt F5.o22 4 = some (some 87, .load 3 (.tmp 86), none)) rfl rfl (fun w' hS => h86.stay hS (by first | decide | (simp <;> omega))) h86 (by kernel_rfl) rfl rfl ?_
          intro v87 g87
          first | (obtain rfl := rv_nat.1 g87) | (obtain rfl := rv_int.1 g87)
          refine yS (by kernel_rfl : opAt F5.o22 5 = some (some 88, .move (.tmp 6), none)) rfl rfl (fun w' hS => val_move rfl) ?_
          refine yS (by kernel_rfl : opAt F5.o22 6 = some (some 89, .move (.tmp 13), none)) rfl rfl (fun w' hS => val_move rfl) ?_
          refine iS (e := 56) (by kernel_rfl : opAt F5.o22 7 = some (some 90, .indexAddr 45 (.tmp 88) (.tmp 89), none)) rfl rfl ha rfl (by kernel_rfl) rfl (by omega) (by omega) ?_
          intro b90 o90 h90
          try simp only [Int.toNat_natCast] at h90
          have h91 := RA.gssg h90
          refine yS (by kernel_rfl : opAt F5.o22 8 = some (some 91, .fieldAddr 56 (.tmp 90) 0, none)) rfl rfl (fun w' hS => val_fieldAddr (off := 0) (by kernel_rfl) rfl) ?_
          refine lS (by kernel_rfl : opAt F5.o22 9 = some (some 92, .load 3 (.tmp 91), none)) rfl rfl (fun w' hS => h91.stay hS (by first | decide | (simp <;> omega))) h91 (by kernel_rfl) rfl rfl ?_
          intro v92 g92
          first | (obtain rfl := rv_nat.1 g92) | (obtain rfl := rv_int.1 g92)
          refine yS (by kernel_rfl : opAt F5.o22 10 = some (some 93, .binOp .leq 3 (.tmp 87) (.tmp 92) 3, none)) rfl rfl (fun w' hS => val_F (val_leq rfl rfl) (by omega)) ?_
          refine yS (by kernel_rfl : opAt F5.o22 11 = some (some 94, .move (.tmp 93), none)) rfl rfl (fun w' hS => val_move rfl) ?_
          refine yS (by kernel_rfl : opAt F5.o22 12 = some (some 95, .move (.tmp 6), (some (11, false)))) rfl rfl (fun w' hS => val_move rfl) ?_
          refine yS (by kernel_rfl : opAt F5.o22 13 = some (some 96, .move (.tmp 12), (some (11, false)))) rfl rfl (fun w' hS => val_move rfl) ?_
          refine iS (e := 56) (by kernel_rfl : opAt F5.o22 14 = some (some 97, .indexAddr 45 (.tmp 95) (.tmp 96), (some (11, false)))) rfl rfl ha rfl (by kernel_rfl) rfl (by omega) (by omega) ?_
          intro b97 o97 h97
          try simp only [Int.toNat_natCast] at h97
          have h98 := RA.gssv h97
          refine yS (by kernel_rfl : opAt F5.o22 15 = some (some 98, .fieldAddr 56 (.tmp 97) 1, (some (11, false)))) rfl rfl (fun w' hS => val_fieldAddr (off := 1) (by kernel_rfl) rfl) ?_
          refine lS (by kernel_rfl : opAt F5.o22 16 = some (some 99, .load 9 (.tmp 98), (some (11, false)))) rfl rfl (fun w' hS => h98.stay hS (by first | decide | (simp <;> omega))) h98 (by kernel_rfl) rfl rfl ?_
          intro v99 g99
          obtain ⟨rfl, _⟩ := rv_str.1 g99
          refine yS (by kernel_rfl : opAt F5.o22 17 = some (some 100, .move (.tmp 6), (some (11, false)))) rfl rfl (fun w' hS => val_move rfl) ?_
          refine yS (by kernel_rfl : opAt F5.o22 18 = some (some 101, .move (.tmp 13), (some (11, false)))) rfl rfl (fun w' hS => val_move rfl) ?_
          refine iS (e := 56) (by kernel_rfl : opAt F5.o22 19 = some (some 102, .indexAddr 45 (.tmp 100) (.tmp 101), (some (11, false)))) rfl rfl ha rfl (by kernel_rfl) rfl (by omega) (by omega) ?_
          intro b102 o102 h102
          try simp only [Int.toNat_natCast] at h102
          have h103 := RA.gssv h102
          refine yS (by kernel_rfl : opAt F5.o22 20 = some (some 103, .fieldAddr 56 (.tmp 102) 1, (some (11, false)))) rfl rfl (fun w' hS => val_fieldAddr (off := 1) (by kernel_rfl) rfl) ?_
          refine lS (by kernel_rfl : opAt F5.o22 21 = some (some 104, .load 9 (.tmp 103), (some (11, false)))) rfl rfl (fun w' hS => h103.stay hS (by first | decide | (simp <;> omega))) h103 (by kernel_rfl) rfl rfl ?_
          intro v104 g104
          obtain ⟨rfl, _⟩ := rv_str.1 g104
          refine yS (by kernel_rfl : opAt F5.o22 22 = some (some 105, .binOp .eql 9 (.tmp 99) (.tmp 104) 9, (some (11, false)))) rfl rfl (fun w' hS => val_F (val_strEql rfl rfl Try.underlying9) hne) ?_
          refine yS (by kernel_rfl : opAt F5.o22 23 = some (some 106, .pick (.tmp 94) (.const (.bool true)) (.tmp 105), none)) rfl rfl (fun w' hS => val_pick_f rfl rfl) ?_
          refine Sch.nil ?_
          refine run_cond (x := F5.c77) (y := F5.c80) (o := .tmp 106) (b := false) (by kernel_rfl) rfl (fun h => by cases h) (fun _ => ?_)
          refine run_skip (by kernel_rfl) ?_
          refine run_inBlock ?_
          refine run_plain (id := 21) (ops := F5.o21) [(0, true), (1, true), (2, true)] (by kernel_rfl) (by kernel_rfl) ?_
          refine yS (by kernel_rfl : opAt F5.o21 0 = some (some 81, .move (.tmp 13), none)) rfl rfl (fun w' hS => val_move rfl) ?_
          refine yS (by kernel_rfl : opAt F5.o21 1 = some (some 82, .binOp .add 3 (.tmp 81) (.const (.int .i64 1)) 3, none)) rfl rfl (fun w' hS => val_addi rfl rfl (by omega) (by omega)) ?_
          refine yS (by kernel_rfl : opAt F5.o21 2 = some (some 13, .assign (.tmp 82), none)) rfl rfl (fun w' hS => val_assign rfl) ?_
          refine Sch.nil ?_
          refine kp (sub_cons 6 rfl rfl (sub_cons 12 rfl rfl (sub_cons 13 rfl (eq_int (by simp)) (sub_cons 74 rfl rfl (sub_cons 75 rfl rfl (sub_nil _)))))) (next3 (j + 1, C1) _ ⟨(by first | omega | (simp only; omega)), hF, hT, ha⟩ (by first | omega | (simp only; omega)))
        · skip
          have hjl : j = i := by omega
          refine run_exit (id := 4) (by kernel_rfl) rfl ?_
          refine run_inBlock ?_
          refine run_plain (id := 24) (ops := F5.o24) [(0, true), (1, true)] (by kernel_rfl) (by kernel_rfl) ?_
          refine yS (by kernel_rfl : opAt F5.o24 0 = some (some 107, .binOp .add 3 (.tmp 75) (.const (.int .i64 1)) 3, none)) rfl rfl (fun w' hS => val_addi rfl rfl (by omega) (by omega)) ?_
          refine yS (by kernel_rfl : opAt F5.o24 1 = some (some 75, .move (.tmp 107), none)) rfl rfl (fun w' hS => val_move rfl) ?_
          refine Sch.nil ?_
          refine kp (sub_cons 6 rfl rfl (sub_cons 74 rfl rfl (sub_cons 75 rfl (eq_int (by simp)) (sub_nil _)))) (next2 (i + 1, C1) _ ⟨(by first | omega | (simp only; omega)), hF, hT, ha⟩ (by first | omega | (simp only; omega)))
      · skip
        refine run_exit (id := 2) (by kernel_rfl) rfl ?_
        refine run_seq (x := F5.c84) (y := F5.c85) (by kernel_rfl) ?_
        refine run_plain (id := 25) (ops := F5.o25) [(0, true)] (by kernel_rfl) (by kernel_rfl) ?_
        refine yS (by kernel_rfl : opAt F5.o25 0 = some (some 2, .assign (.const (.bool true)), none)) rfl rfl (fun w' hS => val_assign rfl) ?_
        refine Sch.nil ?_
        refine run_ret1 (by kernel_rfl) Try.func5 Try.results5 rfl ?_
        exact ⟨rfl, hT.out1 (by decide)⟩
namespace F5B
noncomputable def c0 : Code := bodyOf Try.f5
noncomputable def c1 : Code := cl c0
noncomputable def o0 : Array Oper := rops c1
noncomputable def c2 : Code := cr c0
noncomputable def c3 : Code := cl c2
noncomputable def c4 : Code := cl c3
noncomputable def o1 : Array Oper := rops c4
noncomputable def c5 : Code := cr c3
noncomputable def c6 : Code := cl c5
noncomputable def c7 : Code := cl c6
noncomputable def o2 : Array Oper := rops c7
noncomputable def c8 : Code := cr c6
noncomputable def c9 : Code := cr c5
noncomputable def c10 : Code := cr c2
noncomputable def c11 : Code := cl c10
noncomputable def o3 : Array Oper := rops c11
noncomputable def c12 : Code := cr c10
noncomputable def c13 : Code := cl c12
noncomputable def o4 : Array Oper := rops c13
noncomputable def c14 : Code := cr c12
noncomputable def c15 : Code := cl c14
noncomputable def o5 : Array Oper := rops c15
noncomputable def c16 : Code := cr c14
noncomputable def c17 : Code := cl c16
noncomputable def o6 : Array Oper := rops c17
noncomputable def c18 : Code := cr c16
noncomputable def c19 : Code := cl c18
noncomputable def o7 : Array Oper := rops c19
noncomputable def c20 : Code := cr c18
noncomputable def c21 : Code := cl c20
noncomputable def c22 : Code := cl c21
noncomputable def o8 : Array Oper := rops c22
noncomputable def c23 : Code := cr c21
noncomputable def c24 : Code := cl c23
noncomputable def c25 : Code := cl c24
noncomputable def c26 : Code := cl c25
noncomputable def o9 : Array Oper := rops c26
noncomputable def c27 : Code := cr c25
noncomputable def c28 : Code := cl c27
noncomputable def c29 : Code := cl c28
noncomputable def c30 : Code := cr c28
noncomputable def c31 : Code := cr c27
noncomputable def c32 : Code := cl c31
noncomputable def c33 : Code := cl c32
noncomputable def c34 : Code := cl c33
noncomputable def o10 : Array Oper := rops c34
noncomputable def c35 : Code := cr c33
noncomputable def o11 : Array Oper := rops c35
noncomputable def c36 : Code := cr c31
noncomputable def o12 : Array Oper := rops c36
noncomputable def c37 : Code := cr c20
noncomputable def c38 : Code := cl c37
noncomputable def o13 : Array Oper := rops c38
noncomputable def c39 : Code := cr c37
noncomputable def c40 : Code := cl c39
noncomputable def c41 : Code := cl c40
noncomputable def o14 : Array Oper := rops c41
noncomputable def c42 : Code := cr c40
noncomputable def c43 : Code := cl c42
noncomputable def c44 : Code := cl c43
noncomputable def o15 : Array Oper := rops c44
noncomputable def c45 : Code := cr c43
noncomputable def c46 : Code := cr c42
noncomputable def c47 : Code := cr c39
noncomputable def c48 : Code := cl c47
noncomputable def c49 : Code := cl c48
noncomputable def o16 : Array Oper := rops c49
noncomputable def c50 : Code := cr c48
noncomputable def c51 : Code := cl c50
noncomputable def c52 : Code := cl c51
noncomputable def c53 : Code := cl c52
noncomputable def o17 : Array Oper := rops c53
noncomputable def c54 : Code := cr c52
noncomputable def c55 : Code := cl c54
noncomputable def c56 : Code := cl c55
noncomputable def c57 : Code := cr c55
noncomputable def c58 : Code := cr c54
noncomputable def c59 : Code := cl c58
noncomputable def c60 : Code := cl c59
noncomputable def c61 : Code := cl c60
noncomputable def o18 : Array Oper := rops c61
noncomputable def c62 : Code := cr c60
noncomputable def c63 : Code := cl c62
noncomputable def o19 : Array Oper := rops c63
noncomputable def c64 : Code := cr c62
noncomputable def c65 : Code := cl c64
noncomputable def c66 : Code := cl c65
noncomputable def c67 : Code := cl c66
noncomputable def c68 : Code := cl c67
noncomputable def o20 : Array Oper := rops c68
noncomputable def c69 : Code := cr c67
noncomputable def c70 : Code := cl c69
noncomputable def c71 : Code := cr c69
noncomputable def c72 : Code := cr c66
noncomputable def c73 : Code := cl c72
noncomputable def c74 : Code := cl c73
noncomputable def c75 : Code := cl c74
noncomputable def o22 : Array Oper := rops c75
noncomputable def c76 : Code := cr c74
noncomputable def c77 : Code := cl c76
noncomputable def c78 : Code := cl c77
noncomputable def o23 : Array Oper := rops c78
noncomputable def c79 : Code := cr c77
noncomputable def c80 : Code := cr c76
noncomputable def c81 : Code := cr c72
noncomputable def o21 : Array Oper := rops c81
noncomputable def c82 : Code := cr c58
noncomputable def o24 : Array Oper := rops c82
noncomputable def c83 : Code := cr c47
noncomputable def c84 : Code := cl c83
noncomputable def o25 : Array Oper := rops c84
noncomputable def c85 : Code := cr c83
end F5B
/-- .. where more is handed than it looks at. -/
theorem onceLaw_big {w₀ : World} {C : Nat → Nat} {p : Option Addr} {n c : Nat} (hF : Lim w₀ C) (hn : 400 < n) : Calls Try.prog 5 #[.slice p n c] w₀ (Ret fun v w' => v = .bool true ∧ Stp [] w₀ C w' C) := by
  have hF0 := hF
  have hT := Stp.refl [2, 3, 4, 5, 6, 7, 8, 9] w₀ (col1 C)
  replace hF := hF.col1
  refine calls_start (c := F5B.c0) (N := 108) [.slice p n c] Try.func5 (by kernel_rfl) (by kernel_rfl) (by kernel_rfl) ?_
  show Run _ _ _ _ [(0, .slice p n c)] _ _
  refine run_seq (x := F5B.c1) (y := F5B.c2) (by kernel_rfl) ?_
  refine run_plain (id := 0) (ops := F5B.o0) [(0, true)] (by kernel_rfl) (by kernel_rfl) ?_
  refine yS (by kernel_rfl : opAt F5B.o0 0 = some (some 2, .assign (.const (.bool false)), none)) rfl rfl (fun w' hS => val_assign rfl) ?_
  refine Sch.nil ?_
  refine run_seq (x := F5B.c3) (y := F5B.c10) (by kernel_rfl) ?_
  refine run_seq (x := F5B.c4) (y := F5B.c5) (by kernel_rfl) ?_
  refine run_plain (id := 1) (ops := F5B.o1) [(0, false), (1, true), (2, true), (3, true), (4, false), (5, true), (6, true)] (by kernel_rfl) (by kernel_rfl) ?_
  refine cS (by kernel_rfl : opAt F5B.o1 0 = some (some 14, .call { callee := .value (.func 7), args := #[], argTypes := #[] }, none)) rfl rfl (ent Try.call7 rfl) (awake_ok hF) ?_
  rintro vw1 w1 ⟨rfl, hs⟩
  refine ⟨trivial, ?_⟩
  replace hF := hF.st hs
  replace hT := hT.trans hs (by simp)
  refine yS (by kernel_rfl : opAt F5B.o1 1 = some (some 15, .unOp .not 4 (.tmp 14), none)) rfl rfl (fun w' hS => val_not rfl) ?_
  refine yS (by kernel_rfl : opAt F5B.o1 2 = some (some 16, .move (.tmp 15), none)) rfl rfl (fun w' hS => val_move rfl) ?_
  refine yS (by kernel_rfl : opAt F5B.o1 3 = some (some 17, .move (.tmp 0), (some (2, false)))) rfl rfl (fun w' hS => val_move rfl) ?_
  refine cS (by kernel_rfl : opAt F5B.o1 4 = some (some 18, .call { callee := .value (.func 8), args := #[(.tmp 17)], argTypes := #[22] }, (some (2, false)))) rfl rfl (ent Try.call8 rfl) (few_ok _ _ _ _) ?_
  rintro vw2 w2 ⟨rfl, rfl⟩
  refine ⟨trivial, ?_⟩
  rw [decide_eq_false (show ¬ (n : Int) ≤ 400 by omega)]
  refine yS (by kernel_rfl : opAt F5B.o1 5 = some (some 19, .unOp .not 4 (.tmp 18), (some (2, false)))) rfl rfl (fun w' hS => val_not rfl) ?_
  refine yS (by kernel_rfl : opAt F5B.o1 6 = some (some 20, .pick (.tmp 16) (.const (.bool true)) (.tmp 19), none)) rfl rfl (fun w' hS => val_pick_f rfl rfl) ?_
  refine Sch.nil ?_
  refine run_cond (x := F5B.c6) (y := F5B.c9) (o := .tmp 20) (b := true) (by kernel_rfl) rfl (fun _ => ?_) (fun h => by cases h)
  refine run_seq (x := F5B.c7) (y := F5B.c8) (by kernel_rfl) ?_
  refine run_plain (id := 2) (ops := F5B.o2) [(0, false), (1, true)] (by kernel_rfl) (by kernel_rfl) ?_
  refine cS (by kernel_rfl : opAt F5B.o2 0 = some (some 21, .call { callee := .value (.func 7), args := #[], argTypes := #[] }, none)) rfl rfl (ent Try.call7 rfl) (awake_ok hF) ?_
  rintro vw3 w3 ⟨rfl, hs⟩
  refine ⟨trivial, ?_⟩
  replace hF := hF.st hs
  replace hT := hT.trans hs (by simp)
  refine yS (by kernel_rfl : opAt F5B.o2 1 = some (some 2, .assign (.tmp 21), none)) rfl rfl (fun w' hS => val_assign rfl) ?_
  refine Sch.nil ?_
  refine run_ret1 (by kernel_rfl) Try.func5 Try.results5 rfl ?_
  exact ⟨rfl, hT.out1 (by decide)⟩
end Go.Proofs.Ytbdlkdiadplmcaa
