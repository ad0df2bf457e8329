/- Steps through functions of the program. -/
import Derived.Test.YtfkggfmibpigpaaGreatDoorJD1PH
import Derived.Test.YtfkggfmibpigpaaGreatDoorL1
set_option linter.unusedVariables false
set_option linter.unusedSimpArgs false
set_option maxRecDepth 100000
set_option maxHeartbeats 4000000
namespace Go.Proofs.YtfkggfmibpigpaaGreatDoor
open Go.K Go.K.Rep
namespace F85
noncomputable def c0 := bodyOf Tryz.f85
end F85
theorem cloneI_ok0 {w₀ : World} {C : Nat → Nat} {c0 : Nat} (hF : Lim w₀ C) (hw : RV w₀ (Mc C) ([] : List Int) (.slice none 0 c0)) : Calls Tryz.prog 85 #[.slice none 0 c0] w₀ (Ret fun v w' => Stp [] w₀ C w' C ∧ RV w' (Mc C) ([] : List Int) v) := by
 have hF0 := hF
 have hT := Stp.refl [2, 3, 4, 5, 6, 7, 8, 9] w₀ (col1 C)
 replace hF := hF.col1
 replace hw : RV w₀ (Mc (col1 C)) ([] : List Int) (.slice none 0 c0) := by rw [Mc_col1]; exact hw
 refine calls_start (c := F85.c0) (N := 8) [.slice none 0 c0] Tryz.func85 (by kernel_rfl) (by kernel_rfl) (by kernel_rfl) ?_
 show Run _ _ _ _ [(0, .slice none 0 c0)] _ _
 refine run_sq ?_
 refine run_pl [yy 0] ?_
 refine yV (kq 2 (.assign (.const (.slice none 0 0)))) (fun _ => val_assign rfl) ?_
 refine Sch.nil ?_
 refine run_sq ?_
 refine run_sq ?_
 refine run_pl [yy 0, yy 1] ?_
 refine yM 3 0 ?_
 refine yV (kq 4 (.binOp .eql 22 (.tmp 3) (.const (.slice none 0 0)) 22)) (fun _ => val_eqNilN rfl Tryz.underlying22) ?_
 refine Sch.nil ?_
 refine run_cT 4 ?_
 refine run_sq ?_
 refine run_pl [yy 0] ?_
 refine yV (kq 2 (.assign (.const (.slice none 0 0)))) (fun _ => val_assign rfl) ?_
 refine Sch.nil ?_
 refine run_ret1 (by kernel_rfl) Tryz.func85 Tryz.results85 rfl ?_
 exact ⟨hT.out1 (by decide), rv_nil⟩
theorem cloneI_ok1 {w₀ : World} {C : Nat → Nat} {px : Value} (hF : Lim w₀ C) (hw : RV w₀ (Mc C) ([] : List Int) px) {b0 : Addr} {c0 : Nat} (he0 : px = .slice (some b0) 0 c0) : Calls Tryz.prog 85 #[px] w₀ (Ret fun v w' => Stp [] w₀ C w' C ∧ RV w' (Mc C) ([] : List Int) v) := by
 have hF0 := hF
 have hT := Stp.refl [2, 3, 4, 5, 6, 7, 8, 9] w₀ (col1 C)
 replace hF := hF.col1
 replace hw : RV w₀ (Mc (col1 C)) ([] : List Int) px := by rw [Mc_col1]; exact hw
 refine calls_start (c := F85.c0) (N := 8) [px] Tryz.func85 (by kernel_rfl) (by kernel_rfl) (by kernel_rfl) ?_
 show Run _ _ _ _ [(0, px)] _ _
 refine run_sq ?_
 refine run_pl [yy 0] ?_
 refine yV (kq 2 (.assign (.const (.slice none 0 0)))) (fun _ => val_assign rfl) ?_
 refine Sch.nil ?_
 refine run_sq ?_
 refine run_sq ?_
 refine run_pl [yy 0, yy 1] ?_
 refine yM 3 0 ?_
 refine yV (kq 4 (.binOp .eql 22 (.tmp 3) (.const (.slice none 0 0)) 22)) (fun _ => val_eqNilX ((show _ = some px from rfl).trans (congrArg some he0)) Tryz.underlying22) ?_
 refine Sch.nil ?_
 refine run_cF 4 ?_
 refine run_sk ?_
 refine run_sq ?_
 refine run_pl [nn 0, yy 1, nn 2, yy 3] ?_
 refine aS (kq 5 (.buildSlice 22 0 #[])) rfl rfl (a_buildEmptyX (n := 1) (e := 3) (bytes := 8) hF (by kernel_rfl)) ?_
 rintro _ w1 ⟨⟨a5, rfl⟩, hs, hF⟩
 refine ⟨trivial, ?_⟩
 replace hT := hT.t hs; replace hw := hw.t hs
 refine yM 6 0 ?_
 refine aS (kq 7 (.call { callee := .builtin .append, args := #[(.tmp 5), (.tmp 6)], argTypes := #[22, 22] })) rfl rfl (a_appendE (α := Int) (C := col1 C) (e := 3) (bytes := 8) rfl rfl (by kernel_rfl) hw) ?_
 rintro v7 w2 ⟨rfl, hs⟩
 refine ⟨trivial, ?_⟩
 replace hF := hF.st hs
 replace hT := hT.t hs; replace hw := hw.t hs
 refine yA 2 7 ?_
 refine Sch.nil ?_
 refine run_ret1 (by kernel_rfl) Tryz.func85 Tryz.results85 rfl ?_
 exact ⟨hT.out1 (by decide), rv_empX⟩
theorem cloneI_ok2 {w₀ : World} {C : Nat → Nat} {xs : List Int} {px : Value} (hF : Lim w₀ C) (hw : RV w₀ (Mc C) xs px) (hne : xs ≠ []) (hlen : xs.length ≤ 1000000) : Calls Tryz.prog 85 #[px] w₀ (Ret fun v w' => Stp [] w₀ C w' C ∧ RV w' (Mc C) xs v) := by
 have hF0 := hF
 have hT := Stp.refl [2, 3, 4, 5, 6, 7, 8, 9] w₀ (col1 C)
 replace hF := hF.col1
 replace hw : RV w₀ (Mc (col1 C)) xs px := by rw [Mc_col1]; exact hw
 obtain ⟨a0, c0, he0, hcc, _, hs0⟩ := rv_list.1 hw
 obtain ⟨b0, rfl⟩ : ∃ b, a0 = some b := by
   rcases hs0 with h | ⟨b, o, rfl, _⟩
   · exact absurd h hne
   · exact ⟨_, rfl⟩
 clear hs0
 refine calls_start (c := F85.c0) (N := 8) [px] Tryz.func85 (by kernel_rfl) (by kernel_rfl) (by kernel_rfl) ?_
 show Run _ _ _ _ [(0, px)] _ _
 refine run_sq ?_
 refine run_pl [yy 0] ?_
 refine yV (kq 2 (.assign (.const (.slice none 0 0)))) (fun _ => val_assign rfl) ?_
 refine Sch.nil ?_
 refine run_sq ?_
 refine run_sq ?_
 refine run_pl [yy 0, yy 1] ?_
 refine yM 3 0 ?_
 refine yV (kq 4 (.binOp .eql 22 (.tmp 3) (.const (.slice none 0 0)) 22)) (fun _ => val_eqNilX ((show _ = some px from rfl).trans (congrArg some he0)) Tryz.underlying22) ?_
 refine Sch.nil ?_
 refine run_cF 4 ?_
 refine run_sk ?_
 refine run_sq ?_
 refine run_pl [nn 0, yy 1, nn 2, yy 3] ?_
 refine aS (kq 5 (.buildSlice 22 0 #[])) rfl rfl (a_buildEmptyX (n := 1) (e := 3) (bytes := 8) hF (by kernel_rfl)) ?_
 rintro _ w1 ⟨⟨a5, rfl⟩, hs, hF⟩
 refine ⟨trivial, ?_⟩
 replace hT := hT.t hs; replace hw := hw.t hs
 refine yM 6 0 ?_
 refine aS (kq 7 (.call { callee := .builtin .append, args := #[(.tmp 5), (.tmp 6)], argTypes := #[22, 22] })) rfl rfl (a_appendR (j := 5) (e := 3) (bytes := 8) (ys := ([] : List Int)) hF (by decide) rfl rfl (by kernel_rfl) (by decide) rv_empX hw hne (by simp only [List.length_nil]; omega) (by simp only [List.length_nil]; omega)) ?_
 rintro v7 w2 ⟨Cw2, hs, hn, hF⟩
 refine ⟨trivial, ?_⟩
 replace hT := hT.t hs; replace hw := hw.t hs
 refine yA 2 7 ?_
 refine Sch.nil ?_
 simp only [List.nil_append] at hn
 refine run_ret1 (by kernel_rfl) Tryz.func85 Tryz.results85 rfl ?_
 exact ⟨hT.out1 (by decide), hn.out hT hF0 (Mc_col1 C) (fun b _ => col1_lt C (by decide) b) (by omega)⟩
theorem cloneI_ok {w₀ : World} {C : Nat → Nat} {xs : List Int} {px : Value} (hF : Lim w₀ C) (hw : RV w₀ (Mc C) xs px) (hlen : xs.length ≤ 1000000) : Calls Tryz.prog 85 #[px] w₀ (Ret fun v w' => Stp [] w₀ C w' C ∧ RV w' (Mc C) xs v) := by
  by_cases hne : xs = []
  · subst hne
    obtain ⟨a0, c0, he0, hcc, _, hs0⟩ := rv_list.1 hw
    have e0 : px = .slice a0 0 c0 := he0
    rcases a0 with _ | b0
    · subst e0; exact cloneI_ok0 hF hw
    · exact cloneI_ok1 hF hw e0
  · exact cloneI_ok2 hF hw hne hlen
namespace F60
noncomputable def c0 := bodyOf Tryz.f60
end F60
theorem flist_ok {w₀ : World} {C : Nat → Nat} {l : List Int} {vl : Value} (hF : Lim w₀ C) (hl : RV w₀ (Mc C) l vl) (hlen : l.length ≤ 1000000) : Calls Tryz.prog 60 #[vl] w₀ (Ret fun v w' => Stp [] w₀ C w' C ∧ RV w' (Mc C) l v) := by
 have hF0 := hF
 have hT := Stp.refl [2, 3, 4, 5, 6, 7, 8, 9] w₀ (col1 C)
 replace hF := hF.col1
 replace hl : RV w₀ (Mc (col1 C)) l vl := by rw [Mc_col1]; exact hl
 refine calls_start (c := F60.c0) (N := 5) [vl] Tryz.func60 (by kernel_rfl) (by kernel_rfl) (by kernel_rfl) ?_
 show Run _ _ _ _ [(0, vl)] _ _
 refine run_sq ?_
 refine run_pl [yy 0] ?_
 refine yV (kq 2 (.assign (.const (.slice none 0 0)))) (fun _ => val_assign rfl) ?_
 refine Sch.nil ?_
 refine run_sq ?_
 refine run_pl [yy 0, nn 1, yy 2] ?_
 refine yM 3 0 ?_
 refine cS (kq 4 (.call { callee := .value (.func 85), args := #[(.tmp 3)], argTypes := #[22] })) rfl rfl (ent Tryz.call85 rfl) (cloneI_ok hF hl hlen) ?_
 rintro u w1 ⟨hs, hu⟩
 refine ⟨trivial, ?_⟩
 replace hF := hF.st hs
 replace hT := hT.t hs; replace hl := hl.t hs
 refine yA 2 4 ?_
 refine Sch.nil ?_
 refine run_ret1 (by kernel_rfl) Tryz.func60 Tryz.results60 rfl ?_
 exact ⟨hT.out1 (by decide), hu.out hT hF0 (Mc_col1 C)⟩
namespace F37
noncomputable def c0 := bodyOf Tryz.f37
end F37
theorem link_ok {w₀ : World} {C : Nat → Nat} {x : Lnk} {vl : Value} (hF : Lim w₀ C) (hl : RV w₀ (Mc C) x.regs vl) (hlen : x.regs.length ≤ 1000000) : Calls Tryz.prog 37 #[.agg #[.int .u64 x.p.n, vl]] w₀ (Ret fun v w' => ∃ u, v = .agg #[.int .u64 x.p.n, u] ∧ Stp [] w₀ C w' C ∧ RV w' (Mc C) x.regs u) := by
 have hF0 := hF
 have hT := Stp.refl [2, 3, 4, 5, 6, 7, 8, 9] w₀ (col1 C)
 replace hF := hF.col1
 replace hl : RV w₀ (Mc (col1 C)) x.regs vl := by rw [Mc_col1]; exact hl
 refine calls_start (c := F37.c0) (N := 8) [.agg #[.int .u64 x.p.n, vl]] Tryz.func37 (by kernel_rfl) (by kernel_rfl) (by kernel_rfl) ?_
 show Run _ _ _ _ [(0, .agg #[.int .u64 x.p.n, vl])] _ _
 refine run_sq ?_
 refine run_pl [nn 0, nn 1] ?_
 refine aS (kq 1 (.box 49 (.tmp 0))) rfl rfl (a_box (cs := [.int .u64 x.p.n, vl]) hF 3 rfl rfl) ?_
 rintro _ w1 ⟨Cw1, bw1, rfl, hs, hx, hF⟩
 refine ⟨trivial, ?_⟩
 replace hT := hT.t hs; replace hl := hl.t hs
 refine aS (kq 2 (.alloc 49)) rfl rfl (a_alloc (cs := [.int .u64 0, .slice none 0 0]) hF 4 (by kernel_rfl)) ?_
 rintro _ w2 ⟨Cw2, bw2, rfl, hs, hy, hF⟩
 refine ⟨trivial, ?_⟩
 replace hT := hT.t hs; replace hl := hl.t hs; replace hx := hx.t hs
 refine Sch.nil ?_
 refine run_sq ?_
 refine run_pl [yy 0, nn 1, nn 2, yy 3, nn 4] ?_
 refine yF 3 49 1 1 1 ?_
 refine nS (kq 4 (.load 22 (.tmp 3))) rfl rfl trivial (val_loadOwn hx.at_ (by kernel_rfl) rfl rfl) ?_
 refine cS (kq 5 (.call { callee := .value (.func 60), args := #[(.tmp 4)], argTypes := #[22] })) rfl rfl (ent Tryz.call60 rfl) (flist_ok hF hl hlen) ?_
 rintro u w3 ⟨hs, hu⟩
 refine ⟨trivial, ?_⟩
 replace hF := hF.st hs
 replace hT := hT.t hs; replace hl := hl.t hs; replace hx := hx.t hs; replace hy := hy.t hs
 refine yF 6 49 1 1 1 ?_
 refine aN (k0 (.store 22 (.tmp 6) (.tmp 5))) rfl (a_store1 rfl rfl (by kernel_rfl) (hu.one rfl).1 (hu.one rfl).2 hx (by simp)) ?_
 rintro _ w4 ⟨rfl, hs, hx⟩
 refine ⟨trivial, ?_⟩
 replace hF := hF.st hs
 replace hT := hT.t hs; replace hl := hl.t hs; replace hy := hy.t hs; replace hu := hu.t hs
 refine Sch.nil ?_
 refine run_sq ?_
 refine run_pl [nn 0, nn 1] ?_
 refine nS (kq 7 (.load 49 (.tmp 1))) rfl rfl trivial (val_loadOwnAgg (n := 2) (vs := [.int .u64 x.p.n, u]) hx.at_ (by kernel_rfl) (by kernel_rfl) rfl rfl rfl) ?_
 refine aN (k0 (.store 49 (.tmp 2) (.tmp 7))) rfl (a_storeAll (vs := [.int .u64 x.p.n, u]) (n := 2) rfl rfl (by kernel_rfl) rfl rfl (by intro u hu; simp only [List.mem_cons, List.not_mem_nil, or_false] at hu; rcases hu with rfl | rfl <;> first | rfl | exact (hu.one rfl).2) hy rfl) ?_
 rintro _ w5 ⟨rfl, hs, hy⟩
 refine ⟨trivial, ?_⟩
 replace hF := hF.st hs
 replace hT := hT.t hs; replace hl := hl.t hs; replace hx := hx.t hs; replace hu := hu.t hs
 refine Sch.nil ?_
 refine run_retC1 (by kernel_rfl) Tryz.func37 Tryz.results37 rfl hy.at_ (by kernel_rfl) (by kernel_rfl) rfl ?_
 exact ⟨u, rfl, hT.out1 (by decide), hu.out hT hF0 (Mc_col1 C)⟩
namespace F52
noncomputable def c0 := bodyOf Tryz.f52
end F52
theorem growS_ok {w₀ : World} {C : Nat → Nat} {k : Nat} (hF : Lim w₀ C) (hk : k ≤ 1000000) (j : Nat) (hj : j ≠ 0) : Calls Tryz.prog 52 #[.slice none 0 0, .int .i64 k] w₀ (Ret fun v w' => ∃ C', Stp [] w₀ C w' C' ∧ Lim w' C' ∧ OwnL w' C' j 71 v ([] : List Ntc)) := by
 have hF0 := hF
 have hT := Stp.refl [2, 3, 4, 5, 6, 7, 8, 9] w₀ (col1 C)
 replace hF := hF.col1
 refine calls_start (c := F52.c0) (N := 27) [.slice none 0 0, .int .i64 k] Tryz.func52 (by kernel_rfl) (by kernel_rfl) (by kernel_rfl) ?_
 show Run _ _ _ _ [(0, .slice none 0 0), (1, .int .i64 k)] _ _
 refine run_sq ?_
 refine run_pl [yy 0] ?_
 refine yV (kq 4 (.assign (.const (.slice none 0 0)))) (fun _ => val_assign rfl) ?_
 refine Sch.nil ?_
 refine run_sq ?_
 refine run_sq ?_
 refine run_pl [yy 0, yy 1] ?_
 refine yM 5 1 ?_
 refine yV (kq 6 (.binOp .lss 3 (.tmp 5) (.const (.int .i64 0)) 3)) (fun _ => val_lss rfl rfl) ?_
 refine Sch.nil ?_
 refine run_i 6 rfl (fun h6 => ?_) (fun h6 => ?_)
 ·
  omega
 ·
  refine run_sk ?_
  refine run_sq ?_
  refine run_sq ?_
  refine run_pl [yy 0, yy 1, nn 2, yy 3, yy 4, yy 5, yy 6, yy 7] ?_
  refine yM 8 1 ?_
  refine yM 9 0 ?_
  refine nS (kq 10 (.call { callee := .builtin .cap, args := #[(.tmp 9)], argTypes := #[44] })) rfl rfl trivial (val_capX rfl Tryz.underlying44) ?_
  refine yM 11 0 ?_
  refine yV (kq 12 (.call { callee := .builtin .len, args := #[(.tmp 11)], argTypes := #[44] })) (fun _ => val_len_slice rfl Tryz.underlying44) ?_
  refine yV (kq 13 (.binOp .sub 3 (.tmp 10) (.tmp 12) 3)) (fun _ => val_subi rfl rfl (by omega) (by omega)) ?_
  refine yV (kq 14 (.binOp .sub 3 (.tmp 8) (.tmp 13) 3)) (fun _ => val_subi rfl rfl (by omega) (by omega)) ?_
  rw [show (k : Int) - (((0 : Nat) : Int) - ((0 : Nat) : Int)) = (k : Int) from by simp]
  refine yA 1 14 ?_
  refine Sch.nil ?_
  refine run_sq ?_
  refine run_pl [yy 0, yy 1] ?_
  refine yM 15 1 ?_
  refine yV (kq 16 (.binOp .gtr 3 (.tmp 15) (.const (.int .i64 0)) 3)) (fun _ => val_gtr rfl rfl) ?_
  refine Sch.nil ?_
  refine run_i 16 rfl (fun h16 => ?_) (fun h16 => ?_)
  ·
   have hk0 : 0 < k := by omega
   refine run_pl [yy 0, yy 1, nn 2, yy 3, yy 4, nn 5, yy 6, yy 7, yy 8, yy 9] ?_
   refine yM 17 0 ?_
   refine yM 18 0 ?_
   refine nS (kq 19 (.call { callee := .builtin .cap, args := #[(.tmp 18)], argTypes := #[44] })) rfl rfl trivial (val_capX rfl Tryz.underlying44) ?_
   refine yV (kq 20 (.slice 44 (.tmp 17) none (some (.tmp 19)) none)) (fun _ => val_slNil rfl rfl Tryz.underlying44 (by kernel_rfl)) ?_
   refine yM 21 1 ?_
   refine aS (kq 22 (.call { callee := .builtin .append, args := #[(.tmp 20), (.tmp 21)], argTypes := #[44, 3] })) rfl rfl (a_appendZ0 (α := Ntc) (e := 71) (bytes := 48) (n := k) (j := 3) hF (by decide) rfl rfl (by kernel_rfl) (by decide) (by decide) Tryz.underlying3 hk0 (by omega)) ?_
   rintro _ w1 ⟨Cw1, gb, gc, rfl, hs, hz, hF⟩
   refine ⟨trivial, ?_⟩
   replace hT := hT.t hs
   refine yM 23 0 ?_
   refine yV (kq 24 (.call { callee := .builtin .len, args := #[(.tmp 23)], argTypes := #[44] })) (fun _ => val_len_slice rfl Tryz.underlying44) ?_
   refine yV (kq 25 (.slice 44 (.tmp 22) none (some (.tmp 24)) none)) (fun _ => val_sl0 rfl rfl Tryz.underlying44 (by kernel_rfl)) ?_
   refine yA 0 25 ?_
   refine Sch.nil ?_
   refine run_sq ?_
   refine run_pl [yy 0, yy 1] ?_
   refine yM 26 0 ?_
   refine yA 4 26 ?_
   refine Sch.nil ?_
   refine run_ret1 (by kernel_rfl) Tryz.func52 Tryz.results52 rfl ?_
   obtain ⟨Cg, hcg, hFg, hmg, hog⟩ := hz.give hT hF0 (Mc_col1 C) (fun b _ => col1_lt C (by decide) b) (by decide) j hj
   exact ⟨Cg, (hT.out1 (by decide)).give hcg, hFg, hog⟩
  ·
   refine run_sk ?_
   refine run_sq ?_
   refine run_pl [yy 0, yy 1] ?_
   refine yM 26 0 ?_
   refine yA 4 26 ?_
   refine Sch.nil ?_
   refine run_ret1 (by kernel_rfl) Tryz.func52 Tryz.results52 rfl ?_
   exact ⟨C, hT.out1 (by decide), hF0.st (hT.out1 (by decide)), OwnL.nil⟩
namespace F29
noncomputable def c0 := bodyOf Tryz.f29
end F29
theorem concatS_ok {w₀ : World} {C : Nat → Nat} {ll : List (List Ntc)} {vv : Value} (hF : Lim w₀ C) (hl : RV w₀ (Mc C) ll vv) (hlen : ll.flatten.length ≤ 100000) (j : Nat) (hj : j ≠ 0) : Calls Tryz.prog 29 #[vv] w₀ (Ret fun v w' => ∃ C', Stp [] w₀ C w' C' ∧ Lim w' C' ∧ OwnL w' C' j 71 v ll.flatten) := by
 have hF0 := hF
 have hT := Stp.refl [2, 3, 4, 5, 6, 7, 8, 9] w₀ (col1 C)
 replace hF := hF.col1
 replace hl : RV w₀ (Mc (col1 C)) ll vv := by rw [Mc_col1]; exact hl
 refine calls_start (c := F29.c0) (N := 36) [vv] Tryz.func29 (by kernel_rfl) (by kernel_rfl) (by kernel_rfl) ?_
 show Run _ _ _ _ [(0, vv)] _ _
 refine run_sq ?_
 refine run_pl [yy 0] ?_
 refine yV (kq 2 (.assign (.const (.slice none 0 0)))) (fun _ => val_assign rfl) ?_
 refine Sch.nil ?_
 refine run_sq ?_
 refine run_pl [yy 0] ?_
 refine yAc 3 (.int .i64 0) ?_
 refine Sch.nil ?_
 refine run_sq ?_
 refine run_sq ?_
 refine run_pl [yy 0, yy 1, yy 2] ?_
 refine yM 9 0 ?_
 refine yS (kq 10 (.call { callee := .builtin .len, args := #[(.tmp 9)], argTypes := #[96] })) rfl rfl (fun w' hS => hl.lenV rfl Tryz.underlying96 w' ) ?_
 refine yV (kq 11 (.move (.const (.int .i64 0)))) (fun _ => val_move rfl) ?_
 refine Sch.nil ?_
 refine run_bk 0 ?_
 
 refine run_lp (ι := Nat × (Nat → Nat)) (I := fun x w => x.1 ≤ ll.length ∧ Lim w x.2 ∧ Stp [2, 3, 4, 5, 6, 7, 8, 9] w₀ (col1 C) w x.2 ∧ RV w (Mc x.2) ll vv) (e := fun x => [(0, vv), (3, .int .i64 ((ll.take x.1).flatten.length : Nat)), (9, vv), (10, .int .i64 ll.length), (11, .int .i64 x.1)]) (m := fun x => ll.length - x.1) (x₀ := (0, col1 C)) (sr 0 (sr 3 (sr 9 (sr 10 (sr 11 (sub_nil _)))))) ?_ ?_
 · exact ⟨Nat.zero_le _, hF, hT, hl⟩
 intro ⟨i, C1⟩ w1 hI next
 obtain ⟨hi, hF, hT, hl⟩ := hI
 try simp only at hi hF hT hl
 have next1 := next
 clear next
 show Run _ _ _ _ [(0, vv), (3, .int .i64 ((ll.take i).flatten.length : Nat)), (9, vv), (10, .int .i64 ll.length), (11, .int .i64 i)] _ _
 have hle := hl.le
 have hfl := flat_leA (ll := ll) i
 refine run_sq ?_
 refine run_pl [yy 0] ?_
 refine yV (kq 12 (.binOp .lss 3 (.tmp 11) (.tmp 10) 3)) (fun _ => val_lss rfl rfl) ?_
 refine Sch.nil ?_
 refine run_sq ?_
 refine run_i 12 rfl (fun h12 => ?_) (fun h12 => ?_)
 ·
  have hil : i < ll.length := by omega
  have hft := congrArg List.length (flat_takeA hil)
  rw [List.length_append] at hft
  have hfl2 := flat_leA (ll := ll) (i + 1)
  refine run_sk ?_
  refine run_sq ?_
  refine run_bk 1 ?_
  refine run_sq ?_
  refine run_pl [yy 0, nn 1, yy 2] ?_
  refine iS (e := 44) (kq 13 (.indexAddr 96 (.tmp 9) (.tmp 11))) rfl rfl hl rfl (by kernel_rfl) rfl (by omega) (by omega) ?_
  intro b13 o13 h13
  try simp only [Int.toNat_natCast] at h13
  refine lN (kq 14 (.load 44 (.tmp 13))) rfl rfl trivial h13 (by kernel_rfl) rfl rfl ?_
  intro v14 g14
  refine yA 5 14 ?_
  refine Sch.nil ?_
  refine run_sq ?_
  refine run_pl [yy 0, yy 1, yy 2, yy 3, yy 4] ?_
  refine yM 15 3 ?_
  refine yM 16 5 ?_
  refine yS (kq 17 (.call { callee := .builtin .len, args := #[(.tmp 16)], argTypes := #[44] })) rfl rfl (fun w' hS => g14.lenV rfl Tryz.underlying44 w' ) ?_
  refine yV (kq 18 (.binOp .add 3 (.tmp 15) (.tmp 17) 3)) (fun _ => val_addi rfl rfl (by omega) (by omega)) ?_
  refine yA 3 18 ?_
  refine Sch.nil ?_
  refine run_sq ?_
  refine run_pl [yy 0, yy 1] ?_
  refine yM 19 3 ?_
  refine yV (kq 20 (.binOp .lss 3 (.tmp 19) (.const (.int .i64 0)) 3)) (fun _ => val_lss rfl rfl) ?_
  refine Sch.nil ?_
  refine run_i 20 rfl (fun h20 => ?_) (fun h20 => ?_)
  ·
   omega
  ·
   refine run_sk ?_
   refine run_inBlock ?_
   refine run_pl [yy 0, yy 1] ?_
   refine yV (kq 22 (.binOp .add 3 (.tmp 11) (.const (.int .i64 1)) 3)) (fun _ => val_addi rfl rfl (by omega) (by omega)) ?_
   refine yM 11 22 ?_
   refine Sch.nil ?_
   refine kp (sub_cons 0 rfl rfl (sub_cons 3 rfl (eq_int (by simp only; omega)) (sub_cons 9 rfl rfl (sub_cons 10 rfl rfl (sub_cons 11 rfl (eq_int (by simp)) (sub_nil _)))))) (next1 (i + 1, C1) _ ⟨(by first | omega | (simp only; omega)), hF, hT, hl⟩ (by first | omega | (simp only; omega)))
 ·
  have hil : i = ll.length := by omega
  refine run_ex 0 ?_
  refine run_sq ?_
  refine run_pl [yy 0, nn 1, yy 2] ?_
  refine yM 23 3 ?_
  refine cS (kq 24 (.call { callee := .value (.func 52), args := #[(.const (.slice none 0 0)), (.tmp 23)], argTypes := #[44, 3] })) rfl rfl (ent Tryz.call52 rfl) (growS_ok hF (by omega) 3 (by decide)) ?_
  rintro vg w2 ⟨Cb, hs, hF, ho⟩
  refine ⟨trivial, ?_⟩
  replace hT := hT.t hs; replace hl := hl.t hs
  refine yA 6 24 ?_
  refine Sch.nil ?_
  refine run_sq ?_
  refine run_sq ?_
  refine run_pl [yy 0, yy 1, yy 2] ?_
  refine yM 25 0 ?_
  refine yS (kq 26 (.call { callee := .builtin .len, args := #[(.tmp 25)], argTypes := #[96] })) rfl rfl (fun w' hS => hl.lenV rfl Tryz.underlying96 w' ) ?_
  refine yV (kq 27 (.move (.const (.int .i64 0)))) (fun _ => val_move rfl) ?_
  refine Sch.nil ?_
  refine run_bk 2 ?_
  
  refine run_lp (ι := Nat × Value × (Nat → Nat)) (I := fun x w => x.1 ≤ ll.length ∧ Lim w x.2.2 ∧ Stp [2, 3, 4, 5, 6, 7, 8, 9] w₀ (col1 C) w x.2.2 ∧ RV w (Mc x.2.2) ll vv ∧ OwnL w x.2.2 3 71 x.2.1 ((ll.take x.1).flatten)) (e := fun x => [(6, x.2.1), (25, vv), (26, .int .i64 ll.length), (27, .int .i64 x.1)]) (m := fun x => ll.length - x.1) (x₀ := (0, vg, Cb)) (sr 6 (sr 25 (sr 26 (sr 27 (sub_nil _))))) ?_ ?_
  · exact ⟨Nat.zero_le _, hF, hT, hl, ho⟩
  intro ⟨k, vo, C2⟩ w3 hI next
  obtain ⟨hk, hF, hT, hl, ho⟩ := hI
  try simp only at hk hF hT hl ho
  have next2 := next
  clear next
  show Run _ _ _ _ [(6, vo), (25, vv), (26, .int .i64 ll.length), (27, .int .i64 k)] _ _
  have hle := hl.le
  have hfl := flat_leA (ll := ll) k
  refine run_sq ?_
  refine run_pl [yy 0] ?_
  refine yV (kq 28 (.binOp .lss 3 (.tmp 27) (.tmp 26) 3)) (fun _ => val_lss rfl rfl) ?_
  refine Sch.nil ?_
  refine run_sq ?_
  refine run_i 28 rfl (fun h28 => ?_) (fun h28 => ?_)
  ·
   have hkl : k < ll.length := by omega
   have hft := flat_takeA hkl
   have hft2 := congrArg List.length hft
   rw [List.length_append] at hft2
   have hfl2 := flat_leA (ll := ll) (k + 1)
   refine run_sk ?_
   refine run_sq ?_
   refine run_bk 3 ?_
   refine run_sq ?_
   refine run_pl [yy 0, nn 1, yy 2] ?_
   refine iS (e := 44) (kq 29 (.indexAddr 96 (.tmp 25) (.tmp 27))) rfl rfl hl rfl (by kernel_rfl) rfl (by omega) (by omega) ?_
   intro b29 o29 h29
   try simp only [Int.toNat_natCast] at h29
   refine lN (kq 30 (.load 44 (.tmp 29))) rfl rfl trivial h29 (by kernel_rfl) rfl rfl ?_
   intro v30 g30
   refine yA 8 30 ?_
   refine Sch.nil ?_
   refine run_pl [yy 0, yy 1, nn 2, yy 3] ?_
   refine yM 31 6 ?_
   refine yM 32 8 ?_
   refine aS (kq 33 (.call { callee := .builtin .append, args := #[(.tmp 31), (.tmp 32)], argTypes := #[44, 44] })) rfl rfl (a_append (e := 71) (bytes := 48) hF (by decide) rfl rfl (by kernel_rfl) (by decide) ho g30 (by omega) (by omega)) ?_
   rintro v33 w4 ⟨Cw4, hs, ho, hF⟩
   refine ⟨trivial, ?_⟩
   replace hT := hT.t hs; replace hl := hl.t hs; replace h29 := h29.t hs; replace g30 := g30.t hs
   refine yA 6 33 ?_
   refine Sch.nil ?_
   refine run_inBlock ?_
   refine run_pl [yy 0, yy 1] ?_
   refine yV (kq 34 (.binOp .add 3 (.tmp 27) (.const (.int .i64 1)) 3)) (fun _ => val_addi rfl rfl (by omega) (by omega)) ?_
   refine yM 27 34 ?_
   refine Sch.nil ?_
   refine kp (sub_cons 6 rfl rfl (sub_cons 25 rfl rfl (sub_cons 26 rfl rfl (sub_cons 27 rfl (eq_int (by simp)) (sub_nil _))))) (next2 (k + 1, v33, Cw4) _ ⟨(by first | omega | (simp only; omega)), hF, hT, hl, (by simp only; rw [hft]; exact ho)⟩ (by first | omega | (simp only; omega)))
  ·
   have hkl : k = ll.length := by omega
   rw [hkl, List.take_length] at ho
   refine run_ex 2 ?_
   refine run_sq ?_
   refine run_pl [yy 0, yy 1] ?_
   refine yM 35 6 ?_
   refine yA 2 35 ?_
   refine Sch.nil ?_
   refine run_ret1 (by kernel_rfl) Tryz.func29 Tryz.results29 rfl ?_
   obtain ⟨Cg, hcg, hFg, hmg, hog⟩ := ho.give hT hF0 (Mc_col1 C) (fun b _ => col1_lt C (by decide) b) (by decide) j hj
   exact ⟨Cg, (hT.out1 (by decide)).give hcg, hFg, hog⟩
theorem concatR_ok {w₀ : World} {C : Nat → Nat} {ll : List (List Ntc)} {vv : Value} (hF : Lim w₀ C) (hl : RV w₀ (Mc C) ll vv) (hlen : ll.flatten.length ≤ 100000) : Calls Tryz.prog 29 #[vv] w₀ (Ret fun v w' => Stp [] w₀ C w' C ∧ RV w' (Mc C) ll.flatten v) := by
 have hF0 := hF
 have hT := Stp.refl [2, 3, 4, 5, 6, 7, 8, 9] w₀ (col1 C)
 replace hF := hF.col1
 replace hl : RV w₀ (Mc (col1 C)) ll vv := by rw [Mc_col1]; exact hl
 refine calls_start (c := F29.c0) (N := 36) [vv] Tryz.func29 (by kernel_rfl) (by kernel_rfl) (by kernel_rfl) ?_
 show Run _ _ _ _ [(0, vv)] _ _
 refine run_sq ?_
 refine run_pl [yy 0] ?_
 refine yV (kq 2 (.assign (.const (.slice none 0 0)))) (fun _ => val_assign rfl) ?_
 refine Sch.nil ?_
 refine run_sq ?_
 refine run_pl [yy 0] ?_
 refine yAc 3 (.int .i64 0) ?_
 refine Sch.nil ?_
 refine run_sq ?_
 refine run_sq ?_
 refine run_pl [yy 0, yy 1, yy 2] ?_
 refine yM 9 0 ?_
 refine yS (kq 10 (.call { callee := .builtin .len, args := #[(.tmp 9)], argTypes := #[96] })) rfl rfl (fun w' hS => hl.lenV rfl Tryz.underlying96 w' ) ?_
 refine yV (kq 11 (.move (.const (.int .i64 0)))) (fun _ => val_move rfl) ?_
 refine Sch.nil ?_
 refine run_bk 0 ?_
 
 refine run_lp (ι := Nat × (Nat → Nat)) (I := fun x w => x.1 ≤ ll.length ∧ Lim w x.2 ∧ Stp [2, 3, 4, 5, 6, 7, 8, 9] w₀ (col1 C) w x.2 ∧ RV w (Mc x.2) ll vv) (e := fun x => [(0, vv), (3, .int .i64 ((ll.take x.1).flatten.length : Nat)), (9, vv), (10, .int .i64 ll.length), (11, .int .i64 x.1)]) (m := fun x => ll.length - x.1) (x₀ := (0, col1 C)) (sr 0 (sr 3 (sr 9 (sr 10 (sr 11 (sub_nil _)))))) ?_ ?_
 · exact ⟨Nat.zero_le _, hF, hT, hl⟩
 intro ⟨i, C1⟩ w1 hI next
 obtain ⟨hi, hF, hT, hl⟩ := hI
 try simp only at hi hF hT hl
 have next1 := next
 clear next
 show Run _ _ _ _ [(0, vv), (3, .int .i64 ((ll.take i).flatten.length : Nat)), (9, vv), (10, .int .i64 ll.length), (11, .int .i64 i)] _ _
 have hle := hl.le
 have hfl := flat_leA (ll := ll) i
 refine run_sq ?_
 refine run_pl [yy 0] ?_
 refine yV (kq 12 (.binOp .lss 3 (.tmp 11) (.tmp 10) 3)) (fun _ => val_lss rfl rfl) ?_
 refine Sch.nil ?_
 refine run_sq ?_
 refine run_i 12 rfl (fun h12 => ?_) (fun h12 => ?_)
 ·
  have hil : i < ll.length := by omega
  have hft := congrArg List.length (flat_takeA hil)
  rw [List.length_append] at hft
  have hfl2 := flat_leA (ll := ll) (i + 1)
  refine run_sk ?_
  refine run_sq ?_
  refine run_bk 1 ?_
  refine run_sq ?_
  refine run_pl [yy 0, nn 1, yy 2] ?_
  refine iS (e := 44) (kq 13 (.indexAddr 96 (.tmp 9) (.tmp 11))) rfl rfl hl rfl (by kernel_rfl) rfl (by omega) (by omega) ?_
  intro b13 o13 h13
  try simp only [Int.toNat_natCast] at h13
  refine lN (kq 14 (.load 44 (.tmp 13))) rfl rfl trivial h13 (by kernel_rfl) rfl rfl ?_
  intro v14 g14
  refine yA 5 14 ?_
  refine Sch.nil ?_
  refine run_sq ?_
  refine run_pl [yy 0, yy 1, yy 2, yy 3, yy 4] ?_
  refine yM 15 3 ?_
  refine yM 16 5 ?_
  refine yS (kq 17 (.call { callee := .builtin .len, args := #[(.tmp 16)], argTypes := #[44] })) rfl rfl (fun w' hS => g14.lenV rfl Tryz.underlying44 w' ) ?_
  refine yV (kq 18 (.binOp .add 3 (.tmp 15) (.tmp 17) 3)) (fun _ => val_addi rfl rfl (by omega) (by omega)) ?_
  refine yA 3 18 ?_
  refine Sch.nil ?_
  refine run_sq ?_
  refine run_pl [yy 0, yy 1] ?_
  refine yM 19 3 ?_
  refine yV (kq 20 (.binOp .lss 3 (.tmp 19) (.const (.int .i64 0)) 3)) (fun _ => val_lss rfl rfl) ?_
  refine Sch.nil ?_
  refine run_i 20 rfl (fun h20 => ?_) (fun h20 => ?_)
  ·
   omega
  ·
   refine run_sk ?_
   refine run_inBlock ?_
   refine run_pl [yy 0, yy 1] ?_
   refine yV (kq 22 (.binOp .add 3 (.tmp 11) (.const (.int .i64 1)) 3)) (fun _ => val_addi rfl rfl (by omega) (by omega)) ?_
   refine yM 11 22 ?_
   refine Sch.nil ?_
   refine kp (sub_cons 0 rfl rfl (sub_cons 3 rfl (eq_int (by simp only; omega)) (sub_cons 9 rfl rfl (sub_cons 10 rfl rfl (sub_cons 11 rfl (eq_int (by simp)) (sub_nil _)))))) (next1 (i + 1, C1) _ ⟨(by first | omega | (simp only; omega)), hF, hT, hl⟩ (by first | omega | (simp only; omega)))
 ·
  have hil : i = ll.length := by omega
  refine run_ex 0 ?_
  refine run_sq ?_
  refine run_pl [yy 0, nn 1, yy 2] ?_
  refine yM 23 3 ?_
  refine cS (kq 24 (.call { callee := .value (.func 52), args := #[(.const (.slice none 0 0)), (.tmp 23)], argTypes := #[44, 3] })) rfl rfl (ent Tryz.call52 rfl) (growS_ok hF (by omega) 3 (by decide)) ?_
  rintro vg w2 ⟨Cb, hs, hF, ho⟩
  refine ⟨trivial, ?_⟩
  replace hT := hT.t hs; replace hl := hl.t hs
  refine yA 6 24 ?_
  refine Sch.nil ?_
  refine run_sq ?_
  refine run_sq ?_
  refine run_pl [yy 0, yy 1, yy 2] ?_
  refine yM 25 0 ?_
  refine yS (kq 26 (.call { callee := .builtin .len, args := #[(.tmp 25)], argTypes := #[96] })) rfl rfl (fun w' hS => hl.lenV rfl Tryz.underlying96 w' ) ?_
  refine yV (kq 27 (.move (.const (.int .i64 0)))) (fun _ => val_move rfl) ?_
  refine Sch.nil ?_
  refine run_bk 2 ?_
  
  refine run_lp (ι := Nat × Value × (Nat → Nat)) (I := fun x w => x.1 ≤ ll.length ∧ Lim w x.2.2 ∧ Stp [2, 3, 4, 5, 6, 7, 8, 9] w₀ (col1 C) w x.2.2 ∧ RV w (Mc x.2.2) ll vv ∧ OwnL w x.2.2 3 71 x.2.1 ((ll.take x.1).flatten)) (e := fun x => [(6, x.2.1), (25, vv), (26, .int .i64 ll.length), (27, .int .i64 x.1)]) (m := fun x => ll.length - x.1) (x₀ := (0, vg, Cb)) (sr 6 (sr 25 (sr 26 (sr 27 (sub_nil _))))) ?_ ?_
  · exact ⟨Nat.zero_le _, hF, hT, hl, ho⟩
  intro ⟨k, vo, C2⟩ w3 hI next
  obtain ⟨hk, hF, hT, hl, ho⟩ := hI
  try simp only at hk hF hT hl ho
  have next2 := next
  clear next
  show Run _ _ _ _ [(6, vo), (25, vv), (26, .int .i64 ll.length), (27, .int .i64 k)] _ _
  have hle := hl.le
  have hfl := flat_leA (ll := ll) k
  refine run_sq ?_
  refine run_pl [yy 0] ?_
  refine yV (kq 28 (.binOp .lss 3 (.tmp 27) (.tmp 26) 3)) (fun _ => val_lss rfl rfl) ?_
  refine Sch.nil ?_
  refine run_sq ?_
  refine run_i 28 rfl (fun h28 => ?_) (fun h28 => ?_)
  ·
   have hkl : k < ll.length := by omega
   have hft := flat_takeA hkl
   have hft2 := congrArg List.length hft
   rw [List.length_append] at hft2
   have hfl2 := flat_leA (ll := ll) (k + 1)
   refine run_sk ?_
   refine run_sq ?_
   refine run_bk 3 ?_
   refine run_sq ?_
   refine run_pl [yy 0, nn 1, yy 2] ?_
   refine iS (e := 44) (kq 29 (.indexAddr 96 (.tmp 25) (.tmp 27))) rfl rfl hl rfl (by kernel_rfl) rfl (by omega) (by omega) ?_
   intro b29 o29 h29
   try simp only [Int.toNat_natCast] at h29
   refine lN (kq 30 (.load 44 (.tmp 29))) rfl rfl trivial h29 (by kernel_rfl) rfl rfl ?_
   intro v30 g30
   refine yA 8 30 ?_
   refine Sch.nil ?_
   refine run_pl [yy 0, yy 1, nn 2, yy 3] ?_
   refine yM 31 6 ?_
   refine yM 32 8 ?_
   refine aS (kq 33 (.call { callee := .builtin .append, args := #[(.tmp 31), (.tmp 32)], argTypes := #[44, 44] })) rfl rfl (a_append (e := 71) (bytes := 48) hF (by decide) rfl rfl (by kernel_rfl) (by decide) ho g30 (by omega) (by omega)) ?_
   rintro v33 w4 ⟨Cw4, hs, ho, hF⟩
   refine ⟨trivial, ?_⟩
   replace hT := hT.t hs; replace hl := hl.t hs; replace h29 := h29.t hs; replace g30 := g30.t hs
   refine yA 6 33 ?_
   refine Sch.nil ?_
   refine run_inBlock ?_
   refine run_pl [yy 0, yy 1] ?_
   refine yV (kq 34 (.binOp .add 3 (.tmp 27) (.const (.int .i64 1)) 3)) (fun _ => val_addi rfl rfl (by omega) (by omega)) ?_
   refine yM 27 34 ?_
   refine Sch.nil ?_
   refine kp (sub_cons 6 rfl rfl (sub_cons 25 rfl rfl (sub_cons 26 rfl rfl (sub_cons 27 rfl (eq_int (by simp)) (sub_nil _))))) (next2 (k + 1, v33, Cw4) _ ⟨(by first | omega | (simp only; omega)), hF, hT, hl, (by simp only; rw [hft]; exact ho)⟩ (by first | omega | (simp only; omega)))
  ·
   have hkl : k = ll.length := by omega
   rw [hkl, List.take_length] at ho
   refine run_ex 2 ?_
   refine run_sq ?_
   refine run_pl [yy 0, yy 1] ?_
   refine yM 35 6 ?_
   refine yA 2 35 ?_
   refine Sch.nil ?_
   refine run_ret1 (by kernel_rfl) Tryz.func29 Tryz.results29 rfl ?_
   exact ⟨hT.out1 (by decide), ho.out hT hF0 (Mc_col1 C) (fun b _ => col1_lt C (by decide) b) (by omega)⟩
namespace F33
noncomputable def c0 := bodyOf Tryz.f33
noncomputable def c24 := (cl (cr (cr (cr (cr c0)))))
noncomputable def o8 := rops c24
end F33
theorem bs0_ok {w₀ : World} {C : Nat → Nat} {y : Lnk} {vl vx : Value} (hF : Lim w₀ C) (hl : RV w₀ (Mc C) ([] : List Lnk) vl) : Calls Tryz.prog 33 #[vl, .agg #[.int .u64 y.p.n, vx], .func (.func 28) #[] #[]] w₀ (Ret fun v w' => v = .tuple #[.int .i64 0, .bool false] ∧ Stp [] w₀ C w' C) := by
 have hF0 := hF
 have hT := Stp.refl [2, 3, 4, 5, 6, 7, 8, 9] w₀ (col1 C)
 replace hF := hF.col1
 replace hl : RV w₀ (Mc (col1 C)) ([] : List Lnk) vl := by rw [Mc_col1]; exact hl
 refine calls_start (c := F33.c0) (N := 49) [vl, .agg #[.int .u64 y.p.n, vx], .func (.func 28) #[] #[]] Tryz.func33 (by kernel_rfl) (by kernel_rfl) (by kernel_rfl) ?_
 show Run _ _ _ _ [(0, vl), (1, .agg #[.int .u64 y.p.n, vx]), (2, .func (.func 28) #[] #[])] _ _
 refine run_sq ?_
 refine run_pl [nn 0, yy 1, yy 2] ?_
 refine aS (kq 4 (.box 49 (.tmp 1))) rfl rfl (a_box (cs := [.int .u64 y.p.n, vx]) hF 3 rfl rfl) ?_
 rintro _ w1 ⟨Cw1, bw1, rfl, hs, hx, hF⟩
 refine ⟨trivial, ?_⟩
 replace hT := hT.t hs; replace hl := hl.t hs
 refine yAc 6 (.int .i64 0) ?_
 refine yAc 7 (.bool false) ?_
 refine Sch.nil ?_
 refine run_sq ?_
 refine run_pl [yy 0, yy 1, yy 2] ?_
 refine yM 12 0 ?_
 refine yS (kq 13 (.call { callee := .builtin .len, args := #[(.tmp 12)], argTypes := #[38] })) rfl rfl (fun w' hS => hl.lenV rfl Tryz.underlying38 w' ) ?_
 refine yA 8 13 ?_
 refine Sch.nil ?_
 have hl0 : ([] : List Lnk).length = 0 := rfl
 refine run_sq ?_
 refine run_pl [yy 0, yy 1, yy 2] ?_
 refine yM 14 8 ?_
 refine yAc 9 (.int .i64 0) ?_
 refine yA 10 14 ?_
 refine Sch.nil ?_
 refine run_sq ?_
 refine run_bk 0 ?_
 
 refine run_lp (ι := Nat × (Nat → Nat)) (I := fun x w => Lim w x.2 ∧ Stp [2, 3, 4, 5, 6, 7, 8, 9] w₀ (col1 C) w x.2 ∧ RV w (Mc x.2) ([] : List Lnk) vl ∧ OwnB w x.2 3 bw1 (.cells [.int .u64 y.p.n, vx].toArray 49)) (e := fun x => [(0, vl), (2, .func (.func 28) #[] #[]), (4, .pointer (some ⟨bw1, 0, none⟩)), (8, .int .i64 0), (9, .int .i64 0), (10, .int .i64 0)]) (m := fun x => 0) (x₀ := (0, Cw1)) (sr 0 (sr 2 (sr 4 (sr 8 (sr 9 (sr 10 (sub_nil _))))))) ?_ ?_
 · exact ⟨hF, hT, hl, hx⟩
 intro ⟨z, C1⟩ w2 hI next
 obtain ⟨hF, hT, hl, hx⟩ := hI
 try simp only at hF hT hl hx
 have next1 := next
 clear next
 show Run _ _ _ _ [(0, vl), (2, .func (.func 28) #[] #[]), (4, .pointer (some ⟨bw1, 0, none⟩)), (8, .int .i64 0), (9, .int .i64 0), (10, .int .i64 0)] _ _
 refine run_sq ?_
 refine run_sq ?_
 refine run_pl [yy 0, yy 1, yy 2] ?_
 refine yM 15 9 ?_
 refine yM 16 10 ?_
 refine yV (kq 17 (.binOp .lss 3 (.tmp 15) (.tmp 16) 3)) (fun _ => val_is (val_lss rfl rfl) (show _ = Value.bool false from congrArg Value.bool (decide_eq_false (by decide)))) ?_
 refine Sch.nil ?_
 refine run_cF 17 ?_
 refine run_ex 0 ?_
 refine run_sq ?_
 refine run_draw (id := 8) (ops := F33.o8) [] (C1) [yy 0, yy 1, yy 2, yy 3, yy 4, yy 5, yy 6, yy 7, yy 8, yy 9, yy 10, nn 11, yy 12, yy 13, yy 14, yy 15] Tryz_mixed (by kernel_rfl) (by kernel_rfl) (by kernel_rfl) ?_
 intro w3 hs
 replace hF := hF.st hs
 replace hT := hT.t hs; replace hl := hl.t hs; replace hx := hx.t hs
 have hR := Stp.refl [] w3 (C1)
 refine yM 35 9 ?_
 refine yM 36 9 ?_
 refine yM 37 8 ?_
 refine yV (kq 38 (.binOp .lss 3 (.tmp 36) (.tmp 37) 3)) (fun _ => val_is (val_lss rfl rfl) (show _ = Value.bool false from congrArg Value.bool (decide_eq_false (by decide)))) ?_
 refine yM 39 38 ?_
 refine pX 40 4 true ?_
 refine pX 41 4 true ?_
 refine pX 42 4 true ?_
 refine pX 43 4 true ?_
 refine pX 44 4 true ?_
 refine pX 45 4 true ?_
 refine pW (kg 46 (.call { callee := .value (.tmp 40), args := #[(.tmp 44), (.tmp 45)], argTypes := #[49, 49] }) 4 true) rfl rfl hR.ext ?_
 refine pX 47 4 true ?_
 refine yAf 48 39 47 ?_
 refine yA 6 35 ?_
 refine yA 7 48 ?_
 refine Sch.nil ?_
 refine run_ret2 (by kernel_rfl) Tryz.func33 Tryz.results33 rfl rfl ?_
 exact ⟨rfl, hT.out1 (by decide)⟩
namespace F30
noncomputable def c0 := bodyOf Tryz.f30
noncomputable def c8 := (cl (cr (cl (cr (cr c0)))))
noncomputable def c17 := (cl (cl (cr (cr (cl c8)))))
noncomputable def o6 := rops (cl (cr (cr c17)))
noncomputable def o7 := rops (cl (cr (cr (cr c17))))
end F30
theorem without_ok {w₀ : World} {C : Nat → Nat} {num ka kb : Int} {rs : List Int} {vr : Value} {lv : Bool} {l m : List Lnk} {vl vm : Value} {dr : Bool} (hF : Lim w₀ C) (hr : RV w₀ (Mc C) rs vr) (hl : RV w₀ (Mc C) l vl) (hm : RV w₀ (Mc C) m vm) (hV : ∀ x ∈ l, x.regs.length ≤ 1000000) (hom : l = [] ∨ m = []) (h1 : l.length ≤ 100000) : Calls Tryz.prog 30 #[.agg #[.int .i64 num, .int .u64 ka, .int .u64 kb, vr, .bool lv], vl, vm, .bool dr] w₀ (Ret fun v w' => Stp [] w₀ C w' C ∧ RV w' (Mc C) (l.map (fun x : Lnk => (⟨num, dr, x⟩ : Ntc))) v) := by
 have hF0 := hF
 have hT := Stp.refl [2, 3, 4, 5, 6, 7, 8, 9] w₀ (col1 C)
 replace hF := hF.col1
 replace hr : RV w₀ (Mc (col1 C)) rs vr := by rw [Mc_col1]; exact hr
 replace hl : RV w₀ (Mc (col1 C)) l vl := by rw [Mc_col1]; exact hl
 replace hm : RV w₀ (Mc (col1 C)) m vm := by rw [Mc_col1]; exact hm
 refine calls_start (c := F30.c0) (N := 48) [.agg #[.int .i64 num, .int .u64 ka, .int .u64 kb, vr, .bool lv], vl, vm, .bool dr] Tryz.func30 (by kernel_rfl) (by kernel_rfl) (by kernel_rfl) ?_
 show Run _ _ _ _ [(0, .agg #[.int .i64 num, .int .u64 ka, .int .u64 kb, vr, .bool lv]), (1, vl), (2, vm), (3, .bool dr)] _ _
 refine run_sq ?_
 refine run_pl [nn 0, yy 1] ?_
 refine aS (kq 4 (.box 31 (.tmp 0))) rfl rfl (a_box (cs := [.int .i64 num, .int .u64 ka, .int .u64 kb, vr, .bool lv]) hF 3 rfl rfl) ?_
 rintro _ w1 ⟨Cw1, bw1, rfl, hs, hp, hF⟩
 refine ⟨trivial, ?_⟩
 replace hT := hT.t hs; replace hr := hr.t hs; replace hl := hl.t hs; replace hm := hm.t hs
 refine yV (kq 8 (.assign (.const (.slice none 0 0)))) (fun _ => val_assign rfl) ?_
 refine Sch.nil ?_
 refine run_sq ?_
 refine run_pl [yy 0] ?_
 refine yV (kq 9 (.assign (.const (.slice none 0 0)))) (fun _ => val_assign rfl) ?_
 refine Sch.nil ?_
 refine run_sq ?_
 refine run_sq ?_
 refine run_pl [yy 0, yy 1, yy 2] ?_
 refine yM 14 1 ?_
 refine yS (kq 15 (.call { callee := .builtin .len, args := #[(.tmp 14)], argTypes := #[38] })) rfl rfl (fun w' hS => hl.lenV rfl Tryz.underlying38 w' ) ?_
 refine yV (kq 16 (.move (.const (.int .i64 0)))) (fun _ => val_move rfl) ?_
 refine Sch.nil ?_
 refine run_bk 0 ?_
 
 refine run_lp (ι := Nat × Value × (Nat → Nat)) (I := fun x w => x.1 ≤ l.length ∧ Lim w x.2.2 ∧ Stp [2, 3, 4, 5, 6, 7, 8, 9] w₀ (col1 C) w x.2.2 ∧ RV w (Mc x.2.2) l vl ∧ RV w (Mc x.2.2) m vm ∧ OwnB w x.2.2 3 bw1 (.cells [.int .i64 num, .int .u64 ka, .int .u64 kb, vr, .bool lv].toArray 31) ∧ OwnL w x.2.2 4 71 x.2.1 ((l.take x.1).map fun x : Lnk => (⟨num, dr, x⟩ : Ntc))) (e := fun x => [(2, vm), (3, .bool dr), (4, .pointer (some ⟨bw1, 0, none⟩)), (9, x.2.1), (14, vl), (15, .int .i64 l.length), (16, .int .i64 x.1)]) (m := fun x => l.length - x.1) (x₀ := (0, .slice none 0 0, Cw1)) (sr 2 (sr 3 (sr 4 (sr 9 (sr 14 (sr 15 (sr 16 (sub_nil _)))))))) ?_ ?_
 · exact ⟨Nat.zero_le _, hF, hT, hl, hm, hp, OwnL.nil⟩
 intro ⟨k, vo, C1⟩ w2 hI next
 obtain ⟨hk, hF, hT, hl, hm, hp, ho⟩ := hI
 try simp only at hk hF hT hl hm hp ho
 have next1 := next
 clear next
 show Run _ _ _ _ [(2, vm), (3, .bool dr), (4, .pointer (some ⟨bw1, 0, none⟩)), (9, vo), (14, vl), (15, .int .i64 l.length), (16, .int .i64 k)] _ _
 have hle := hl.le
 refine run_sq ?_
 refine run_pl [yy 0] ?_
 refine yV (kq 17 (.binOp .lss 3 (.tmp 16) (.tmp 15) 3)) (fun _ => val_lss rfl rfl) ?_
 refine Sch.nil ?_
 refine run_sq ?_
 refine run_i 17 rfl (fun h17 => ?_) (fun h17 => ?_)
 ·
  have hkl : k < l.length := by omega
  have hok := hV _ (List.getElem_mem hkl)
  obtain rfl : m = [] := hom.resolve_left (fun e => by rw [e] at hkl; simp at hkl)
  have hoc : ((l.take k).map (fun x : Lnk => (⟨num, dr, x⟩ : Ntc))).length = k := by rw [List.length_map, List.length_take]; omega
  refine run_sk ?_
  refine run_sq ?_
  refine run_bk 1 ?_
  refine run_sq ?_
  refine run_pl [yy 0, nn 1, nn 2, nn 3] ?_
  refine iS (e := 49) (kq 18 (.indexAddr 38 (.tmp 14) (.tmp 16))) rfl rfl hl rfl (by kernel_rfl) rfl (by omega) (by omega) ?_
  intro b18 o18 h18
  try simp only [Int.toNat_natCast] at h18
  refine lNA (kq 19 (.load 49 (.tmp 18))) rfl rfl trivial h18 (by kernel_rfl) (by kernel_rfl) rfl rfl ?_
  intro v19 g19
  obtain ⟨u19, rfl, hu19⟩ := rv_lnk.1 g19
  refine aS (kq 11 (.alloc 49)) rfl rfl (a_alloc (cs := [.int .u64 0, .slice none 0 0]) hF 5 (by kernel_rfl)) ?_
  rintro _ w3 ⟨Cw3, bw3, rfl, hs, hb, hF⟩
  refine ⟨trivial, ?_⟩
  replace hT := hT.t hs; replace hl := hl.t hs; replace hm := hm.t hs; replace hp := hp.t hs; replace ho := ho.t hs; replace h18 := h18.t hs; replace hu19 := hu19.t hs
  refine aN (k0 (.store 49 (.tmp 11) (.tmp 19))) rfl (a_storeAll (vs := [.int .u64 (l[k]'hkl).p.n, u19]) (n := 2) rfl rfl (by kernel_rfl) rfl rfl (by intro u hu; simp only [List.mem_cons, List.not_mem_nil, or_false] at hu; rcases hu with rfl | rfl <;> first | rfl | exact (hu19.one rfl).2) hb rfl) ?_
  rintro _ w4 ⟨rfl, hs, hb⟩
  refine ⟨trivial, ?_⟩
  replace hF := hF.st hs
  replace hT := hT.t hs; replace hl := hl.t hs; replace hm := hm.t hs; replace hp := hp.t hs; replace ho := ho.t hs; replace h18 := h18.t hs; replace hu19 := hu19.t hs
  refine Sch.nil ?_
  refine run_sq ?_
  refine run_pl [yy 0, nn 1, nn 2, yy 3, yy 4, yy 5, yy 6, yy 7] ?_
  refine yM 21 2 ?_
  refine nS (kq 22 (.load 49 (.tmp 11))) rfl rfl trivial (val_loadOwnAgg (n := 2) (vs := [.int .u64 (l[k]'hkl).p.n, u19]) hb.at_ (by kernel_rfl) (by kernel_rfl) rfl rfl rfl) ?_
  refine cS (kq 23 (.call { callee := .value (.func 33), args := #[(.tmp 21), (.tmp 22), (.func 28)], argTypes := #[38, 49, 68] })) rfl rfl (ent Tryz.call33 rfl) (bs0_ok (y := (l[k]'hkl)) hF hm) ?_
  rintro vw5 w5 ⟨rfl, hs⟩
  refine ⟨trivial, ?_⟩
  replace hF := hF.st hs
  replace hT := hT.t hs; replace hl := hl.t hs; replace hm := hm.t hs; replace hp := hp.t hs; replace ho := ho.t hs; replace h18 := h18.t hs; replace hu19 := hu19.t hs; replace hb := hb.t hs
  refine yM 20 23 ?_
  refine yV (kq 24 (.extract (.tmp 20) 0)) (fun _ => val_extract rfl rfl) ?_
  refine yV (kq 25 (.extract (.tmp 20) 1)) (fun _ => val_extract rfl rfl) ?_
  refine yA 12 24 ?_
  refine yA 13 25 ?_
  refine Sch.nil ?_
  refine run_sq ?_
  refine run_draw (id := 6) (ops := F30.o6) [] (Cw3) [yy 0, yy 1, yy 2, yy 3, yy 4, yy 5, yy 6, yy 7, nn 8, yy 9, yy 10] Tryz_mixed (by kernel_rfl) (by kernel_rfl) (by kernel_rfl) ?_
  intro w6 hs
  replace hF := hF.st hs
  replace hT := hT.t hs; replace hl := hl.t hs; replace hm := hm.t hs; replace hp := hp.t hs; replace ho := ho.t hs; replace h18 := h18.t hs; replace hu19 := hu19.t hs; replace hb := hb.t hs
  have hR := Stp.refl [] w6 (Cw3)
  refine yM 26 13 ?_
  refine yV (kq 27 (.unOp .not 4 (.tmp 26))) (fun _ => val_not rfl) ?_
  refine yM 28 27 ?_
  refine pX 29 2 false ?_
  refine pX 30 2 false ?_
  refine pX 31 2 false ?_
  refine pX 32 2 false ?_
  refine pX 33 2 false ?_
  refine pW (kg 34 (.call { callee := .value (.func 34), args := #[(.tmp 32), (.tmp 33)], argTypes := #[49, 49] }) 2 false) rfl rfl hR.ext ?_
  refine pX 35 2 false ?_
  refine yOt 36 28 35 ?_
  refine Sch.nil ?_
  refine run_cT 36 ?_
  refine run_draw (id := 7) (ops := F30.o7) [4] (Cw3) [yy 0, yy 1, yy 2, yy 3, yy 4, nn 5, yy 6, nn 7, nn 8, yy 9] Tryz_mixed (by kernel_rfl) (by kernel_rfl) (by kernel_rfl) ?_
  intro w7 hs
  replace hF := hF.st hs
  replace hT := hT.t hs; replace hl := hl.t hs; replace hm := hm.t hs; replace hp := hp.t hs; replace ho := ho.t hs; replace h18 := h18.t hs; replace hu19 := hu19.t hs; replace hb := hb.t hs
  have hR := Stp.refl [4] w7 (Cw3)
  refine yM 37 9 ?_
  refine yF 38 31 4 0 0 ?_
  refine yS (kq 39 (.load 3 (.tmp 38))) rfl rfl (fun w' hS => val_loadOwn (hp.sy hS) (by kernel_rfl) rfl rfl) ?_
  refine yM 40 3 ?_
  refine yS (kq 41 (.load 49 (.tmp 11))) rfl rfl (fun w' hS => val_loadOwnAgg (n := 2) (vs := [.int .u64 (l[k]'hkl).p.n, u19]) (hb.stay hS (by decide)) (by kernel_rfl) (by kernel_rfl) rfl rfl rfl) ?_
  refine cS (kq 42 (.call { callee := .value (.func 37), args := #[(.tmp 41)], argTypes := #[49] })) rfl rfl (ent Tryz.call37 rfl) (link_ok (x := (l[k]'hkl)) hF hu19 hok) ?_
  rintro vw8 w8 ⟨u42, rfl, hs, hu42⟩
  refine ⟨(hR.trans hs (by simp)).ext, ?_⟩
  replace hF := hF.st hs
  replace hT := hT.t hs; replace hl := hl.t hs; replace hm := hm.t hs; replace hp := hp.t hs; replace ho := ho.t hs; replace h18 := h18.t hs; replace hu19 := hu19.t hs; replace hb := hb.t hs; replace hR := hR.t hs
  refine yV (kq 43 (.build 71 #[(0, (.tmp 39)), (1, (.tmp 40)), (2, (.tmp 42))])) (fun _ => val_build (zs := [.int .i64 0, .bool false, .int .u64 0, .slice none 0 0]) (ps := [(0, 1), (1, 1), (2, 2)]) (qs := [(0, [.int .i64 num]), (1, [.bool dr]), (2, [.int .u64 (l[k]'hkl).p.n, u42])]) (cs := [.int .i64 num, .bool dr, .int .u64 (l[k]'hkl).p.n, u42]) (by kernel_rfl) (by kernel_rfl) (by exact ⟨rfl, ⟨_, rfl, rfl⟩, rfl, ⟨_, rfl, rfl⟩, rfl, ⟨_, rfl, rfl⟩, trivial⟩) rfl) ?_
  refine aS (kq 44 (.buildSlice 44 1 #[(0, (.tmp 43))])) rfl rfl (a_buildSlice (ys := ([⟨num, dr, (l[k]'hkl)⟩] : List Ntc)) (e := 71) (bytes := 48) hF (by kernel_rfl) rfl (by decide) (by decide) ⟨rfl, ⟨_, rfl, rv_ntc.2 ⟨u42, rfl, hu42⟩⟩, trivial⟩) ?_
  rintro v44 w9 ⟨hs, g44, hF⟩
  refine ⟨(hR.trans hs (by simp)).ext, ?_⟩
  replace hT := hT.t hs; replace hl := hl.t hs; replace hm := hm.t hs; replace hp := hp.t hs; replace ho := ho.t hs; replace h18 := h18.t hs; replace hu19 := hu19.t hs; replace hb := hb.t hs; replace hR := hR.t hs; replace hu42 := hu42.t hs
  refine aS (kq 45 (.call { callee := .builtin .append, args := #[(.tmp 37), (.tmp 44)], argTypes := #[44, 44] })) rfl rfl (a_append (e := 71) (bytes := 48) hF (by decide) rfl rfl (by kernel_rfl) (by decide) ho g44 (by simp only [List.length_cons, List.length_nil]; omega) (by simp only [List.length_cons, List.length_nil]; omega)) ?_
  rintro v45 w10 ⟨Cw10, hs, ho, hF⟩
  refine ⟨(hR.trans hs (by simp)).ext, ?_⟩
  replace hT := hT.t hs; replace hl := hl.t hs; replace hm := hm.t hs; replace hp := hp.t hs; replace h18 := h18.t hs; replace hu19 := hu19.t hs; replace hb := hb.t hs; replace hR := hR.t hs; replace hu42 := hu42.t hs; replace g44 := g44.t hs
  refine yA 9 45 ?_
  refine Sch.nil ?_
  refine run_inBlock ?_
  refine run_pl [yy 0, yy 1] ?_
  refine yV (kq 46 (.binOp .add 3 (.tmp 16) (.const (.int .i64 1)) 3)) (fun _ => val_addi rfl rfl (by omega) (by omega)) ?_
  refine yM 16 46 ?_
  refine Sch.nil ?_
  refine kp (sub_cons 2 rfl rfl (sub_cons 3 rfl rfl (sub_cons 4 rfl rfl (sub_cons 9 rfl rfl (sub_cons 14 rfl rfl (sub_cons 15 rfl rfl (sub_cons 16 rfl (eq_int (by simp)) (sub_nil _)))))))) (next1 (k + 1, v45, Cw10) _ ⟨(by first | omega | (simp only; omega)), hF, hT, hl, hm, hp, (by simp only; rw [List.take_succ_eq_append_getElem hkl, List.map_append]; exact ho)⟩ (by first | omega | (simp only; omega)))
 ·
  have hkl : k = l.length := by omega
  have hoc : ((l.take k).map (fun x : Lnk => (⟨num, dr, x⟩ : Ntc))).length = k := by rw [List.length_map, List.length_take]; omega
  rw [hkl, List.take_length] at ho hoc
  refine run_ex 0 ?_
  refine run_sq ?_
  refine run_pl [yy 0, yy 1] ?_
  refine yM 47 9 ?_
  refine yA 8 47 ?_
  refine Sch.nil ?_
  refine run_ret1 (by kernel_rfl) Tryz.func30 Tryz.results30 rfl ?_
  exact ⟨hT.out1 (by decide), ho.out hT hF0 (Mc_col1 C) (fun b _ => col1_lt C (by decide) b) (by omega)⟩
namespace F12
noncomputable def c0 := bodyOf Tryz.f12
noncomputable def o7 := rops (cl (cr (cr (cr c0))))
end F12
theorem notices_ok {w₀ : World} {C : Nat → Nat} {num ka kb : Int} {rs : List Int} {vr : Value} {lv : Bool} {l : List Lnk} {vl vm : Value} (hF : Lim w₀ C) (hr : RV w₀ (Mc C) rs vr) (hrs : RgsOK rs) (hn1 : 1 ≤ num) (hn4 : num ≤ 4) (hm : RV w₀ (Mc C) ([] : List Lnk) vm) (hl : RV w₀ (Mc C) l vl) (h1 : l.length ≤ 1) (hV : ∀ x ∈ l, RgsOK x.regs ∧ ∀ y ∈ x.regs, y ∈ rs) (hW : ∀ x ∈ l, x.regs.length ≤ 1000000) : Calls Tryz.prog 12 #[.agg #[.int .i64 num, .int .u64 ka, .int .u64 kb, vr, .bool lv], vm, vl] w₀ (Ret fun v w' => ∃ u, v = .tuple #[u, .int .i64 0] ∧ Stp [] w₀ C w' C ∧ RV w' (Mc C) (l.map (fun x : Lnk => (⟨num, false, x⟩ : Ntc))) u) := by
 have hF0 := hF
 have hT := Stp.refl [2, 3, 4, 5, 6, 7, 8, 9] w₀ (col1 C)
 replace hF := hF.col1
 replace hr : RV w₀ (Mc (col1 C)) rs vr := by rw [Mc_col1]; exact hr
 replace hl : RV w₀ (Mc (col1 C)) l vl := by rw [Mc_col1]; exact hl
 replace hm : RV w₀ (Mc (col1 C)) ([] : List Lnk) vm := by rw [Mc_col1]; exact hm
 refine calls_start (c := F12.c0) (N := 32) [.agg #[.int .i64 num, .int .u64 ka, .int .u64 kb, vr, .bool lv], vm, vl] Tryz.func12 (by kernel_rfl) (by kernel_rfl) (by kernel_rfl) ?_
 show Run _ _ _ _ [(0, .agg #[.int .i64 num, .int .u64 ka, .int .u64 kb, vr, .bool lv]), (1, vm), (2, vl)] _ _
 refine run_sq ?_
 refine run_pl [nn 0, yy 1, yy 2] ?_
 refine aS (kq 3 (.box 31 (.tmp 0))) rfl rfl (a_box (cs := [.int .i64 num, .int .u64 ka, .int .u64 kb, vr, .bool lv]) hF 3 rfl rfl) ?_
 rintro _ w1 ⟨Cw1, bw1, rfl, hs, hp, hF⟩
 refine ⟨trivial, ?_⟩
 replace hT := hT.t hs; replace hr := hr.t hs; replace hl := hl.t hs; replace hm := hm.t hs
 refine yV (kq 6 (.assign (.const (.slice none 0 0)))) (fun _ => val_assign rfl) ?_
 refine yAc 7 (.int .i64 0) ?_
 refine Sch.nil ?_
 refine run_sq ?_
 refine run_sq ?_
 refine run_pl [nn 0, yy 1, nn 2, yy 3] ?_
 refine nS (kq 10 (.load 31 (.tmp 3))) rfl rfl trivial (val_loadOwnAgg (n := 5) (vs := [.int .i64 num, .int .u64 ka, .int .u64 kb, vr, .bool lv]) hp.at_ (by kernel_rfl) (by kernel_rfl) rfl rfl rfl) ?_
 refine yM 11 1 ?_
 refine cS (kq 12 (.call { callee := .value (.func 15), args := #[(.tmp 10), (.tmp 11)], argTypes := #[31, 38] })) rfl rfl (ent Tryz.call15 rfl) (valid_ok hF hr hrs hn1 hn4 hm (by simp) (by simp)) ?_
 rintro vw2 w2 ⟨rfl, hs⟩
 refine ⟨trivial, ?_⟩
 replace hF := hF.st hs
 replace hT := hT.t hs; replace hr := hr.t hs; replace hl := hl.t hs; replace hm := hm.t hs; replace hp := hp.t hs
 refine yA 8 12 ?_
 refine Sch.nil ?_
 refine run_sq ?_
 refine run_pl [yy 0, yy 1] ?_
 refine yM 13 8 ?_
 refine yV (kq 14 (.binOp .neq 39 (.tmp 13) (.const (.int .i64 0)) 39)) (fun _ => val_is (val_neq rfl rfl) (show _ = Value.bool false from congrArg Value.bool (decide_eq_false (by decide)))) ?_
 refine Sch.nil ?_
 refine run_cF 14 ?_
 refine run_sk ?_
 refine run_sq ?_
 refine run_sq ?_
 refine run_pl [nn 0, yy 1, nn 2, yy 3] ?_
 refine nS (kq 16 (.load 31 (.tmp 3))) rfl rfl trivial (val_loadOwnAgg (n := 5) (vs := [.int .i64 num, .int .u64 ka, .int .u64 kb, vr, .bool lv]) hp.at_ (by kernel_rfl) (by kernel_rfl) rfl rfl rfl) ?_
 refine yM 17 2 ?_
 refine cS (kq 18 (.call { callee := .value (.func 15), args := #[(.tmp 16), (.tmp 17)], argTypes := #[31, 38] })) rfl rfl (ent Tryz.call15 rfl) (valid_ok hF hr hrs hn1 hn4 hl h1 hV) ?_
 rintro vw3 w3 ⟨rfl, hs⟩
 refine ⟨trivial, ?_⟩
 replace hF := hF.st hs
 replace hT := hT.t hs; replace hr := hr.t hs; replace hl := hl.t hs; replace hm := hm.t hs; replace hp := hp.t hs
 refine yA 9 18 ?_
 refine Sch.nil ?_
 refine run_sq ?_
 refine run_pl [yy 0, yy 1] ?_
 refine yM 19 9 ?_
 refine yV (kq 20 (.binOp .neq 39 (.tmp 19) (.const (.int .i64 0)) 39)) (fun _ => val_is (val_neq rfl rfl) (show _ = Value.bool false from congrArg Value.bool (decide_eq_false (by decide)))) ?_
 refine Sch.nil ?_
 refine run_cF 20 ?_
 refine run_sk ?_
 refine run_sq ?_
 refine run_draw (id := 7) (ops := F12.o7) [] (Cw1) [yy 0, yy 1, yy 2, yy 4, yy 5, yy 6, nn 3, nn 7, nn 8, nn 9, yy 10, yy 11] Tryz_mixed (by kernel_rfl) (by kernel_rfl) (by kernel_rfl) ?_
 intro w4 hs
 replace hF := hF.st hs
 replace hT := hT.t hs; replace hr := hr.t hs; replace hl := hl.t hs; replace hm := hm.t hs; replace hp := hp.t hs
 have hR := Stp.refl [] w4 (Cw1)
 refine yS (kq 22 (.load 31 (.tmp 3))) rfl rfl (fun w' hS => val_loadOwnAgg (n := 5) (vs := [.int .i64 num, .int .u64 ka, .int .u64 kb, vr, .bool lv]) (hp.stay hS (by decide)) (by kernel_rfl) (by kernel_rfl) rfl rfl rfl) ?_
 refine yM 23 1 ?_
 refine yM 24 2 ?_
 refine yS (kq 26 (.load 31 (.tmp 3))) rfl rfl (fun w' hS => val_loadOwnAgg (n := 5) (vs := [.int .i64 num, .int .u64 ka, .int .u64 kb, vr, .bool lv]) (hp.stay hS (by decide)) (by kernel_rfl) (by kernel_rfl) rfl rfl rfl) ?_
 refine yM 27 2 ?_
 refine yM 28 1 ?_
 refine cS (kq 25 (.call { callee := .value (.func 30), args := #[(.tmp 22), (.tmp 23), (.tmp 24), (.const (.bool true))], argTypes := #[31, 38, 38, 4] })) rfl rfl (ent Tryz.call30 rfl) (without_ok (l := ([] : List Lnk)) (m := l) (dr := true) hF hr hm hl (by simp) (.inl rfl) (by simp)) ?_
 rintro vw5 w5 ⟨hs, ga⟩
 refine ⟨(hR.trans hs (by simp)).ext, ?_⟩
 replace hF := hF.st hs
 replace hT := hT.t hs; replace hr := hr.t hs; replace hl := hl.t hs; replace hm := hm.t hs; replace hp := hp.t hs; replace hR := hR.t hs
 refine cS (kq 29 (.call { callee := .value (.func 30), args := #[(.tmp 26), (.tmp 27), (.tmp 28), (.const (.bool false))], argTypes := #[31, 38, 38, 4] })) rfl rfl (ent Tryz.call30 rfl) (without_ok (l := l) (m := ([] : List Lnk)) (dr := false) hF hr hl hm hW (.inr rfl) (by omega)) ?_
 rintro vw6 w6 ⟨hs, gb⟩
 refine ⟨(hR.trans hs (by simp)).ext, ?_⟩
 replace hF := hF.st hs
 replace hT := hT.t hs; replace hr := hr.t hs; replace hl := hl.t hs; replace hm := hm.t hs; replace hp := hp.t hs; replace hR := hR.t hs; replace ga := ga.t hs
 refine aS (kq 30 (.buildSlice 96 2 #[(0, (.tmp 25)), (1, (.tmp 29))])) rfl rfl (a_buildSlice (ys := ([([] : List Ntc), l.map (fun x : Lnk => (⟨num, false, x⟩ : Ntc))])) (e := 44) (bytes := 24) hF (by kernel_rfl) rfl (by decide) (by decide) ⟨rfl, ⟨_, rfl, ga⟩, rfl, ⟨_, rfl, gb⟩, trivial⟩) ?_
 rintro v30 w7 ⟨hs, gc, hF⟩
 refine ⟨(hR.trans hs (by simp)).ext, ?_⟩
 replace hT := hT.t hs; replace hr := hr.t hs; replace hl := hl.t hs; replace hm := hm.t hs; replace hp := hp.t hs; replace hR := hR.t hs; replace ga := ga.t hs; replace gb := gb.t hs
 refine cS (kq 31 (.call { callee := .value (.func 29), args := #[(.tmp 30)], argTypes := #[96] })) rfl rfl (ent Tryz.call29 rfl) (concatR_ok hF gc (by simp only [List.flatten_cons, List.flatten_nil, List.nil_append, List.append_nil, List.length_map]; omega)) ?_
 rintro vd w8 ⟨hs, gd⟩
 refine ⟨(hR.trans hs (by simp)).ext, ?_⟩
 replace hF := hF.st hs
 replace hT := hT.t hs; replace hr := hr.t hs; replace hl := hl.t hs; replace hm := hm.t hs; replace hp := hp.t hs; replace hR := hR.t hs; replace ga := ga.t hs; replace gb := gb.t hs; replace gc := gc.t hs
 refine yA 6 31 ?_
 refine yAc 7 (.int .i64 0) ?_
 refine Sch.nil ?_
 refine run_ret2 (by kernel_rfl) Tryz.func12 Tryz.results12 rfl rfl ?_
 simp only [List.flatten_cons, List.flatten_nil, List.nil_append, List.append_nil] at gd
 exact ⟨vd, rfl, hT.out1 (by decide), gd.out hT hF0 (Mc_col1 C)⟩
end Go.Proofs.YtfkggfmibpigpaaGreatDoor

/- Steps through functions of the program. -/
set_option linter.unusedVariables false
set_option linter.unusedSimpArgs false
set_option maxRecDepth 100000
set_option maxHeartbeats 4000000
namespace Go.Proofs.YtfkggfmibpigpaaGreatDoor
open Go.K Go.K.Rep
namespace F53
noncomputable def c0 := bodyOf Tryz.f53
end F53
theorem each0_ok (w₀ : World) : Calls Tryz.prog 53 #[.slice none 0 0, .func (.func 37) #[] #[]] w₀ (Ret fun v w' => v = .slice none 0 0 ∧ w' = w₀) := by
 refine calls_start (c := F53.c0) (N := 28) [.slice none 0 0, .func (.func 37) #[] #[]] Tryz.func53 (by kernel_rfl) (by kernel_rfl) (by kernel_rfl) ?_
 show Run _ _ _ _ [(0, .slice none 0 0), (1, .func (.func 37) #[] #[])] _ _
 refine run_sq ?_
 refine run_pl [yy 0] ?_
 refine yV (kq 4 (.assign (.const (.slice none 0 0)))) (fun _ => val_assign rfl) ?_
 refine Sch.nil ?_
 refine run_sq ?_
 refine run_sq ?_
 refine run_pl [yy 0, yy 1] ?_
 refine yM 8 0 ?_
 refine yV (kq 9 (.binOp .eql 38 (.tmp 8) (.const (.slice none 0 0)) 38)) (fun _ => val_eqNilN rfl Tryz.underlying38) ?_
 refine Sch.nil ?_
 refine run_cT 9 ?_
 refine run_sq ?_
 refine run_pl [yy 0] ?_
 refine yV (kq 4 (.assign (.const (.slice none 0 0)))) (fun _ => val_assign rfl) ?_
 refine Sch.nil ?_
 refine run_ret1 (by kernel_rfl) Tryz.func53 Tryz.results53 rfl ?_
 exact ⟨rfl, rfl⟩
namespace F31
noncomputable def c0 := bodyOf Tryz.f31
end F31
theorem links0_ok (w₀ : World) : Calls Tryz.prog 31 #[.slice none 0 0] w₀ (Ret fun v w' => v = .slice none 0 0 ∧ w' = w₀) := by
 refine calls_start (c := F31.c0) (N := 5) [.slice none 0 0] Tryz.func31 (by kernel_rfl) (by kernel_rfl) (by kernel_rfl) ?_
 show Run _ _ _ _ [(0, .slice none 0 0)] _ _
 refine run_sq ?_
 refine run_pl [yy 0] ?_
 refine yV (kq 2 (.assign (.const (.slice none 0 0)))) (fun _ => val_assign rfl) ?_
 refine Sch.nil ?_
 refine run_sq ?_
 refine run_pl [yy 0, nn 1, yy 2] ?_
 refine yM 3 0 ?_
 refine cS (kq 4 (.call { callee := .value (.func 53), args := #[(.tmp 3), (.func 37)], argTypes := #[38, 80] })) rfl rfl (ent Tryz.call53 rfl) (each0_ok _) ?_
 rintro vw1 w1 ⟨rfl, rfl⟩
 refine ⟨trivial, ?_⟩
 refine yA 2 4 ?_
 refine Sch.nil ?_
 refine run_ret1 (by kernel_rfl) Tryz.func31 Tryz.results31 rfl ?_
 exact ⟨rfl, rfl⟩
namespace F36
noncomputable def c0 := bodyOf Tryz.f36
end F36
theorem ins0_ok {w₀ : World} {C : Nat → Nat} {x : Lnk} {vx : Value} (hF : Lim w₀ C) (hx : RV w₀ (Mc C) [x] vx) : Calls Tryz.prog 36 #[.slice none 0 0, .int .i64 0, vx] w₀ (Ret fun v w' => Stp [] w₀ C w' C ∧ RV w' (Mc C) [x] v) := by
 have hF0 := hF
 have hT := Stp.refl [2, 3, 4, 5, 6, 7, 8, 9] w₀ (col1 C)
 replace hF := hF.col1
 replace hx : RV w₀ (Mc (col1 C)) [x] vx := by rw [Mc_col1]; exact hx
 have hz : RV w₀ (Mc (col1 C)) ([] : List Lnk) (.slice none 0 0) := rv_nil
 have hl0 : ([] : List Lnk).length = 0 := rfl
 refine calls_start (c := F36.c0) (N := 95) [.slice none 0 0, .int .i64 0, vx] Tryz.func36 (by kernel_rfl) (by kernel_rfl) (by kernel_rfl) ?_
 show Run _ _ _ _ [(0, .slice none 0 0), (1, .int .i64 0), (2, vx)] _ _
 refine run_sq ?_
 refine run_pl [yy 0] ?_
 refine yV (kq 6 (.assign (.const (.slice none 0 0)))) (fun _ => val_assign rfl) ?_
 refine Sch.nil ?_
 refine run_sq ?_
 refine run_pl [yy 0, yy 1, yy 2] ?_
 refine yM 10 0 ?_
 refine yM 11 1 ?_
 refine sFR (e' := 49) (kq 12 (.slice 38 (.tmp 10) (some (.tmp 11)) none none)) rfl rfl hz rfl (by kernel_rfl) rfl (by omega) (by omega) ?_
 intro v12 h12
 try simp only [Int.toNat_natCast] at h12
 refine Sch.nil ?_
 refine run_sq ?_
 refine run_pl [yy 0, yy 1, yy 2] ?_
 refine yM 13 2 ?_
 refine yS (kq 14 (.call { callee := .builtin .len, args := #[(.tmp 13)], argTypes := #[38] })) rfl rfl (fun w' hS => hx.lenV rfl Tryz.underlying38 w' ) ?_
 refine yA 7 14 ?_
 refine Sch.nil ?_
 refine run_sq ?_
 refine run_sq ?_
 refine run_pl [yy 0, yy 1] ?_
 refine yM 15 7 ?_
 refine yV (kq 16 (.binOp .eql 3 (.tmp 15) (.const (.int .i64 0)) 3)) (fun _ => val_is (val_eql rfl rfl) (show _ = Value.bool false from congrArg Value.bool (decide_eq_false (by simp)))) ?_
 refine Sch.nil ?_
 refine run_cF 16 ?_
 refine run_sk ?_
 refine run_sq ?_
 refine run_pl [yy 0, yy 1, yy 2] ?_
 refine yM 18 0 ?_
 refine yS (kq 19 (.call { callee := .builtin .len, args := #[(.tmp 18)], argTypes := #[38] })) rfl rfl (fun w' hS => hz.lenV rfl Tryz.underlying38 w' ) ?_
 refine yA 8 19 ?_
 refine Sch.nil ?_
 refine run_sq ?_
 refine run_sq ?_
 refine run_pl [yy 0, yy 1, yy 2] ?_
 refine yM 20 1 ?_
 refine yM 21 8 ?_
 refine yV (kq 22 (.binOp .eql 3 (.tmp 20) (.tmp 21) 3)) (fun _ => val_is (val_eql rfl rfl) (show _ = Value.bool true from congrArg Value.bool (decide_eq_true (by simp)))) ?_
 refine Sch.nil ?_
 refine run_cT 22 ?_
 refine run_sq ?_
 refine run_pl [yy 0, yy 1, nn 2, yy 3] ?_
 refine yM 23 0 ?_
 refine yM 24 2 ?_
 have ho : OwnL w₀ (col1 C) 3 49 (.slice none 0 0) ([] : List Lnk) := OwnL.nil
 refine aS (kq 25 (.call { callee := .builtin .append, args := #[(.tmp 23), (.tmp 24)], argTypes := #[38, 38] })) rfl rfl (a_append (e := 49) (bytes := 32) hF (by decide) rfl rfl (by kernel_rfl) (by decide) ho hx (by simp) (by simp)) ?_
 rintro v25 w1 ⟨Cw1, hs, ho, hF⟩
 refine ⟨trivial, ?_⟩
 replace hT := hT.t hs; replace hx := hx.t hs; replace hz := hz.t hs; replace h12 := h12.t hs
 refine yA 6 25 ?_
 refine Sch.nil ?_
 refine run_ret1 (by kernel_rfl) Tryz.func36 Tryz.results36 rfl ?_
 exact ⟨hT.out1 (by decide), ho.out hT hF0 (Mc_col1 C) (fun b _ => col1_lt C (by decide) b) (by simp)⟩
namespace F13
noncomputable def c0 := bodyOf Tryz.f13
noncomputable def c17 := (cr (cl (cr (cr (cr c0)))))
noncomputable def c26 := (cl (cr (cr (cl (cl c17)))))
noncomputable def c40 := (cl (cr (cr (cr (cl c26)))))
noncomputable def o12 := rops (cl c40)
end F13
theorem apply_ok {w₀ : World} {C : Nat → Nat} {num ka kb : Int} {rs : List Int} {vr : Value} {lv : Bool} {y : Lnk} {vl : Value} (hF : Lim w₀ C) (hr : RV w₀ (Mc C) rs vr) (hrs : RgsOK rs) (hn1 : 1 ≤ num) (hn4 : num ≤ 4) (hl : RV w₀ (Mc C) ([⟨num, false, y⟩] : List Ntc) vl) (hV : RgsOK y.regs ∧ ∀ z ∈ y.regs, z ∈ rs) (hW : y.regs.length ≤ 1000000) : Calls Tryz.prog 13 #[.agg #[.int .i64 num, .int .u64 ka, .int .u64 kb, vr, .bool lv], .slice none 0 0, vl] w₀ (Ret fun v w' => ∃ u, v = .tuple #[u, .int .i64 0] ∧ Stp [] w₀ C w' C ∧ RV w' (Mc C) [y] u) := by
 have hF0 := hF
 have hT := Stp.refl [2, 3, 4, 5, 6, 7, 8, 9] w₀ (col1 C)
 replace hF := hF.col1
 replace hr : RV w₀ (Mc (col1 C)) rs vr := by rw [Mc_col1]; exact hr
 replace hl : RV w₀ (Mc (col1 C)) ([⟨num, false, y⟩] : List Ntc) vl := by rw [Mc_col1]; exact hl
 refine calls_start (c := F13.c0) (N := 88) [.agg #[.int .i64 num, .int .u64 ka, .int .u64 kb, vr, .bool lv], .slice none 0 0, vl] Tryz.func13 (by kernel_rfl) (by kernel_rfl) (by kernel_rfl) ?_
 show Run _ _ _ _ [(0, .agg #[.int .i64 num, .int .u64 ka, .int .u64 kb, vr, .bool lv]), (1, .slice none 0 0), (2, vl)] _ _
 refine run_sq ?_
 refine run_pl [nn 0, yy 1, yy 2] ?_
 refine aS (kq 3 (.box 31 (.tmp 0))) rfl rfl (a_box (cs := [.int .i64 num, .int .u64 ka, .int .u64 kb, vr, .bool lv]) hF 3 rfl rfl) ?_
 rintro _ w1 ⟨Cw1, bw1, rfl, hs, hp, hF⟩
 refine ⟨trivial, ?_⟩
 replace hT := hT.t hs; replace hr := hr.t hs; replace hl := hl.t hs
 refine yV (kq 6 (.assign (.const (.slice none 0 0)))) (fun _ => val_assign rfl) ?_
 refine yAc 7 (.int .i64 0) ?_
 refine Sch.nil ?_
 refine run_sq ?_
 refine run_sq ?_
 refine run_pl [nn 0, yy 1, nn 2, yy 3] ?_
 refine nS (kq 14 (.load 31 (.tmp 3))) rfl rfl trivial (val_loadOwnAgg (n := 5) (vs := [.int .i64 num, .int .u64 ka, .int .u64 kb, vr, .bool lv]) hp.at_ (by kernel_rfl) (by kernel_rfl) rfl rfl rfl) ?_
 refine yM 15 1 ?_
 refine cS (kq 16 (.call { callee := .value (.func 15), args := #[(.tmp 14), (.tmp 15)], argTypes := #[31, 38] })) rfl rfl (ent Tryz.call15 rfl) (valid_ok hF hr hrs hn1 hn4 (l := []) rv_nil (by simp) (by simp)) ?_
 rintro vw2 w2 ⟨rfl, hs⟩
 refine ⟨trivial, ?_⟩
 replace hF := hF.st hs
 replace hT := hT.t hs; replace hr := hr.t hs; replace hl := hl.t hs; replace hp := hp.t hs
 refine yA 8 16 ?_
 refine Sch.nil ?_
 refine run_sq ?_
 refine run_pl [yy 0, yy 1] ?_
 refine yM 17 8 ?_
 refine yV (kq 18 (.binOp .neq 39 (.tmp 17) (.const (.int .i64 0)) 39)) (fun _ => val_is (val_neq rfl rfl) (show _ = Value.bool false from congrArg Value.bool (decide_eq_false (by decide)))) ?_
 refine Sch.nil ?_
 refine run_cF 18 ?_
 refine run_sk ?_
 refine run_sq ?_
 refine run_pl [yy 0, nn 1, yy 2] ?_
 refine yM 20 1 ?_
 refine cS (kq 21 (.call { callee := .value (.func 31), args := #[(.tmp 20)], argTypes := #[38] })) rfl rfl (ent Tryz.call31 rfl) (links0_ok _) ?_
 rintro vw3 w3 ⟨rfl, rfl⟩
 refine ⟨trivial, ?_⟩
 refine yA 9 21 ?_
 refine Sch.nil ?_
 refine run_sq ?_
 refine run_sq ?_
 refine run_pl [yy 0, yy 1, yy 2] ?_
 refine yM 22 2 ?_
 refine yS (kq 23 (.call { callee := .builtin .len, args := #[(.tmp 22)], argTypes := #[44] })) rfl rfl (fun w' hS => hl.lenV rfl Tryz.underlying44 w' ) ?_
 refine yV (kq 24 (.move (.const (.int .i64 0)))) (fun _ => val_move rfl) ?_
 refine Sch.nil ?_
 refine run_bk 0 ?_
 
 refine run_lp (ι := Nat × Value × (List Lnk) × (Nat → Nat)) (I := fun x w => x.1 ≤ 1 ∧ (x.1 = 0 → x.2.1 = .slice none 0 0 ∧ x.2.2.1 = []) ∧ (x.1 = 1 → x.2.2.1 = [y]) ∧ Lim w x.2.2.2 ∧ Stp [2, 3, 4, 5, 6, 7, 8, 9] w₀ (col1 C) w x.2.2.2 ∧ RV w (Mc x.2.2.2) ([⟨num, false, y⟩] : List Ntc) vl ∧ RV w (Mc x.2.2.2) rs vr ∧ OwnB w x.2.2.2 3 bw1 (.cells [.int .i64 num, .int .u64 ka, .int .u64 kb, vr, .bool lv].toArray 31) ∧ RV w (Mc x.2.2.2) x.2.2.1 x.2.1) (e := fun x => [(3, .pointer (some ⟨bw1, 0, none⟩)), (9, x.2.1), (22, vl), (23, .int .i64 1), (24, .int .i64 x.1)]) (m := fun x => 1 - x.1) (x₀ := (0, .slice none 0 0, [], Cw1)) (sr 3 (sr 9 (sr 22 (sr 23 (sr 24 (sub_nil _)))))) ?_ ?_
 · exact ⟨by omega, fun _ => ⟨rfl, rfl⟩, fun e => by omega, hF, hT, hl, hr, hp, rv_nil⟩
 intro ⟨k, vo, L, C1⟩ w4 hI next
 obtain ⟨hk, h0, h1, hF, hT, hl, hr, hp, hv⟩ := hI
 try simp only at hk h0 h1 hF hT hl hr hp hv
 have next1 := next
 clear next
 show Run _ _ _ _ [(3, .pointer (some ⟨bw1, 0, none⟩)), (9, vo), (22, vl), (23, .int .i64 1), (24, .int .i64 k)] _ _
 refine run_sq ?_
 refine run_pl [yy 0] ?_
 refine yV (kq 25 (.binOp .lss 3 (.tmp 24) (.tmp 23) 3)) (fun _ => val_lss rfl rfl) ?_
 refine Sch.nil ?_
 refine run_sq ?_
 refine run_i 25 rfl (fun h25 => ?_) (fun h25 => ?_)
 ·
  obtain rfl : k = 0 := by omega
  obtain ⟨rfl, rfl⟩ := h0 rfl
  have hln : ([⟨num, false, y⟩] : List Ntc).length = 1 := rfl
  refine run_sk ?_
  refine run_sq ?_
  refine run_bk 1 ?_
  refine run_sq ?_
  refine run_pl [yy 0, nn 1, nn 2, nn 3] ?_
  refine iS (e := 71) (kq 26 (.indexAddr 44 (.tmp 22) (.tmp 24))) rfl rfl hl rfl (by kernel_rfl) rfl (by omega) (by omega) ?_
  intro b26 o26 h26
  try simp only [Int.toNat_natCast] at h26
  refine lNA (kq 27 (.load 71 (.tmp 26))) rfl rfl trivial h26 (by kernel_rfl) (by kernel_rfl) rfl rfl ?_
  intro v27 g27
  replace g27 : RV _ _ (⟨num, false, y⟩ : Ntc) v27 := g27
  obtain ⟨u27, rfl, hu27⟩ := rv_ntc.1 g27
  refine aS (kq 11 (.alloc 71)) rfl rfl (a_alloc (cs := [.int .i64 0, .bool false, .int .u64 0, .slice none 0 0]) hF 4 (by kernel_rfl)) ?_
  rintro _ w5 ⟨Cw5, bw5, rfl, hs, hb, hF⟩
  refine ⟨trivial, ?_⟩
  replace hT := hT.t hs; replace hl := hl.t hs; replace hr := hr.t hs; replace hp := hp.t hs; replace hv := hv.t hs; replace h26 := h26.t hs; replace hu27 := hu27.t hs
  refine aN (k0 (.store 71 (.tmp 11) (.tmp 27))) rfl (a_storeAll (vs := [.int .i64 num, .bool false, .int .u64 y.p.n, u27]) (n := 4) rfl rfl (by kernel_rfl) rfl rfl (by intro u hu; simp only [List.mem_cons, List.not_mem_nil, or_false] at hu; rcases hu with rfl | rfl | rfl | rfl <;> first | rfl | exact (hu27.one rfl).2) hb rfl) ?_
  rintro _ w6 ⟨rfl, hs, hb⟩
  refine ⟨trivial, ?_⟩
  replace hF := hF.st hs
  replace hT := hT.t hs; replace hl := hl.t hs; replace hr := hr.t hs; replace hp := hp.t hs; replace hv := hv.t hs; replace h26 := h26.t hs; replace hu27 := hu27.t hs
  refine Sch.nil ?_
  refine run_sq ?_
  refine run_sq ?_
  refine run_pl [yy 0, nn 1, yy 2, nn 3, yy 4, yy 5, nn 6, yy 7, yy 8, nn 9, nn 10, yy 11, yy 12] ?_
  refine yF 28 71 11 0 0 ?_
  refine nS (kq 29 (.load 3 (.tmp 28))) rfl rfl trivial (val_loadOwn hb.at_ (by kernel_rfl) rfl rfl) ?_
  refine yF 30 31 3 0 0 ?_
  refine nS (kq 31 (.load 3 (.tmp 30))) rfl rfl trivial (val_loadOwn hp.at_ (by kernel_rfl) rfl rfl) ?_
  refine yV (kq 32 (.binOp .neq 3 (.tmp 29) (.tmp 31) 3)) (fun _ => val_is (val_neq rfl rfl) (show _ = Value.bool false from congrArg Value.bool (decide_eq_false (by simp)))) ?_
  refine yM 33 32 ?_
  refine nS (kg 34 (.load 31 (.tmp 3)) 5 false) rfl rfl trivial (val_loadOwnAgg (n := 5) (vs := [.int .i64 num, .int .u64 ka, .int .u64 kb, vr, .bool lv]) hp.at_ (by kernel_rfl) (by kernel_rfl) rfl rfl rfl) ?_
  refine yFg 35 71 11 2 2 5 false ?_
  refine yFg 36 49 35 1 1 5 false ?_
  refine nS (kg 37 (.load 22 (.tmp 36)) 5 false) rfl rfl trivial (val_loadOwn hb.at_ (by kernel_rfl) rfl rfl) ?_
  refine cS (kg 38 (.call { callee := .value (.func 32), args := #[(.tmp 34), (.tmp 37)], argTypes := #[31, 22] }) 5 false) rfl rfl (ent Tryz.call32 rfl) (fits_ok hF hr hu27 hV.1 hV.2) ?_
  rintro vw7 w7 ⟨rfl, hs⟩
  refine ⟨trivial, ?_⟩
  replace hF := hF.st hs
  replace hT := hT.t hs; replace hl := hl.t hs; replace hr := hr.t hs; replace hp := hp.t hs; replace hv := hv.t hs; replace h26 := h26.t hs; replace hu27 := hu27.t hs; replace hb := hb.t hs
  refine yV (kg 39 (.unOp .not 4 (.tmp 38)) 5 false) (fun _ => val_not rfl) ?_
  refine yOf 40 33 39 ?_
  refine Sch.nil ?_
  refine run_cF 40 ?_
  refine run_sk ?_
  refine run_sq ?_
  refine run_pl [yy 0, yy 1, nn 2, nn 3, yy 4, yy 5, yy 6, yy 7, yy 8] ?_
  refine yM 42 9 ?_
  refine yF 43 71 11 2 2 ?_
  refine nS (kq 44 (.load 49 (.tmp 43))) rfl rfl trivial (val_loadOwnAgg (n := 2) (vs := [.int .u64 y.p.n, u27]) hb.at_ (by kernel_rfl) (by kernel_rfl) rfl rfl rfl) ?_
  refine cS (kq 45 (.call { callee := .value (.func 33), args := #[(.tmp 42), (.tmp 44), (.func 28)], argTypes := #[38, 49, 68] })) rfl rfl (ent Tryz.call33 rfl) (bs0_ok (y := y) hF hv) ?_
  rintro vw8 w8 ⟨rfl, hs⟩
  refine ⟨trivial, ?_⟩
  replace hF := hF.st hs
  replace hT := hT.t hs; replace hl := hl.t hs; replace hr := hr.t hs; replace hp := hp.t hs; replace hv := hv.t hs; replace h26 := h26.t hs; replace hu27 := hu27.t hs; replace hb := hb.t hs
  refine yM 41 45 ?_
  refine yV (kq 46 (.extract (.tmp 41) 0)) (fun _ => val_extract rfl rfl) ?_
  refine yV (kq 47 (.extract (.tmp 41) 1)) (fun _ => val_extract rfl rfl) ?_
  refine yA 12 46 ?_
  refine yA 13 47 ?_
  refine Sch.nil ?_
  refine run_bk 2 ?_
  refine run_sq ?_
  refine run_draw (id := 12) (ops := F13.o12) [] (Cw5) [yy 0, yy 1, yy 2, yy 3, yy 4, yy 5, yy 6, yy 7, yy 8, yy 9, yy 10, yy 11, nn 12, yy 13, yy 14, yy 15, yy 16] Tryz_mixed (by kernel_rfl) (by kernel_rfl) (by kernel_rfl) ?_
  intro w9 hs
  replace hF := hF.st hs
  replace hT := hT.t hs; replace hl := hl.t hs; replace hr := hr.t hs; replace hp := hp.t hs; replace hv := hv.t hs; replace h26 := h26.t hs; replace hu27 := hu27.t hs; replace hb := hb.t hs
  have hR := Stp.refl [] w9 (Cw5)
  refine yF 56 71 11 1 1 ?_
  refine yS (kq 57 (.load 4 (.tmp 56))) rfl rfl (fun w' hS => val_loadOwn (hb.sy hS) (by kernel_rfl) rfl rfl) ?_
  refine yM 58 57 ?_
  refine pX 59 2 true ?_
  refine pX 60 2 true ?_
  refine pX 61 2 true ?_
  refine pX 62 5 false ?_
  refine pX 63 5 false ?_
  refine pX 64 5 false ?_
  refine pX 65 5 false ?_
  refine pX 66 5 false ?_
  refine pX 67 5 false ?_
  refine pW (kg 68 (.call { callee := .value (.func 34), args := #[(.tmp 65), (.tmp 67)], argTypes := #[49, 49] }) 5 false) rfl rfl hR.ext ?_
  refine pX 69 5 false ?_
  refine pX 70 2 true ?_
  refine yAf 71 58 70 ?_
  refine yA 55 71 ?_
  refine Sch.nil ?_
  refine run_cF 55 ?_
  refine run_sq ?_
  refine run_pl [yy 0, nn 1, yy 2] ?_
  refine yF 73 71 11 1 1 ?_
  refine nS (kq 74 (.load 4 (.tmp 73))) rfl rfl trivial (val_loadOwn hb.at_ (by kernel_rfl) rfl rfl) ?_
  refine yA 72 74 ?_
  refine Sch.nil ?_
  refine run_cF 72 ?_
  refine run_sq ?_
  refine run_pl [yy 0, yy 1] ?_
  refine yM 81 13 ?_
  refine yA 80 81 ?_
  refine Sch.nil ?_
  refine run_cF 80 ?_
  refine run_sq ?_
  refine run_pl [yy 0, yy 1, yy 2, yy 3] ?_
  refine yM 83 9 ?_
  refine yS (kq 84 (.call { callee := .builtin .len, args := #[(.tmp 83)], argTypes := #[38] })) rfl rfl (fun w' hS => hv.lenV rfl Tryz.underlying38 w' ) ?_
  refine yV (kq 85 (.binOp .eql 3 (.tmp 84) (.const (.int .i64 4096)) 3)) (fun _ => val_is (val_eql rfl rfl) (show _ = Value.bool false from congrArg Value.bool (decide_eq_false (by simp)))) ?_
  refine yA 82 85 ?_
  refine Sch.nil ?_
  refine run_cF 82 ?_
  refine run_pl [yy 0, yy 1, yy 2, nn 3, nn 4, nn 5, nn 6, yy 7] ?_
  refine yM 48 9 ?_
  refine yM 49 12 ?_
  refine yF 50 71 11 2 2 ?_
  refine nS (kq 51 (.load 49 (.tmp 50))) rfl rfl trivial (val_loadOwnAgg (n := 2) (vs := [.int .u64 y.p.n, u27]) hb.at_ (by kernel_rfl) (by kernel_rfl) rfl rfl rfl) ?_
  refine cS (kq 52 (.call { callee := .value (.func 37), args := #[(.tmp 51)], argTypes := #[49] })) rfl rfl (ent Tryz.call37 rfl) (link_ok (x := y) hF hu27 hW) ?_
  rintro vw10 w10 ⟨u52, rfl, hs, hu52⟩
  refine ⟨trivial, ?_⟩
  replace hF := hF.st hs
  replace hT := hT.t hs; replace hl := hl.t hs; replace hr := hr.t hs; replace hp := hp.t hs; replace hv := hv.t hs; replace h26 := h26.t hs; replace hu27 := hu27.t hs; replace hb := hb.t hs
  refine aS (kq 53 (.buildSlice 38 1 #[(0, (.tmp 52))])) rfl rfl (a_buildSlice (ys := ([y] : List Lnk)) (e := 49) (bytes := 32) hF (by kernel_rfl) rfl (by decide) (by decide) ⟨rfl, ⟨_, rfl, rv_lnk.2 ⟨u52, rfl, hu52⟩⟩, trivial⟩) ?_
  rintro v53 w11 ⟨hs, g53, hF⟩
  refine ⟨trivial, ?_⟩
  replace hT := hT.t hs; replace hl := hl.t hs; replace hr := hr.t hs; replace hp := hp.t hs; replace hv := hv.t hs; replace h26 := h26.t hs; replace hu27 := hu27.t hs; replace hb := hb.t hs; replace hu52 := hu52.t hs
  refine cS (kq 54 (.call { callee := .value (.func 36), args := #[(.tmp 48), (.tmp 49), (.tmp 53)], argTypes := #[38, 3, 38] })) rfl rfl (ent Tryz.call36 rfl) (ins0_ok hF g53) ?_
  rintro v54 w12 ⟨hs, g54⟩
  refine ⟨trivial, ?_⟩
  replace hF := hF.st hs
  replace hT := hT.t hs; replace hl := hl.t hs; replace hr := hr.t hs; replace hp := hp.t hs; replace hv := hv.t hs; replace h26 := h26.t hs; replace hu27 := hu27.t hs; replace hb := hb.t hs; replace hu52 := hu52.t hs; replace g53 := g53.t hs
  refine yA 9 54 ?_
  refine Sch.nil ?_
  refine run_inBlock ?_
  refine run_inBlock ?_
  refine run_pl [yy 0, yy 1] ?_
  refine yV (kq 86 (.binOp .add 3 (.tmp 24) (.const (.int .i64 1)) 3)) (fun _ => val_addi rfl rfl (by omega) (by omega)) ?_
  refine yM 24 86 ?_
  refine Sch.nil ?_
  refine kp (sub_cons 3 rfl rfl (sub_cons 9 rfl rfl (sub_cons 22 rfl rfl (sub_cons 23 rfl rfl (sub_cons 24 rfl rfl (sub_nil _)))))) (next1 (1, v54, [y], Cw5) _ ⟨(by first | omega | (simp only; omega)), (fun e => by simp at e), (fun _ => rfl), hF, hT, hl, hr, hp, g54⟩ (by first | omega | (simp only; omega)))
 ·
  obtain rfl := h1 (by omega)
  refine run_ex 0 ?_
  refine run_sq ?_
  refine run_pl [yy 0, yy 1, yy 2] ?_
  refine yM 87 9 ?_
  refine yA 6 87 ?_
  refine yAc 7 (.int .i64 0) ?_
  refine Sch.nil ?_
  refine run_ret2 (by kernel_rfl) Tryz.func13 Tryz.results13 rfl rfl ?_
  exact ⟨_, rfl, hT.out1 (by decide), hv.out hT hF0 (Mc_col1 C)⟩
end Go.Proofs.YtfkggfmibpigpaaGreatDoor
