/- Steps through functions of the program. -/
import Derived.Test.YtgooehopkmbkfaaJXA
import Derived.Test.YtgooehopkmbkfaaJV3
import Derived.Test.YtgooehopkmbkfaaL2
set_option linter.unusedVariables false
set_option linter.unusedSimpArgs false
set_option maxRecDepth 100000
set_option maxHeartbeats 4000000
namespace Go.Proofs.Ytgooehopkmbkfaa
open Go.K Go.K.Rep

namespace F15
noncomputable def c0 := bodyOf Try.f15
noncomputable def c8 := (cl (cr (cl (cr (cr c0)))))
noncomputable def c15 := (cl (cr (cr (cr (cr c0)))))
noncomputable def c23 := (cl (cr (cr (cl (cr c15)))))
noncomputable def c24 := (cr (cr (cr (cl (cr c15)))))
noncomputable def c33 := (cl (cr (cr (cr (cr c24)))))
noncomputable def c35 := (cr (cr (cr (cr (cr c0)))))
end F15
/-- 'BentEdges'. -/
theorem bentE_any {w₀ : World} {C : Nat → Nat} {i b n m : Nat} (hF : Lim w₀ C) (hi : i ≠ 0) (hd : DeckIs w₀ C i b) (hn8 : n ≤ 8) (hm8 : m ≤ 8) :
    Calls Try.prog 15 #[.pointer (some ⟨b, 0, none⟩), .int .i64 n, .int .i64 m] w₀ (Ret fun v w' => ∃ l : List K.Edge, Stp [i] w₀ C w' C ∧ RV w' (Mc C) l v ∧ DeckIs w' C i b) := by
 have hF0 := hF
 have hbc := hd.colour
 replace hd := hd.col2 hi
 have hT := Stp.refl [2, 3, 4, 5, 6, 7, 8, 9] w₀ (col2 C i)
 replace hF := hF.col2 i
 refine calls_start (c := F15.c0) (N := 62) [.pointer (some ⟨b, 0, none⟩), .int .i64 n, .int .i64 m] Try.func15 (by kernel_rfl) (by kernel_rfl) (by kernel_rfl) ?_
 show Run _ _ _ _ [(0, .pointer (some ⟨b, 0, none⟩)), (1, .int .i64 n), (2, .int .i64 m)] _ _
 refine run_sq ?_
 refine run_pl [yy 0] ?_
 refine yV (kq 6 (.assign (.const (.slice none 0 0)))) (fun _ => val_assign rfl) ?_
 refine Sch.nil ?_
 refine run_sq ?_
 refine run_pl [yy 0, yy 1, yy 2, nn 3, yy 4] ?_
 refine yM 9 0 ?_
 refine yM 10 1 ?_
 refine yM 11 2 ?_
 refine cS (kq 12 (.call { callee := .value (.func 14), args := #[(.tmp 9), (.tmp 10), (.tmp 11), (.const (.int .i64 2))], argTypes := #[27, 3, 3, 3] })) rfl rfl (ent Try.call14 rfl) (edges_any (n := n) (m := m) (one := 2) hF (by decide) hd hn8 hm8 (by decide) (by decide)) ?_
 rintro vb w1 ⟨el, hE, _, hall⟩
 obtain ⟨Cb, hs, hF, ho, hd⟩ := hall 4 (by decide)
 have hel := hE.len
 refine ⟨trivial, ?_⟩
 replace hT := hT.t hs
 refine yA 7 12 ?_
 refine Sch.nil ?_
 refine run_sq ?_
 refine run_sq ?_
 refine run_pl [yy 0, yy 1, yy 2] ?_
 refine yM 13 7 ?_
 refine yS (kq 14 (.call { callee := .builtin .len, args := #[(.tmp 13)], argTypes := #[23] })) rfl rfl (fun w' hS => ho.lenV rfl Try.underlying23 w' ) ?_
 refine yV (kq 15 (.binOp .eql 3 (.tmp 14) (.const (.int .i64 0)) 3)) (fun _ => val_eql rfl rfl) ?_
 refine Sch.nil ?_
 refine run_i 15 rfl (fun h15 => ?_) (fun h15 => ?_)
 ·
  refine run_sq ?_
  refine run_pl [yy 0, yy 1] ?_
  refine yM 16 7 ?_
  refine yA 6 16 ?_
  refine Sch.nil ?_
  refine run_ret1 (by kernel_rfl) Try.func15 Try.results15 rfl ?_
  exact ⟨_, hT.out2 (by decide), ho.out hT hF0 (Mc_col2 C i) (fun b _ => col2_lt C i (by decide) b) (by first | omega | (simp only [List.length_set, List.length_append, List.length_cons, List.length_nil]; omega)), hd.out hT hF0 hbc⟩
 ·
  have hbp : 0 < el.length := by omega
  refine run_sk ?_
  refine run_sq ?_
  refine run_pl [yy 0, yy 1, yy 2, nn 3, yy 4] ?_
  refine yM 17 0 ?_
  refine yM 18 7 ?_
  refine yS (kq 19 (.call { callee := .builtin .len, args := #[(.tmp 18)], argTypes := #[23] })) rfl rfl (fun w' hS => ho.lenV rfl Try.underlying23 w' ) ?_
  refine cS (kq 20 (.call { callee := .value (.func 13), args := #[(.tmp 17), (.tmp 19)], argTypes := #[27, 3] })) rfl rfl (ent Try.call13 rfl) (next_any (n := (el.length : Int)) hF (by decide) hd (by omega) (by omega)) ?_
  rintro vw2 w2 ⟨z, rfl, hz, hs, hd⟩
  refine ⟨trivial, ?_⟩
  replace hF := hF.st hs
  replace hT := hT.t hs; replace ho := ho.t hs
  have hzl : z < el.length := by omega
  refine yA 8 20 ?_
  refine Sch.nil ?_
  refine run_sq ?_
  refine run_sq ?_
  refine run_pl [yy 0, nn 1] ?_
  refine yM 21 0 ?_
  refine cS (kq 22 (.call { callee := .value (.func 13), args := #[(.tmp 21), (.const (.int .i64 8))], argTypes := #[27, 3] })) rfl rfl (ent Try.call13 rfl) (next_any (n := 8) hF (by decide) hd (by omega) (by omega)) ?_
  rintro vw3 w3 ⟨q, rfl, hq, hs, hd⟩
  refine ⟨trivial, ?_⟩
  replace hF := hF.st hs
  replace hT := hT.t hs; replace ho := ho.t hs
  refine Sch.nil ?_
  refine run_bk 0 ?_
  refine run_sq ?_
  refine run_pl [yy 0, yy 1] ?_
  refine yV (kq 24 (.binOp .eql 3 (.tmp 22) (.const (.int .i64 0)) 3)) (fun _ => val_eql rfl rfl) ?_
  refine yA 23 24 ?_
  refine Sch.nil ?_
  refine run_i 23 rfl (fun h23 => ?_) (fun h23 => ?_)
  ·
   refine run_pl [yy 0, yy 1, yy 2, yy 3, nn 4, yy 5, yy 6, nn 7] ?_
   refine yM 25 7 ?_
   refine yM 26 8 ?_
   refine yM 27 0 ?_
   refine yM 28 1 ?_
   refine cS (kq 29 (.call { callee := .value (.func 29), args := #[(.tmp 27), (.const (.int .i64 (-1))), (.tmp 28)], argTypes := #[27, 3, 3] })) rfl rfl (ent Try.call29 rfl) (range_any (lo := -1) (hi := (n : Int)) hF (by decide) hd (by omega) (by decide) (by omega)) ?_
   rintro vw4 w4 ⟨x, rfl, _, _, hs, hd⟩
   refine ⟨trivial, ?_⟩
   replace hF := hF.st hs
   replace hT := hT.t hs; replace ho := ho.t hs
   refine oI (e' := 46) (kq 30 (.indexAddr 23 (.tmp 25) (.tmp 26))) rfl rfl ho rfl (by kernel_rfl) rfl (by omega) (by omega) ?_
   intro g30 hg30
   try simp only [Int.toNat_natCast]
   refine yF 31 46 30 0 0 ?_
   refine aN (k0 (.store 3 (.tmp 31) (.tmp 29))) rfl (a_storeF (off := 0) (k := 1) (us := [.int .i64 x]) (x0 := (⟨x, (el[z]'hzl).b, (el[z]'hzl).w⟩ : K.Edge)) ho hg30 (by omega) rfl rfl (by kernel_rfl) rfl rfl (by intro u hu; rw [List.mem_singleton.1 hu]; rfl) (by decide) (fun vs hv => by rw [rep_edge.1 hv]; exact rep_edge.2 rfl)) ?_
   rintro _ w5 ⟨rfl, hs, ho⟩
   refine ⟨trivial, ?_⟩
   replace hF := hF.st hs
   replace hT := hT.t hs
   replace hd := hd.st hs (by first | decide | (simp <;> omega)) (by first | decide | (simp <;> omega))
   refine Sch.nil ?_
   refine run_inBlock ?_
   refine run_sq ?_
   refine run_pl [yy 0, yy 1] ?_
   refine yM 61 7 ?_
   refine yA 6 61 ?_
   refine Sch.nil ?_
   refine run_ret1 (by kernel_rfl) Try.func15 Try.results15 rfl ?_
   exact ⟨_, hT.out2 (by decide), ho.out hT hF0 (Mc_col2 C i) (fun b _ => col2_lt C i (by decide) b) (by first | omega | (simp only [List.length_set, List.length_append, List.length_cons, List.length_nil]; omega)), hd.out hT hF0 hbc⟩
  ·
   refine run_sq ?_
   refine run_pl [yy 0, yy 1] ?_
   refine yV (kq 33 (.binOp .eql 3 (.tmp 22) (.const (.int .i64 1)) 3)) (fun _ => val_eql rfl rfl) ?_
   refine yA 32 33 ?_
   refine Sch.nil ?_
   refine run_i 32 rfl (fun h32 => ?_) (fun h32 => ?_)
   ·
    refine run_pl [yy 0, yy 1, yy 2, yy 3, nn 4, yy 5, yy 6, nn 7] ?_
    refine yM 34 7 ?_
    refine yM 35 8 ?_
    refine yM 36 0 ?_
    refine yM 37 2 ?_
    refine cS (kq 38 (.call { callee := .value (.func 29), args := #[(.tmp 36), (.const (.int .i64 (-1))), (.tmp 37)], argTypes := #[27, 3, 3] })) rfl rfl (ent Try.call29 rfl) (range_any (lo := -1) (hi := (m : Int)) hF (by decide) hd (by omega) (by decide) (by omega)) ?_
    rintro vw6 w6 ⟨x, rfl, _, _, hs, hd⟩
    refine ⟨trivial, ?_⟩
    replace hF := hF.st hs
    replace hT := hT.t hs; replace ho := ho.t hs
    refine oI (e' := 46) (kq 39 (.indexAddr 23 (.tmp 34) (.tmp 35))) rfl rfl ho rfl (by kernel_rfl) rfl (by omega) (by omega) ?_
    intro g39 hg39
    try simp only [Int.toNat_natCast]
    refine yF 40 46 39 1 1 ?_
    refine aN (k0 (.store 3 (.tmp 40) (.tmp 38))) rfl (a_storeF (off := 1) (k := 1) (us := [.int .i64 x]) (x0 := (⟨(el[z]'hzl).a, x, (el[z]'hzl).w⟩ : K.Edge)) ho hg39 (by omega) rfl rfl (by kernel_rfl) rfl rfl (by intro u hu; rw [List.mem_singleton.1 hu]; rfl) (by decide) (fun vs hv => by rw [rep_edge.1 hv]; exact rep_edge.2 rfl)) ?_
    rintro _ w7 ⟨rfl, hs, ho⟩
    refine ⟨trivial, ?_⟩
    replace hF := hF.st hs
    replace hT := hT.t hs
    replace hd := hd.st hs (by first | decide | (simp <;> omega)) (by first | decide | (simp <;> omega))
    refine Sch.nil ?_
    refine run_inBlock ?_
    refine run_sq ?_
    refine run_pl [yy 0, yy 1] ?_
    refine yM 61 7 ?_
    refine yA 6 61 ?_
    refine Sch.nil ?_
    refine run_ret1 (by kernel_rfl) Try.func15 Try.results15 rfl ?_
    exact ⟨_, hT.out2 (by decide), ho.out hT hF0 (Mc_col2 C i) (fun b _ => col2_lt C i (by decide) b) (by first | omega | (simp only [List.length_set, List.length_append, List.length_cons, List.length_nil]; omega)), hd.out hT hF0 hbc⟩
   ·
    refine run_sq ?_
    refine run_pl [yy 0, yy 1] ?_
    refine yV (kq 42 (.binOp .eql 3 (.tmp 22) (.const (.int .i64 2)) 3)) (fun _ => val_eql rfl rfl) ?_
    refine yA 41 42 ?_
    refine Sch.nil ?_
    refine run_i 41 rfl (fun h41 => ?_) (fun h41 => ?_)
    ·
     refine run_pl [yy 0, yy 1, nn 2, yy 3, nn 4, yy 5, nn 6, yy 7, yy 8, nn 9] ?_
     refine yM 43 7 ?_
     refine yM 44 8 ?_
     refine aS (kq 45 (.buildSlice 22 3 #[(0, (.const (.int .i64 65536))), (1, (.const (.int .i64 65537))), (2, (.const (.int .i64 (-65537))))])) rfl rfl (a_buildSlice (ys := ([65536, 65537, -65537] : List Int)) (e := 3) (bytes := 8) hF (by kernel_rfl) rfl (by decide) (by decide) ⟨rfl, ⟨_, rfl, rv_int.2 rfl⟩, rfl, ⟨_, rfl, rv_int.2 rfl⟩, rfl, ⟨_, rfl, rv_int.2 rfl⟩, trivial⟩) ?_
     rintro v45 w8 ⟨hs, g45, hF⟩
     refine ⟨trivial, ?_⟩
     replace hT := hT.t hs
     replace hd := hd.st hs (by first | decide | (simp <;> omega)) (by first | decide | (simp <;> omega))
     replace ho := ho.t hs
     refine yM 46 0 ?_
     refine cS (kq 47 (.call { callee := .value (.func 13), args := #[(.tmp 46), (.const (.int .i64 3))], argTypes := #[27, 3] })) rfl rfl (ent Try.call13 rfl) (next_any (n := 3) hF (by decide) hd (by omega) (by omega)) ?_
     rintro vw9 w9 ⟨p, rfl, hp, hs, hd⟩
     refine ⟨trivial, ?_⟩
     replace hF := hF.st hs
     replace hT := hT.t hs; replace ho := ho.t hs; replace g45 := g45.t hs
     have h3l : ([65536, 65537, -65537] : List Int).length = 3 := rfl
     refine iS (e := 3) (kq 48 (.indexAddr 22 (.tmp 45) (.tmp 47))) rfl rfl g45 rfl (by kernel_rfl) rfl (by omega) (by omega) ?_
     intro b48 o48 h48
     try simp only [Int.toNat_natCast] at h48
     try simp only [Int.toNat_natCast] at h48
     refine lN (kq 49 (.load 3 (.tmp 48))) rfl rfl trivial h48 (by kernel_rfl) rfl rfl ?_
     intro v49 g49
     first | (obtain rfl := rv_nat.1 g49) | (obtain rfl := rv_int.1 g49)
     refine oI (e' := 46) (kq 50 (.indexAddr 23 (.tmp 43) (.tmp 44))) rfl rfl ho rfl (by kernel_rfl) rfl (by omega) (by omega) ?_
     intro g50 hg50
     try simp only [Int.toNat_natCast]
     refine yF 51 46 50 2 2 ?_
     refine aN (k0 (.store 3 (.tmp 51) (.tmp 49))) rfl (a_storeF (off := 2) (k := 1) (us := [.int .i64 (([65536, 65537, -65537] : List Int)[p]'(by omega))]) (x0 := (⟨(el[z]'hzl).a, (el[z]'hzl).b, (([65536, 65537, -65537] : List Int)[p]'(by omega))⟩ : K.Edge)) ho hg50 (by omega) rfl rfl (by kernel_rfl) rfl rfl (by intro u hu; rw [List.mem_singleton.1 hu]; rfl) (by decide) (fun vs hv => by rw [rep_edge.1 hv]; exact rep_edge.2 rfl)) ?_
     rintro _ w10 ⟨rfl, hs, ho⟩
     refine ⟨trivial, ?_⟩
     replace hF := hF.st hs
     replace hT := hT.t hs
     replace hd := hd.st hs (by first | decide | (simp <;> omega)) (by first | decide | (simp <;> omega))
     replace g45 := g45.t hs; replace h48 := h48.t hs
     refine Sch.nil ?_
     refine run_inBlock ?_
     refine run_sq ?_
     refine run_pl [yy 0, yy 1] ?_
     refine yM 61 7 ?_
     refine yA 6 61 ?_
     refine Sch.nil ?_
     refine run_ret1 (by kernel_rfl) Try.func15 Try.results15 rfl ?_
     exact ⟨_, hT.out2 (by decide), ho.out hT hF0 (Mc_col2 C i) (fun b _ => col2_lt C i (by decide) b) (by first | omega | (simp only [List.length_set, List.length_append, List.length_cons, List.length_nil]; omega)), hd.out hT hF0 hbc⟩
    ·
     refine run_sq ?_
     refine run_pl [yy 0, yy 1] ?_
     refine yV (kq 53 (.binOp .eql 3 (.tmp 22) (.const (.int .i64 3)) 3)) (fun _ => val_eql rfl rfl) ?_
     refine yA 52 53 ?_
     refine Sch.nil ?_
     refine run_i 52 rfl (fun h52 => ?_) (fun h52 => ?_)
     ·
      refine run_pl [yy 0, yy 1, yy 2, yy 3, nn 4, nn 5, nn 6, yy 7] ?_
      refine yM 54 7 ?_
      refine yM 55 7 ?_
      refine yM 56 8 ?_
      refine oI (e' := 46) (kq 57 (.indexAddr 23 (.tmp 55) (.tmp 56))) rfl rfl ho rfl (by kernel_rfl) rfl (by omega) (by omega) ?_
      intro g57 hg57
      try simp only [Int.toNat_natCast]
      refine oNA (kq 58 (.load 46 (.tmp 57))) rfl rfl trivial ho hg57 (by omega) (by kernel_rfl) (by kernel_rfl) rfl rfl ?_
      intro v58 g58
      try simp only [Int.toNat_natCast] at g58
      obtain rfl := rv_edge.1 g58
      refine aS (kq 59 (.buildSlice 23 1 #[(0, (.tmp 58))])) rfl rfl (a_buildSlice (ys := ([(el[z]'hzl)] : List K.Edge)) (e := 46) (bytes := 24) hF (by kernel_rfl) rfl (by decide) (by decide) ⟨rfl, ⟨_, rfl, rv_edge.2 rfl⟩, trivial⟩) ?_
      rintro v59 w11 ⟨hs, g59, hF⟩
      refine ⟨trivial, ?_⟩
      replace hT := hT.t hs
      replace hd := hd.st hs (by first | decide | (simp <;> omega)) (by first | decide | (simp <;> omega))
      replace ho := ho.t hs
      refine aS (kq 60 (.call { callee := .builtin .append, args := #[(.tmp 54), (.tmp 59)], argTypes := #[23, 23] })) rfl rfl (a_append (e := 46) (bytes := 24) hF (by decide) rfl rfl (by kernel_rfl) (by decide) ho g59 (by simp only [List.length_cons, List.length_nil]; omega) (by simp only [List.length_cons, List.length_nil]; omega)) ?_
      rintro v60 w12 ⟨Cw12, hs, ho, hF⟩
      refine ⟨trivial, ?_⟩
      replace hT := hT.t hs
      replace hd := hd.st hs (by first | decide | (simp <;> omega)) (by first | decide | (simp <;> omega))
      replace g59 := g59.t hs
      refine yA 7 60 ?_
      refine Sch.nil ?_
      refine run_inBlock ?_
      refine run_sq ?_
      refine run_pl [yy 0, yy 1] ?_
      refine yM 61 7 ?_
      refine yA 6 61 ?_
      refine Sch.nil ?_
      refine run_ret1 (by kernel_rfl) Try.func15 Try.results15 rfl ?_
      exact ⟨_, hT.out2 (by decide), ho.out hT hF0 (Mc_col2 C i) (fun b _ => col2_lt C i (by decide) b) (by first | omega | (simp only [List.length_set, List.length_append, List.length_cons, List.length_nil]; omega)), hd.out hT hF0 hbc⟩
     ·
      refine run_sk ?_
      refine run_inBlock ?_
      refine run_sq ?_
      refine run_pl [yy 0, yy 1] ?_
      refine yM 61 7 ?_
      refine yA 6 61 ?_
      refine Sch.nil ?_
      refine run_ret1 (by kernel_rfl) Try.func15 Try.results15 rfl ?_
      exact ⟨_, hT.out2 (by decide), ho.out hT hF0 (Mc_col2 C i) (fun b _ => col2_lt C i (by decide) b) (by first | omega | (simp only [List.length_set, List.length_append, List.length_cons, List.length_nil]; omega)), hd.out hT hF0 hbc⟩
namespace F16
noncomputable def c0 := bodyOf Try.f16
end F16
theorem small1_ok {w₀ : World} {x : Int} : Calls Try.prog 16 #[.int .i64 x] w₀ (Ret fun v w' => v = .int .i64 (min x 12) ∧ w' = w₀) := by
 refine calls_start (c := F16.c0) (N := 5) [.int .i64 x] Try.func16 (by kernel_rfl) (by kernel_rfl) (by kernel_rfl) ?_
 show Run _ _ _ _ [(0, .int .i64 x)] _ _
 refine run_sq ?_
 refine run_pl [yy 0] ?_
 refine yAc 2 (.int .i64 0) ?_
 refine Sch.nil ?_
 refine run_sq ?_
 refine run_pl [yy 0, yy 1, yy 2] ?_
 refine yM 3 0 ?_
 refine yV (kq 4 (.call { callee := .builtin .min, args := #[(.tmp 3), (.const (.int .i64 12))], argTypes := #[3, 3] })) (fun _ => val_min rfl rfl Try.underlying3) ?_
 refine yA 2 4 ?_
 refine Sch.nil ?_
 refine run_ret1 (by kernel_rfl) Try.func16 Try.results16 rfl ?_
 exact ⟨rfl, rfl⟩
end Go.Proofs.Ytgooehopkmbkfaa
