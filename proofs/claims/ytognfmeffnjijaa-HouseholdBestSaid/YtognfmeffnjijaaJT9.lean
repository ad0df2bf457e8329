/- Steps through functions of the program. -/
import Derived.Test.YtognfmeffnjijaaJT8
import Derived.Test.YtognfmeffnjijaaL2
set_option linter.unusedVariables false
set_option linter.unusedSimpArgs false
set_option maxRecDepth 100000
set_option maxHeartbeats 4000000
namespace Go.Proofs.Ytognfmeffnjijaa
open Go.K Go.K.Rep

theorem joinsP_ok {w₀ : World} {C : Nat → Nat} {n m gb : Nat} {gr : Gr} {wt : Nat → Nat → Int} {U V : Nat → Int} {fp : FuncId} {cp : Array Value} {pm : Nat → Nat → Bool} {b2 b3 b4 b5 : Nat} {vst vus : Value} {stl : List Int} {usl : List Bool} (hF : Lim w₀ C) (hG : GrIs n m wt U V gr) (hg : RA w₀ (Mc C) gr gb 0) (h2 : RA w₀ (Mc C) (⟨vst⟩ : Sv) b2 0) (h3 : RA w₀ (Mc C) (⟨vus⟩ : Sv) b3 0) (h4 : RA w₀ (Mc C) (⟨.pointer (some ⟨gb, 0, none⟩)⟩ : Sv) b4 0) (h5 : RA w₀ (Mc C) (⟨.func (.func fp) #[] cp⟩ : Sv) b5 0) (hst : RV w₀ (Mc C) stl vst) (hus : RV w₀ (Mc C) usl vus) (hsl : stl.length = n) (hul : usl.length = m) (hcp : ∀ args w, (callFunc fp args).run Try.prog w = .ok (.enter fp args) w) (hpm : ∀ w1, Stp [] w₀ C w1 C → ∀ i j : Nat, i < n → j < m → Calls Try.prog fp ([Value.int .i64 i, Value.int .i64 j] ++ cp.toList).toArray w1 (Ret fun v w2 => v = .bool (pm i j) ∧ Stp [] w1 C w2 C)) {i j : Nat} (hi : i < n) (hj : j < m) :
    Calls Try.prog 47 #[.int .i64 i, .int .i64 j, .pointer (some ⟨b2, 0, none⟩), .pointer (some ⟨b3, 0, none⟩), .pointer (some ⟨b4, 0, none⟩), .pointer (some ⟨b5, 0, none⟩)] w₀ (Ret fun v w' => v = .bool (jP stl usl wt U V pm i j) ∧ Stp [] w₀ C w' C) := by
 have hF0 := hF
 have hT := Stp.refl [2, 3, 4, 5, 6, 7, 8, 9] w₀ (col1 C)
 replace hF := hF.col1
 replace h2 := (show RA w₀ (Mc (col1 C)) _ _ 0 from by rw [Mc_col1]; exact h2)
 replace h3 := (show RA w₀ (Mc (col1 C)) _ _ 0 from by rw [Mc_col1]; exact h3)
 replace h4 := (show RA w₀ (Mc (col1 C)) _ _ 0 from by rw [Mc_col1]; exact h4)
 replace h5 := (show RA w₀ (Mc (col1 C)) _ _ 0 from by rw [Mc_col1]; exact h5)
 replace hg := (show RA w₀ (Mc (col1 C)) _ _ 0 from by rw [Mc_col1]; exact hg)
 replace hst := (show RV w₀ (Mc (col1 C)) _ _ from by rw [Mc_col1]; exact hst)
 replace hus := (show RV w₀ (Mc (col1 C)) _ _ from by rw [Mc_col1]; exact hus)
 have hel := hG.edl
 have hsg : gI stl i = stl[i]'(by omega) := getD_in _
 have hug : gB usl j = usl[j]'(by omega) := getD_in _
 have hrl0 : (gr.edge[i]'(by omega)).length = m := hG.edm _ (List.getElem_mem _)
 have hev : ((gr.edge[i]'(by omega))[j]'(by omega)) = edgeB wt U V i j := by
   have e1 : gr.edge.getD i [] = gr.edge[i]'(by omega) := getD_in _
   rw [← hG.ed _ _ (by omega) (by omega), e1]; exact (getD_in _).symm
 refine calls_start (c := F47.c0) (N := 43) [.int .i64 i, .int .i64 j, .pointer (some ⟨b2, 0, none⟩), .pointer (some ⟨b3, 0, none⟩), .pointer (some ⟨b4, 0, none⟩), .pointer (some ⟨b5, 0, none⟩)] Try.func47 (by kernel_rfl) (by kernel_rfl) (by kernel_rfl) ?_
 show Run _ _ _ _ [(0, .int .i64 i), (1, .int .i64 j), (2, .pointer (some ⟨b2, 0, none⟩)), (3, .pointer (some ⟨b3, 0, none⟩)), (4, .pointer (some ⟨b4, 0, none⟩)), (5, .pointer (some ⟨b5, 0, none⟩))] _ _
 refine run_sq ?_
 refine run_pl [yy 0] ?_
 refine yAc 8 (.bool false) ?_
 refine Sch.nil ?_
 refine kp (sub_cons 0 rfl rfl (sub_cons 1 rfl rfl (sub_cons 2 rfl rfl (sub_cons 3 rfl rfl (sub_cons 4 rfl rfl (sub_cons 5 rfl rfl (sub_nil _))))))) ?_
 refine run_sq ?_
 refine run_cut 8 (jP stl usl wt U V pm i j) (col1 C) ?_ ?_
 ·
  intro hcut
  by_cases hA : stl[i]'(by omega) = -2
  ·
   by_cases hB : usl[j]'(by omega) = true
   ·
    refine run_pl [nn 0, yy 1, yy 2, nn 3, yy 4, yy 5, nn 6, yy 7, yy 8, nn 9, yy 10, yy 11, yy 12, nn 13, yy 14, yy 15, nn 16, yy 17, yy 18, nn 19, yy 20, yy 21, nn 22, yy 23, yy 24, nn 25, yy 26, yy 27, nn 28, yy 29, yy 30, nn 31, yy 32, yy 33, yy 34] ?_
    have hcs := Stp.reflF hF
    refine lN (kq 9 (.load 22 (.tmp 2))) rfl rfl trivial h2 (by kernel_rfl) rfl rfl ?_
    intro v9 g9
    obtain ⟨e9, _⟩ := rv_sv.1 g9
    subst e9
    refine yM 10 0 ?_
    refine iS (e := 3) (kq 11 (.indexAddr 22 (.tmp 9) (.tmp 10))) rfl rfl hst rfl (by kernel_rfl) rfl (by omega) (by omega) ?_
    intro b11 o11 h11
    try simp only [Int.toNat_natCast] at h11
    refine lN (kq 12 (.load 3 (.tmp 11))) rfl rfl trivial h11 (by kernel_rfl) rfl rfl ?_
    intro v12 g12
    first | (obtain rfl := rv_nat.1 g12) | (obtain rfl := rv_int.1 g12)
    skip
    refine yV (kq 13 (.binOp .eql 3 (.tmp 12) (.const (.int .i64 (-2))) 3)) (fun _ => val_T (val_eql rfl rfl) hA) ?_
    refine yM 14 13 ?_
    refine lN (kg 15 (.load 90 (.tmp 3)) 5 true) rfl rfl trivial h3 (by kernel_rfl) rfl rfl ?_
    intro v15 g15
    obtain ⟨e15, _⟩ := rv_sv.1 g15
    subst e15
    refine yMg 16 1 5 true ?_
    refine iS (e := 4) (kg 17 (.indexAddr 90 (.tmp 15) (.tmp 16)) 5 true) rfl rfl hus rfl (by kernel_rfl) rfl (by omega) (by omega) ?_
    intro b17 o17 h17
    try simp only [Int.toNat_natCast] at h17
    refine lN (kg 18 (.load 4 (.tmp 17)) 5 true) rfl rfl trivial h17 (by kernel_rfl) rfl rfl ?_
    intro v18 g18
    obtain rfl := rv_bool.1 g18
    rw [hB]
    refine yV (kg 19 (.unOp .not 4 (.tmp 18)) 5 true) (fun _ => val_not rfl) ?_
    refine yAt 20 14 19 ?_
    refine yM 21 20 ?_
    refine pW (kg 22 (.load 59 (.tmp 4)) 12 true) rfl rfl trivial ?_
    refine pX 23 12 true ?_
    refine pX 24 12 true ?_
    refine pW (kg 25 (.load 68 (.tmp 24)) 12 true) rfl rfl trivial ?_
    refine pX 26 12 true ?_
    refine pX 27 12 true ?_
    refine pW (kg 28 (.load 90 (.tmp 27)) 12 true) rfl rfl trivial ?_
    refine pX 29 12 true ?_
    refine pX 30 12 true ?_
    refine pW (kg 31 (.load 4 (.tmp 30)) 12 true) rfl rfl trivial ?_
    refine yAf 32 21 31 ?_
    refine yM 33 32 ?_
    refine pW (kg 34 (.load 76 (.tmp 5)) 24 true) rfl rfl trivial ?_
    refine pX 35 24 true ?_
    refine pX 36 24 true ?_
    refine pW (kg 37 (.load 76 (.tmp 5)) 27 false) rfl rfl trivial ?_
    refine pX 38 27 false ?_
    refine pX 39 27 false ?_
    refine pW (kg 40 (.call { callee := .value (.tmp 37), args := #[(.tmp 38), (.tmp 39)], argTypes := #[3, 3] }) 27 false) rfl rfl trivial ?_
    refine pX 41 24 true ?_
    refine yAf 42 33 41 ?_
    refine yA 8 42 ?_
    exact Sch.nil (hcut _ _ _ hcs rfl (by unfold jP jB; rw [hsg, hug, hB]; simp) (sk 35))
   ·
    by_cases hC : edgeB wt U V i j = true
    ·
     refine run_pl [nn 0, yy 1, yy 2, nn 3, yy 4, yy 5, nn 6, yy 7, yy 8, nn 9, yy 10, yy 11, yy 12, nn 13, yy 14, yy 15, nn 16, yy 17, yy 18, nn 19, yy 20, yy 21, nn 22, yy 23, yy 24, nn 25, yy 26, yy 27, nn 28, yy 29, yy 30, nn 31, yy 32, yy 33, yy 34] ?_
     have hcs := Stp.reflF hF
     refine lN (kq 9 (.load 22 (.tmp 2))) rfl rfl trivial h2 (by kernel_rfl) rfl rfl ?_
     intro v9 g9
     obtain ⟨e9, _⟩ := rv_sv.1 g9
     subst e9
     refine yM 10 0 ?_
     refine iS (e := 3) (kq 11 (.indexAddr 22 (.tmp 9) (.tmp 10))) rfl rfl hst rfl (by kernel_rfl) rfl (by omega) (by omega) ?_
     intro b11 o11 h11
     try simp only [Int.toNat_natCast] at h11
     refine lN (kq 12 (.load 3 (.tmp 11))) rfl rfl trivial h11 (by kernel_rfl) rfl rfl ?_
     intro v12 g12
     first | (obtain rfl := rv_nat.1 g12) | (obtain rfl := rv_int.1 g12)
     skip
     refine yV (kq 13 (.binOp .eql 3 (.tmp 12) (.const (.int .i64 (-2))) 3)) (fun _ => val_T (val_eql rfl rfl) hA) ?_
     refine yM 14 13 ?_
     refine lN (kg 15 (.load 90 (.tmp 3)) 5 true) rfl rfl trivial h3 (by kernel_rfl) rfl rfl ?_
     intro v15 g15
     obtain ⟨e15, _⟩ := rv_sv.1 g15
     subst e15
     refine yMg 16 1 5 true ?_
     refine iS (e := 4) (kg 17 (.indexAddr 90 (.tmp 15) (.tmp 16)) 5 true) rfl rfl hus rfl (by kernel_rfl) rfl (by omega) (by omega) ?_
     intro b17 o17 h17
     try simp only [Int.toNat_natCast] at h17
     refine lN (kg 18 (.load 4 (.tmp 17)) 5 true) rfl rfl trivial h17 (by kernel_rfl) rfl rfl ?_
     intro v18 g18
     obtain rfl := rv_bool.1 g18
     rw [Bool.eq_false_iff.2 hB]
     refine yV (kg 19 (.unOp .not 4 (.tmp 18)) 5 true) (fun _ => val_not rfl) ?_
     refine yAt 20 14 19 ?_
     refine yM 21 20 ?_
     refine lN (kg 22 (.load 59 (.tmp 4)) 12 true) rfl rfl trivial h4 (by kernel_rfl) rfl rfl ?_
     intro v22 g22
     obtain ⟨e22, _⟩ := rv_sv.1 g22
     subst e22
     refine yV (kg 23 (.nilCheck (.tmp 22)) 12 true) (fun _ => val_nilCheck rfl) ?_
     have h24 := RA.gE hg
     refine yFg 24 70 23 5 5 12 true ?_
     refine lN (kg 25 (.load 68 (.tmp 24)) 12 true) rfl rfl trivial h24 (by kernel_rfl) rfl rfl ?_
     intro v25 g25
     refine yMg 26 0 12 true ?_
     refine iS (e := 90) (kg 27 (.indexAddr 68 (.tmp 25) (.tmp 26)) 12 true) rfl rfl g25 rfl (by kernel_rfl) rfl (by omega) (by omega) ?_
     intro b27 o27 h27
     try simp only [Int.toNat_natCast] at h27
     refine lN (kg 28 (.load 90 (.tmp 27)) 12 true) rfl rfl trivial h27 (by kernel_rfl) rfl rfl ?_
     intro v28 g28
     have hrl : (gr.edge[i]'(by omega)).length = m := hG.edm _ (List.getElem_mem _)
     refine yMg 29 1 12 true ?_
     refine iS (e := 4) (kg 30 (.indexAddr 90 (.tmp 28) (.tmp 29)) 12 true) rfl rfl g28 rfl (by kernel_rfl) rfl (by omega) (by omega) ?_
     intro b30 o30 h30
     try simp only [Int.toNat_natCast] at h30
     refine lN (kg 31 (.load 4 (.tmp 30)) 12 true) rfl rfl trivial h30 (by kernel_rfl) rfl rfl ?_
     intro v31 g31
     obtain rfl := rv_bool.1 g31
     rw [hev]
     rw [hC]
     refine yAt 32 21 31 ?_
     refine yM 33 32 ?_
     refine lN (kg 34 (.load 76 (.tmp 5)) 24 true) rfl rfl trivial h5 (by kernel_rfl) rfl rfl ?_
     intro v34 g34
     obtain ⟨e34, _⟩ := rv_sv.1 g34
     subst e34
     refine yV (kg 35 (.binOp .eql 76 (.tmp 34) (.const .nilFunc) 76) 24 true) (fun _ => val_someFunc rfl ⟨_, _, _, Try.underlying76⟩) ?_
     refine yMg 36 35 24 true ?_
     refine lN (kg 37 (.load 76 (.tmp 5)) 27 false) rfl rfl trivial h5 (by kernel_rfl) rfl rfl ?_
     intro v37 g37
     obtain ⟨e37, _⟩ := rv_sv.1 g37
     subst e37
     refine yMg 38 0 27 false ?_
     refine yMg 39 1 27 false ?_
     refine cS (kg 40 (.call { callee := .value (.tmp 37), args := #[(.tmp 38), (.tmp 39)], argTypes := #[3, 3] }) 27 false) rfl rfl (enters_func hcp rfl rfl) (hpm _ (hT.out1 (by decide)) i j hi hj) ?_
     rintro vw1 w1 ⟨rfl, hs0⟩
     have hs := hs0.unfrz (col1 C)
     refine ⟨trivial, ?_⟩
     replace hF := hF.st hs
     replace hT := hT.t hs; replace h2 := h2.t hs; replace h3 := h3.t hs; replace h4 := h4.t hs; replace h5 := h5.t hs; replace hst := hst.t hs; replace hus := hus.t hs; replace hg := hg.t hs; replace hcs := hcs.t hs; replace h11 := h11.t hs; replace h17 := h17.t hs; replace h24 := h24.t hs; replace g25 := g25.t hs; replace h27 := h27.t hs; replace g28 := g28.t hs; replace h30 := h30.t hs
     refine yV (kg 41 (.pick (.tmp 36) (.const (.bool true)) (.tmp 40)) 24 true) (fun _ => val_pick_f rfl rfl) ?_
     refine yAt 42 33 41 ?_
     refine yA 8 42 ?_
     exact Sch.nil (hcut _ _ _ hcs rfl (by unfold jP jB; rw [hsg, hug, hC, Bool.eq_false_iff.2 hB]; simp [hA]) (sk 35))
    ·
     refine run_pl [nn 0, yy 1, yy 2, nn 3, yy 4, yy 5, nn 6, yy 7, yy 8, nn 9, yy 10, yy 11, yy 12, nn 13, yy 14, yy 15, nn 16, yy 17, yy 18, nn 19, yy 20, yy 21, nn 22, yy 23, yy 24, nn 25, yy 26, yy 27, nn 28, yy 29, yy 30, nn 31, yy 32, yy 33, yy 34] ?_
     have hcs := Stp.reflF hF
     refine lN (kq 9 (.load 22 (.tmp 2))) rfl rfl trivial h2 (by kernel_rfl) rfl rfl ?_
     intro v9 g9
     obtain ⟨e9, _⟩ := rv_sv.1 g9
     subst e9
     refine yM 10 0 ?_
     refine iS (e := 3) (kq 11 (.indexAddr 22 (.tmp 9) (.tmp 10))) rfl rfl hst rfl (by kernel_rfl) rfl (by omega) (by omega) ?_
     intro b11 o11 h11
     try simp only [Int.toNat_natCast] at h11
     refine lN (kq 12 (.load 3 (.tmp 11))) rfl rfl trivial h11 (by kernel_rfl) rfl rfl ?_
     intro v12 g12
     first | (obtain rfl := rv_nat.1 g12) | (obtain rfl := rv_int.1 g12)
     skip
     refine yV (kq 13 (.binOp .eql 3 (.tmp 12) (.const (.int .i64 (-2))) 3)) (fun _ => val_T (val_eql rfl rfl) hA) ?_
     refine yM 14 13 ?_
     refine lN (kg 15 (.load 90 (.tmp 3)) 5 true) rfl rfl trivial h3 (by kernel_rfl) rfl rfl ?_
     intro v15 g15
     obtain ⟨e15, _⟩ := rv_sv.1 g15
     subst e15
     refine yMg 16 1 5 true ?_
     refine iS (e := 4) (kg 17 (.indexAddr 90 (.tmp 15) (.tmp 16)) 5 true) rfl rfl hus rfl (by kernel_rfl) rfl (by omega) (by omega) ?_
     intro b17 o17 h17
     try simp only [Int.toNat_natCast] at h17
     refine lN (kg 18 (.load 4 (.tmp 17)) 5 true) rfl rfl trivial h17 (by kernel_rfl) rfl rfl ?_
     intro v18 g18
     obtain rfl := rv_bool.1 g18
     rw [Bool.eq_false_iff.2 hB]
     refine yV (kg 19 (.unOp .not 4 (.tmp 18)) 5 true) (fun _ => val_not rfl) ?_
     refine yAt 20 14 19 ?_
     refine yM 21 20 ?_
     refine lN (kg 22 (.load 59 (.tmp 4)) 12 true) rfl rfl trivial h4 (by kernel_rfl) rfl rfl ?_
     intro v22 g22
     obtain ⟨e22, _⟩ := rv_sv.1 g22
     subst e22
     refine yV (kg 23 (.nilCheck (.tmp 22)) 12 true) (fun _ => val_nilCheck rfl) ?_
     have h24 := RA.gE hg
     refine yFg 24 70 23 5 5 12 true ?_
     refine lN (kg 25 (.load 68 (.tmp 24)) 12 true) rfl rfl trivial h24 (by kernel_rfl) rfl rfl ?_
     intro v25 g25
     refine yMg 26 0 12 true ?_
     refine iS (e := 90) (kg 27 (.indexAddr 68 (.tmp 25) (.tmp 26)) 12 true) rfl rfl g25 rfl (by kernel_rfl) rfl (by omega) (by omega) ?_
     intro b27 o27 h27
     try simp only [Int.toNat_natCast] at h27
     refine lN (kg 28 (.load 90 (.tmp 27)) 12 true) rfl rfl trivial h27 (by kernel_rfl) rfl rfl ?_
     intro v28 g28
     have hrl : (gr.edge[i]'(by omega)).length = m := hG.edm _ (List.getElem_mem _)
     refine yMg 29 1 12 true ?_
     refine iS (e := 4) (kg 30 (.indexAddr 90 (.tmp 28) (.tmp 29)) 12 true) rfl rfl g28 rfl (by kernel_rfl) rfl (by omega) (by omega) ?_
     intro b30 o30 h30
     try simp only [Int.toNat_natCast] at h30
     refine lN (kg 31 (.load 4 (.tmp 30)) 12 true) rfl rfl trivial h30 (by kernel_rfl) rfl rfl ?_
     intro v31 g31
     obtain rfl := rv_bool.1 g31
     rw [hev]
     rw [Bool.eq_false_iff.2 hC]
     refine yAt 32 21 31 ?_
     refine yM 33 32 ?_
     refine pW (kg 34 (.load 76 (.tmp 5)) 24 true) rfl rfl trivial ?_
     refine pX 35 24 true ?_
     refine pX 36 24 true ?_
     refine pW (kg 37 (.load 76 (.tmp 5)) 27 false) rfl rfl trivial ?_
     refine pX 38 27 false ?_
     refine pX 39 27 false ?_
     refine pW (kg 40 (.call { callee := .value (.tmp 37), args := #[(.tmp 38), (.tmp 39)], argTypes := #[3, 3] }) 27 false) rfl rfl trivial ?_
     refine pX 41 24 true ?_
     refine yAf 42 33 41 ?_
     refine yA 8 42 ?_
     exact Sch.nil (hcut _ _ _ hcs rfl (by unfold jP jB; rw [Bool.eq_false_iff.2 hC]; simp) (sk 35))
  ·
   refine run_pl [nn 0, yy 1, yy 2, nn 3, yy 4, yy 5, nn 6, yy 7, yy 8, nn 9, yy 10, yy 11, yy 12, nn 13, yy 14, yy 15, nn 16, yy 17, yy 18, nn 19, yy 20, yy 21, nn 22, yy 23, yy 24, nn 25, yy 26, yy 27, nn 28, yy 29, yy 30, nn 31, yy 32, yy 33, yy 34] ?_
   have hcs := Stp.reflF hF
   refine lN (kq 9 (.load 22 (.tmp 2))) rfl rfl trivial h2 (by kernel_rfl) rfl rfl ?_
   intro v9 g9
   obtain ⟨e9, _⟩ := rv_sv.1 g9
   subst e9
   refine yM 10 0 ?_
   refine iS (e := 3) (kq 11 (.indexAddr 22 (.tmp 9) (.tmp 10))) rfl rfl hst rfl (by kernel_rfl) rfl (by omega) (by omega) ?_
   intro b11 o11 h11
   try simp only [Int.toNat_natCast] at h11
   refine lN (kq 12 (.load 3 (.tmp 11))) rfl rfl trivial h11 (by kernel_rfl) rfl rfl ?_
   intro v12 g12
   first | (obtain rfl := rv_nat.1 g12) | (obtain rfl := rv_int.1 g12)
   skip
   refine yV (kq 13 (.binOp .eql 3 (.tmp 12) (.const (.int .i64 (-2))) 3)) (fun _ => val_F (val_eql rfl rfl) hA) ?_
   refine yM 14 13 ?_
   refine pW (kg 15 (.load 90 (.tmp 3)) 5 true) rfl rfl trivial ?_
   refine pX 16 5 true ?_
   refine pX 17 5 true ?_
   refine pW (kg 18 (.load 4 (.tmp 17)) 5 true) rfl rfl trivial ?_
   refine pX 19 5 true ?_
   refine yAf 20 14 19 ?_
   refine yM 21 20 ?_
   refine pW (kg 22 (.load 59 (.tmp 4)) 12 true) rfl rfl trivial ?_
   refine pX 23 12 true ?_
   refine pX 24 12 true ?_
   refine pW (kg 25 (.load 68 (.tmp 24)) 12 true) rfl rfl trivial ?_
   refine pX 26 12 true ?_
   refine pX 27 12 true ?_
   refine pW (kg 28 (.load 90 (.tmp 27)) 12 true) rfl rfl trivial ?_
   refine pX 29 12 true ?_
   refine pX 30 12 true ?_
   refine pW (kg 31 (.load 4 (.tmp 30)) 12 true) rfl rfl trivial ?_
   refine yAf 32 21 31 ?_
   refine yM 33 32 ?_
   refine pW (kg 34 (.load 76 (.tmp 5)) 24 true) rfl rfl trivial ?_
   refine pX 35 24 true ?_
   refine pX 36 24 true ?_
   refine pW (kg 37 (.load 76 (.tmp 5)) 27 false) rfl rfl trivial ?_
   refine pX 38 27 false ?_
   refine pX 39 27 false ?_
   refine pW (kg 40 (.call { callee := .value (.tmp 37), args := #[(.tmp 38), (.tmp 39)], argTypes := #[3, 3] }) 27 false) rfl rfl trivial ?_
   refine pX 41 24 true ?_
   refine yAf 42 33 41 ?_
   refine yA 8 42 ?_
   exact Sch.nil (hcut _ _ _ hcs rfl (by unfold jP jB; rw [hsg]; simp [hA]) (sk 35))
 intro w2 hs
 replace hF := hF.st hs
 replace hT := hT.t hs; replace h2 := h2.t hs; replace h3 := h3.t hs; replace h4 := h4.t hs; replace h5 := h5.t hs; replace hst := hst.t hs; replace hus := hus.t hs; replace hg := hg.t hs
 refine run_ret1 (by kernel_rfl) Try.func47 Try.results47 rfl ?_
 exact ⟨rfl, hT.out1 (by decide)⟩
theorem turnedP_ok {w₀ : World} {C : Nat → Nat} {n m gb : Nat} {gr : Gr} {wt : Nat → Nat → Int} {U V : Nat → Int} {fp : FuncId} {cp : Array Value} {pm : Nat → Nat → Bool} {b2 b3 b4 b5 b10 : Nat} {vst vus : Value} {stl : List Int} {usl : List Bool} (hF : Lim w₀ C) (hG : GrIs n m wt U V gr) (hg : RA w₀ (Mc C) gr gb 0) (h2 : RA w₀ (Mc C) (⟨vst⟩ : Sv) b2 0) (h3 : RA w₀ (Mc C) (⟨vus⟩ : Sv) b3 0) (h4 : RA w₀ (Mc C) (⟨.pointer (some ⟨gb, 0, none⟩)⟩ : Sv) b4 0) (h5 : RA w₀ (Mc C) (⟨.func (.func fp) #[] cp⟩ : Sv) b5 0) (h10 : RA w₀ (Mc C) (⟨(.func (.func 47) #[] #[.pointer (some ⟨b2, 0, none⟩), .pointer (some ⟨b3, 0, none⟩), .pointer (some ⟨b4, 0, none⟩), .pointer (some ⟨b5, 0, none⟩)])⟩ : Sv) b10 0) (hst : RV w₀ (Mc C) stl vst) (hus : RV w₀ (Mc C) usl vus) (hsl : stl.length = n) (hul : usl.length = m) (hcp : ∀ args w, (callFunc fp args).run Try.prog w = .ok (.enter fp args) w) (hpm : ∀ w1, Stp [] w₀ C w1 C → ∀ i j : Nat, i < n → j < m → Calls Try.prog fp ([Value.int .i64 i, Value.int .i64 j] ++ cp.toList).toArray w1 (Ret fun v w2 => v = .bool (pm i j) ∧ Stp [] w1 C w2 C)) {i j : Nat} (hi : i < n) (hj : j < m) :
    Calls Try.prog 50 #[.int .i64 j, .int .i64 i, .pointer (some ⟨b10, 0, none⟩)] w₀ (Ret fun v w' => v = .bool (jP stl usl wt U V pm i j) ∧ Stp [] w₀ C w' C) := by
 have hF0 := hF
 have hT := Stp.refl [2, 3, 4, 5, 6, 7, 8, 9] w₀ (col1 C)
 replace hF := hF.col1
 replace h2 := (show RA w₀ (Mc (col1 C)) _ _ 0 from by rw [Mc_col1]; exact h2)
 replace h3 := (show RA w₀ (Mc (col1 C)) _ _ 0 from by rw [Mc_col1]; exact h3)
 replace h4 := (show RA w₀ (Mc (col1 C)) _ _ 0 from by rw [Mc_col1]; exact h4)
 replace h5 := (show RA w₀ (Mc (col1 C)) _ _ 0 from by rw [Mc_col1]; exact h5)
 replace h10 := (show RA w₀ (Mc (col1 C)) _ _ 0 from by rw [Mc_col1]; exact h10)
 replace hg := (show RA w₀ (Mc (col1 C)) _ _ 0 from by rw [Mc_col1]; exact hg)
 replace hst := (show RV w₀ (Mc (col1 C)) _ _ from by rw [Mc_col1]; exact hst)
 replace hus := (show RV w₀ (Mc (col1 C)) _ _ from by rw [Mc_col1]; exact hus)
 refine calls_start (c := F50.c0) (N := 10) [.int .i64 j, .int .i64 i, .pointer (some ⟨b10, 0, none⟩)] Try.func50 (by kernel_rfl) (by kernel_rfl) (by kernel_rfl) ?_
 show Run _ _ _ _ [(0, .int .i64 j), (1, .int .i64 i), (2, .pointer (some ⟨b10, 0, none⟩))] _ _
 refine run_sq ?_
 refine run_pl [yy 0] ?_
 refine yAc 5 (.bool false) ?_
 refine Sch.nil ?_
 refine run_sq ?_
 refine run_pl [nn 0, yy 1, yy 2, nn 3, yy 4] ?_
 refine lN (kq 6 (.load 76 (.tmp 2))) rfl rfl trivial h10 (by kernel_rfl) rfl rfl ?_
 intro v6 g6
 obtain ⟨e6, _⟩ := rv_sv.1 g6
 subst e6
 refine yM 7 1 ?_
 refine yM 8 0 ?_
 refine cS (kq 9 (.call { callee := .value (.tmp 6), args := #[(.tmp 7), (.tmp 8)], argTypes := #[3, 3] })) rfl rfl (enters_func Try.call47 rfl rfl) (joinsP_ok hF hG hg h2 h3 h4 h5 hst hus hsl hul hcp (fun w2 hs2 i j hi hj => (hpm w2 ((hT.out1 (by decide)).trans (hs2.unfrz C) (by simp)) i j hi hj).mono (Ret.mono fun v w' h => ⟨h.1, h.2.unfrz _⟩)) hi hj) ?_
 rintro vw1 w1 ⟨rfl, hs⟩
 refine ⟨trivial, ?_⟩
 replace hF := hF.st hs
 replace hT := hT.t hs; replace h2 := h2.t hs; replace h3 := h3.t hs; replace h4 := h4.t hs; replace h5 := h5.t hs; replace h10 := h10.t hs; replace hst := hst.t hs; replace hus := hus.t hs; replace hg := hg.t hs
 refine yA 5 9 ?_
 refine Sch.nil ?_
 refine run_ret1 (by kernel_rfl) Try.func50 Try.results50 rfl ?_
 exact ⟨rfl, hT.out1 (by decide)⟩
end Go.Proofs.Ytognfmeffnjijaa
