/- Steps through functions of the program. -/
import Derived.Test.YtdmgmlmlielfbaaGreatJT4
import Derived.Test.YtdmgmlmlielfbaaGreatJT6
set_option linter.unusedVariables false
set_option linter.unusedSimpArgs false
set_option maxRecDepth 100000
set_option maxHeartbeats 4000000
namespace Go.Proofs.YtdmgmlmlielfbaaGreat
open Go.K Go.K.Rep
noncomputable section
namespace F106
def c0 := bodyOf Tryz.f106
end F106
theorem joins_ok {w₀ : World} {C : Nat → Nat} {n m gb : Nat} {gr : Gr} {wt : Nat → Nat → Int} {U V : Nat → Int} {b2 b3 b4 b5 : Nat} {vst vus : Value} {stl : List Int} {usl : List Bool} (hF : Lim w₀ C) (hG : GrIs n m wt U V gr) (hg : RA w₀ (Mc C) gr gb 0) (h2 : RA w₀ (Mc C) (⟨vst⟩ : Sv) b2 0) (h3 : RA w₀ (Mc C) (⟨vus⟩ : Sv) b3 0) (h4 : RA w₀ (Mc C) (⟨.pointer (some ⟨gb, 0, none⟩)⟩ : Sv) b4 0) (h5 : RA w₀ (Mc C) (⟨.nilFunc⟩ : Sv) b5 0) (hst : RV w₀ (Mc C) stl vst) (hus : RV w₀ (Mc C) usl vus) (hsl : stl.length = n) (hul : usl.length = m) {i j : Nat} (hi : i < n) (hj : j < m) :
    Calls Tryz.prog 106 #[.int .i64 i, .int .i64 j, .pointer (some ⟨b2, 0, none⟩), .pointer (some ⟨b3, 0, none⟩), .pointer (some ⟨b4, 0, none⟩), .pointer (some ⟨b5, 0, none⟩)] w₀ (Ret fun v w' => v = .bool (jB stl usl wt U V i j) ∧ Stp [] w₀ C w' C) := by
 have hF0 := hF
 have hT := Stp.refl [2, 3, 4, 5, 6, 7, 8, 9] w₀ (col1 C)
 replace hF := hF.col1
 replace h2 := (show RA w₀ (Mc (col1 C)) _ _ 0 from by rw [Mc_col1]; exact h2)
 replace h3 := (show RA w₀ (Mc (col1 C)) _ _ 0 from by rw [Mc_col1]; exact h3)
 replace h4 := (show RA w₀ (Mc (col1 C)) _ _ 0 from by rw [Mc_col1]; exact h4)
 replace h5 := (show RA w₀ (Mc (col1 C)) _ _ 0 from by rw [Mc_col1]; exact h5)
 replace hg := (show RA w₀ (Mc (col1 C)) _ _ 0 from by rw [Mc_col1]; exact hg)
 replace hst := (show RV w₀ (Mc (col1 C)) _ _ from by rw [Mc_col1]; exact hst)
 replace hus := (show RV w₀ (Mc (col1 C)) _ _ from by rw [Mc_col1]; exact hus)
 have hel := hG.edl
 have hsg : gI stl i = stl[i]'(by omega) := getD_in _
 have hug : gB usl j = usl[j]'(by omega) := getD_in _
 have hrl0 : (gr.edge[i]'(by omega)).length = m := hG.edm _ (List.getElem_mem _)
 have hev : ((gr.edge[i]'(by omega))[j]'(by omega)) = edgeB wt U V i j := by
   have e1 : gr.edge.getD i [] = gr.edge[i]'(by omega) := getD_in _
   rw [← hG.ed _ _ (by omega) (by omega), e1]; exact (getD_in _).symm
 refine c_st F106.c0 43 [.int .i64 i, .int .i64 j, .pointer (some ⟨b2, 0, none⟩), .pointer (some ⟨b3, 0, none⟩), .pointer (some ⟨b4, 0, none⟩), .pointer (some ⟨b5, 0, none⟩)] Tryz.func106 ?_
 show Run _ _ _ _ [(0, .int .i64 i), (1, .int .i64 j), (2, .pointer (some ⟨b2, 0, none⟩)), (3, .pointer (some ⟨b3, 0, none⟩)), (4, .pointer (some ⟨b4, 0, none⟩)), (5, .pointer (some ⟨b5, 0, none⟩))] _ _
 refine run_sq (run_pl [yy 0] ?_)
 refine yAc 8 (.bool false) ?_
 refine Sch.nil ?_
 refine kp (sr 0 (sr 1 (sr 2 (sr 3 (sr 4 (sr 5 (sub_nil _))))))) ?_
 refine run_sq ?_
 refine run_cut 8 (jB stl usl wt U V i j) (col1 C) ?_ ?_
 ·
  intro hcut
  by_cases hA : stl[i]'(by omega) = -2
  ·
   by_cases hB : usl[j]'(by omega) = true
   ·
    refine run_pl [nn 0, yy 1, yy 2, nn 3, yy 4, yy 5, nn 6, yy 7, yy 8, nn 9, yy 10, yy 11, yy 12, nn 13, yy 14, yy 15, nn 16, yy 17, yy 18, nn 19, yy 20, yy 21, nn 22, yy 23, yy 24, nn 25, yy 26, yy 27, nn 28, yy 29, yy 30, nn 31, yy 32, yy 33, yy 34] ?_
    have hcs := Stp.reflF hF
    refine lN (kq 9 (.load 22 (.tmp 2))) rfl rfl trivial h2 (by kernel_rfl) rfl rfl ?_
    intro v9 g9
    obtain ⟨e9, _⟩ := rv_sv.1 g9
    subst e9
    refine yM 10 0 ?_
    refine iR 3 11 22 9 10 hst rfl (h := ?_)
    intro b11 o11 h11
    try simp only [Int.toNat_natCast] at h11
    refine lN (kq 12 (.load 3 (.tmp 11))) rfl rfl trivial h11 (by kernel_rfl) rfl rfl ?_
    intro v12 g12
    first | (obtain rfl := rv_nat.1 g12) | (obtain rfl := rv_int.1 g12)
    skip
    refine yV (kq 13 (.binOp .eql 3 (.tmp 12) (.const (.int .i64 (-2))) 3)) (fun _ => val_T (val_eql rfl rfl) hA) ?_
    refine yM 14 13 ?_
    refine lN (kg 15 (.load 122 (.tmp 3)) 5 true) rfl rfl trivial h3 (by kernel_rfl) rfl rfl ?_
    intro v15 g15
    obtain ⟨e15, _⟩ := rv_sv.1 g15
    subst e15
    refine yMg 16 1 5 true ?_
    refine iS (e := 4) (kg 17 (.indexAddr 122 (.tmp 15) (.tmp 16)) 5 true) rfl rfl hus rfl (by kernel_rfl) rfl (by omega) (by omega) ?_
    intro b17 o17 h17
    try simp only [Int.toNat_natCast] at h17
    refine lN (kg 18 (.load 4 (.tmp 17)) 5 true) rfl rfl trivial h17 (by kernel_rfl) rfl rfl ?_
    intro v18 g18
    obtain rfl := rv_bool.1 g18
    rw [hB]
    refine yV (kg 19 (.unOp .not 4 (.tmp 18)) 5 true) (fun _ => val_not rfl) ?_
    refine yAt 20 14 19 ?_
    refine yM 21 20 ?_
    refine pW (kg 22 (.load 97 (.tmp 4)) 12 true) rfl rfl trivial ?_
    refine pX 23 12 true ?_
    refine pX 24 12 true ?_
    refine pW (kg 25 (.load 104 (.tmp 24)) 12 true) rfl rfl trivial ?_
    refine pX 26 12 true ?_
    refine pX 27 12 true ?_
    refine pW (kg 28 (.load 122 (.tmp 27)) 12 true) rfl rfl trivial ?_
    refine pX 29 12 true ?_
    refine pX 30 12 true ?_
    refine pW (kg 31 (.load 4 (.tmp 30)) 12 true) rfl rfl trivial ?_
    refine yAf 32 21 31 ?_
    refine yM 33 32 ?_
    refine pW (kg 34 (.load 100 (.tmp 5)) 24 true) rfl rfl trivial ?_
    refine pX 35 24 true ?_
    refine pX 36 24 true ?_
    refine pW (kg 37 (.load 100 (.tmp 5)) 27 false) rfl rfl trivial ?_
    refine pX 38 27 false ?_
    refine pX 39 27 false ?_
    refine pW (kg 40 (.call { callee := .value (.tmp 37), args := #[(.tmp 38), (.tmp 39)], argTypes := #[3, 3] }) 27 false) rfl rfl trivial ?_
    refine pX 41 24 true ?_
    refine yAf 42 33 41 ?_
    refine yA 8 42 ?_
    exact Sch.nil (hcut _ _ _ hcs rfl (by unfold jB; rw [hsg, hug, hB]; simp) (sk 35))
   by_cases hC : edgeB wt U V i j = true
   ·
    refine run_pl [nn 0, yy 1, yy 2, nn 3, yy 4, yy 5, nn 6, yy 7, yy 8, nn 9, yy 10, yy 11, yy 12, nn 13, yy 14, yy 15, nn 16, yy 17, yy 18, nn 19, yy 20, yy 21, nn 22, yy 23, yy 24, nn 25, yy 26, yy 27, nn 28, yy 29, yy 30, nn 31, yy 32, yy 33, yy 34] ?_
    have hcs := Stp.reflF hF
    refine lN (kq 9 (.load 22 (.tmp 2))) rfl rfl trivial h2 (by kernel_rfl) rfl rfl ?_
    intro v9 g9
    obtain ⟨e9, _⟩ := rv_sv.1 g9
    subst e9
    refine yM 10 0 ?_
    refine iR 3 11 22 9 10 hst rfl (h := ?_)
    intro b11 o11 h11
    try simp only [Int.toNat_natCast] at h11
    refine lN (kq 12 (.load 3 (.tmp 11))) rfl rfl trivial h11 (by kernel_rfl) rfl rfl ?_
    intro v12 g12
    first | (obtain rfl := rv_nat.1 g12) | (obtain rfl := rv_int.1 g12)
    skip
    refine yV (kq 13 (.binOp .eql 3 (.tmp 12) (.const (.int .i64 (-2))) 3)) (fun _ => val_T (val_eql rfl rfl) hA) ?_
    refine yM 14 13 ?_
    refine lN (kg 15 (.load 122 (.tmp 3)) 5 true) rfl rfl trivial h3 (by kernel_rfl) rfl rfl ?_
    intro v15 g15
    obtain ⟨e15, _⟩ := rv_sv.1 g15
    subst e15
    refine yMg 16 1 5 true ?_
    refine iS (e := 4) (kg 17 (.indexAddr 122 (.tmp 15) (.tmp 16)) 5 true) rfl rfl hus rfl (by kernel_rfl) rfl (by omega) (by omega) ?_
    intro b17 o17 h17
    try simp only [Int.toNat_natCast] at h17
    refine lN (kg 18 (.load 4 (.tmp 17)) 5 true) rfl rfl trivial h17 (by kernel_rfl) rfl rfl ?_
    intro v18 g18
    obtain rfl := rv_bool.1 g18
    rw [Bool.eq_false_iff.2 hB]
    refine yV (kg 19 (.unOp .not 4 (.tmp 18)) 5 true) (fun _ => val_not rfl) ?_
    refine yAt 20 14 19 ?_
    refine yM 21 20 ?_
    refine lN (kg 22 (.load 97 (.tmp 4)) 12 true) rfl rfl trivial h4 (by kernel_rfl) rfl rfl ?_
    intro v22 g22
    obtain ⟨e22, _⟩ := rv_sv.1 g22
    subst e22
    refine yV (kg 23 (.nilCheck (.tmp 22)) 12 true) (fun _ => val_nilCheck rfl) ?_
    have h24 := RA.gE hg
    refine yFg 24 106 23 5 5 12 true ?_
    refine lN (kg 25 (.load 104 (.tmp 24)) 12 true) rfl rfl trivial h24 (by kernel_rfl) rfl rfl ?_
    intro v25 g25
    refine yMg 26 0 12 true ?_
    refine iS (e := 122) (kg 27 (.indexAddr 104 (.tmp 25) (.tmp 26)) 12 true) rfl rfl g25 rfl (by kernel_rfl) rfl (by omega) (by omega) ?_
    intro b27 o27 h27
    try simp only [Int.toNat_natCast] at h27
    refine lN (kg 28 (.load 122 (.tmp 27)) 12 true) rfl rfl trivial h27 (by kernel_rfl) rfl rfl ?_
    intro v28 g28
    have hrl : (gr.edge[i]'(by omega)).length = m := hG.edm _ (List.getElem_mem _)
    refine yMg 29 1 12 true ?_
    refine iS (e := 4) (kg 30 (.indexAddr 122 (.tmp 28) (.tmp 29)) 12 true) rfl rfl g28 rfl (by kernel_rfl) rfl (by omega) (by omega) ?_
    intro b30 o30 h30
    try simp only [Int.toNat_natCast] at h30
    refine lN (kg 31 (.load 4 (.tmp 30)) 12 true) rfl rfl trivial h30 (by kernel_rfl) rfl rfl ?_
    intro v31 g31
    obtain rfl := rv_bool.1 g31
    rw [hev]
    rw [hC]
    refine yAt 32 21 31 ?_
    refine yM 33 32 ?_
    refine lN (kg 34 (.load 100 (.tmp 5)) 24 true) rfl rfl trivial h5 (by kernel_rfl) rfl rfl ?_
    intro v34 g34
    obtain ⟨e34, _⟩ := rv_sv.1 g34
    subst e34
    refine yV (kg 35 (.binOp .eql 100 (.tmp 34) (.const .nilFunc) 100) 24 true) (fun _ => val_nilFunc rfl ⟨_, _, _, Tryz.underlying100⟩) ?_
    refine yMg 36 35 24 true ?_
    refine pW (kg 37 (.load 100 (.tmp 5)) 27 false) rfl rfl trivial ?_
    refine pX 38 27 false ?_
    refine pX 39 27 false ?_
    refine pW (kg 40 (.call { callee := .value (.tmp 37), args := #[(.tmp 38), (.tmp 39)], argTypes := #[3, 3] }) 27 false) rfl rfl trivial ?_
    refine yV (kg 41 (.pick (.tmp 36) (.const (.bool true)) (.tmp 40)) 24 true) (fun _ => val_pick_t rfl rfl) ?_
    refine yAt 42 33 41 ?_
    refine yA 8 42 ?_
    exact Sch.nil (hcut _ _ _ hcs rfl (by unfold jB; rw [hsg, hug, hC, Bool.eq_false_iff.2 hB]; simp [hA]) (sk 35))
   refine run_pl [nn 0, yy 1, yy 2, nn 3, yy 4, yy 5, nn 6, yy 7, yy 8, nn 9, yy 10, yy 11, yy 12, nn 13, yy 14, yy 15, nn 16, yy 17, yy 18, nn 19, yy 20, yy 21, nn 22, yy 23, yy 24, nn 25, yy 26, yy 27, nn 28, yy 29, yy 30, nn 31, yy 32, yy 33, yy 34] ?_
   have hcs := Stp.reflF hF
   refine lN (kq 9 (.load 22 (.tmp 2))) rfl rfl trivial h2 (by kernel_rfl) rfl rfl ?_
   intro v9 g9
   obtain ⟨e9, _⟩ := rv_sv.1 g9
   subst e9
   refine yM 10 0 ?_
   refine iR 3 11 22 9 10 hst rfl (h := ?_)
   intro b11 o11 h11
   try simp only [Int.toNat_natCast] at h11
   refine lN (kq 12 (.load 3 (.tmp 11))) rfl rfl trivial h11 (by kernel_rfl) rfl rfl ?_
   intro v12 g12
   first | (obtain rfl := rv_nat.1 g12) | (obtain rfl := rv_int.1 g12)
   skip
   refine yV (kq 13 (.binOp .eql 3 (.tmp 12) (.const (.int .i64 (-2))) 3)) (fun _ => val_T (val_eql rfl rfl) hA) ?_
   refine yM 14 13 ?_
   refine lN (kg 15 (.load 122 (.tmp 3)) 5 true) rfl rfl trivial h3 (by kernel_rfl) rfl rfl ?_
   intro v15 g15
   obtain ⟨e15, _⟩ := rv_sv.1 g15
   subst e15
   refine yMg 16 1 5 true ?_
   refine iS (e := 4) (kg 17 (.indexAddr 122 (.tmp 15) (.tmp 16)) 5 true) rfl rfl hus rfl (by kernel_rfl) rfl (by omega) (by omega) ?_
   intro b17 o17 h17
   try simp only [Int.toNat_natCast] at h17
   refine lN (kg 18 (.load 4 (.tmp 17)) 5 true) rfl rfl trivial h17 (by kernel_rfl) rfl rfl ?_
   intro v18 g18
   obtain rfl := rv_bool.1 g18
   rw [Bool.eq_false_iff.2 hB]
   refine yV (kg 19 (.unOp .not 4 (.tmp 18)) 5 true) (fun _ => val_not rfl) ?_
   refine yAt 20 14 19 ?_
   refine yM 21 20 ?_
   refine lN (kg 22 (.load 97 (.tmp 4)) 12 true) rfl rfl trivial h4 (by kernel_rfl) rfl rfl ?_
   intro v22 g22
   obtain ⟨e22, _⟩ := rv_sv.1 g22
   subst e22
   refine yV (kg 23 (.nilCheck (.tmp 22)) 12 true) (fun _ => val_nilCheck rfl) ?_
   have h24 := RA.gE hg
   refine yFg 24 106 23 5 5 12 true ?_
   refine lN (kg 25 (.load 104 (.tmp 24)) 12 true) rfl rfl trivial h24 (by kernel_rfl) rfl rfl ?_
   intro v25 g25
   refine yMg 26 0 12 true ?_
   refine iS (e := 122) (kg 27 (.indexAddr 104 (.tmp 25) (.tmp 26)) 12 true) rfl rfl g25 rfl (by kernel_rfl) rfl (by omega) (by omega) ?_
   intro b27 o27 h27
   try simp only [Int.toNat_natCast] at h27
   refine lN (kg 28 (.load 122 (.tmp 27)) 12 true) rfl rfl trivial h27 (by kernel_rfl) rfl rfl ?_
   intro v28 g28
   have hrl : (gr.edge[i]'(by omega)).length = m := hG.edm _ (List.getElem_mem _)
   refine yMg 29 1 12 true ?_
   refine iS (e := 4) (kg 30 (.indexAddr 122 (.tmp 28) (.tmp 29)) 12 true) rfl rfl g28 rfl (by kernel_rfl) rfl (by omega) (by omega) ?_
   intro b30 o30 h30
   try simp only [Int.toNat_natCast] at h30
   refine lN (kg 31 (.load 4 (.tmp 30)) 12 true) rfl rfl trivial h30 (by kernel_rfl) rfl rfl ?_
   intro v31 g31
   obtain rfl := rv_bool.1 g31
   rw [hev]
   rw [Bool.eq_false_iff.2 hC]
   refine yAt 32 21 31 ?_
   refine yM 33 32 ?_
   refine pW (kg 34 (.load 100 (.tmp 5)) 24 true) rfl rfl trivial ?_
   refine pX 35 24 true ?_
   refine pX 36 24 true ?_
   refine pW (kg 37 (.load 100 (.tmp 5)) 27 false) rfl rfl trivial ?_
   refine pX 38 27 false ?_
   refine pX 39 27 false ?_
   refine pW (kg 40 (.call { callee := .value (.tmp 37), args := #[(.tmp 38), (.tmp 39)], argTypes := #[3, 3] }) 27 false) rfl rfl trivial ?_
   refine pX 41 24 true ?_
   refine yAf 42 33 41 ?_
   refine yA 8 42 ?_
   exact Sch.nil (hcut _ _ _ hcs rfl (by unfold jB; rw [Bool.eq_false_iff.2 hC]; simp) (sk 35))
  refine run_pl [nn 0, yy 1, yy 2, nn 3, yy 4, yy 5, nn 6, yy 7, yy 8, nn 9, yy 10, yy 11, yy 12, nn 13, yy 14, yy 15, nn 16, yy 17, yy 18, nn 19, yy 20, yy 21, nn 22, yy 23, yy 24, nn 25, yy 26, yy 27, nn 28, yy 29, yy 30, nn 31, yy 32, yy 33, yy 34] ?_
  have hcs := Stp.reflF hF
  refine lN (kq 9 (.load 22 (.tmp 2))) rfl rfl trivial h2 (by kernel_rfl) rfl rfl ?_
  intro v9 g9
  obtain ⟨e9, _⟩ := rv_sv.1 g9
  subst e9
  refine yM 10 0 ?_
  refine iR 3 11 22 9 10 hst rfl (h := ?_)
  intro b11 o11 h11
  try simp only [Int.toNat_natCast] at h11
  refine lN (kq 12 (.load 3 (.tmp 11))) rfl rfl trivial h11 (by kernel_rfl) rfl rfl ?_
  intro v12 g12
  first | (obtain rfl := rv_nat.1 g12) | (obtain rfl := rv_int.1 g12)
  skip
  refine yV (kq 13 (.binOp .eql 3 (.tmp 12) (.const (.int .i64 (-2))) 3)) (fun _ => val_F (val_eql rfl rfl) hA) ?_
  refine yM 14 13 ?_
  refine pW (kg 15 (.load 122 (.tmp 3)) 5 true) rfl rfl trivial ?_
  refine pX 16 5 true ?_
  refine pX 17 5 true ?_
  refine pW (kg 18 (.load 4 (.tmp 17)) 5 true) rfl rfl trivial ?_
  refine pX 19 5 true ?_
  refine yAf 20 14 19 ?_
  refine yM 21 20 ?_
  refine pW (kg 22 (.load 97 (.tmp 4)) 12 true) rfl rfl trivial ?_
  refine pX 23 12 true ?_
  refine pX 24 12 true ?_
  refine pW (kg 25 (.load 104 (.tmp 24)) 12 true) rfl rfl trivial ?_
  refine pX 26 12 true ?_
  refine pX 27 12 true ?_
  refine pW (kg 28 (.load 122 (.tmp 27)) 12 true) rfl rfl trivial ?_
  refine pX 29 12 true ?_
  refine pX 30 12 true ?_
  refine pW (kg 31 (.load 4 (.tmp 30)) 12 true) rfl rfl trivial ?_
  refine yAf 32 21 31 ?_
  refine yM 33 32 ?_
  refine pW (kg 34 (.load 100 (.tmp 5)) 24 true) rfl rfl trivial ?_
  refine pX 35 24 true ?_
  refine pX 36 24 true ?_
  refine pW (kg 37 (.load 100 (.tmp 5)) 27 false) rfl rfl trivial ?_
  refine pX 38 27 false ?_
  refine pX 39 27 false ?_
  refine pW (kg 40 (.call { callee := .value (.tmp 37), args := #[(.tmp 38), (.tmp 39)], argTypes := #[3, 3] }) 27 false) rfl rfl trivial ?_
  refine pX 41 24 true ?_
  refine yAf 42 33 41 ?_
  refine yA 8 42 ?_
  exact Sch.nil (hcut _ _ _ hcs rfl (by unfold jB; rw [hsg]; simp [hA]) (sk 35))
 intro w1 s_1
 refine rt1 Tryz.func106 Tryz.results106 ?_
 replace hT := hT.t s_1
 exact ⟨rfl, hT.out1 (by decide)⟩
namespace F108
def c0 := bodyOf Tryz.f108
end F108
theorem mustU_ok {w₀ : World} {C : Nat → Nat} {n m gb : Nat} {gr : Gr} {wt : Nat → Nat → Int} {U V : Nat → Int} {b2 b4 : Nat} {vst : Value} {stl : List Int} (hF : Lim w₀ C) (hG : GrIs n m wt U V gr) (hg : RA w₀ (Mc C) gr gb 0) (h2 : RA w₀ (Mc C) (⟨vst⟩ : Sv) b2 0) (h4 : RA w₀ (Mc C) (⟨.pointer (some ⟨gb, 0, none⟩)⟩ : Sv) b4 0) (hst : RV w₀ (Mc C) stl vst) (hsl : stl.length = n) {i : Nat} (hi : i < n) :
        Calls Tryz.prog 108 #[.int .i64 i, .pointer (some ⟨b2, 0, none⟩), .pointer (some ⟨b4, 0, none⟩)] w₀ (Ret fun v w' => v = .bool (decide (gI stl i = -2 ∧ 0 < U i)) ∧ Stp [] w₀ C w' C) := by
 have hF0 := hF
 have hT := Stp.refl [2, 3, 4, 5, 6, 7, 8, 9] w₀ (col1 C)
 replace hF := hF.col1
 replace h2 := (show RA w₀ (Mc (col1 C)) _ _ 0 from by rw [Mc_col1]; exact h2)
 replace h4 := (show RA w₀ (Mc (col1 C)) _ _ 0 from by rw [Mc_col1]; exact h4)
 replace hg := (show RA w₀ (Mc (col1 C)) _ _ 0 from by rw [Mc_col1]; exact hg)
 replace hst := (show RV w₀ (Mc (col1 C)) _ _ from by rw [Mc_col1]; exact hst)
 have hUl := hG.Ul
 have hsg : gI stl i = stl[i]'(by omega) := getD_in _
 have hux : gr.U[i]'(by omega) = U i := by rw [← hG.Ug i hi]; exact (getD_in _).symm
 refine c_st F108.c0 20 [.int .i64 i, .pointer (some ⟨b2, 0, none⟩), .pointer (some ⟨b4, 0, none⟩)] Tryz.func108 ?_
 show Run _ _ _ _ [(0, .int .i64 i), (1, .pointer (some ⟨b2, 0, none⟩)), (2, .pointer (some ⟨b4, 0, none⟩))] _ _
 refine run_sq (run_pl [yy 0] ?_)
 refine yAc 4 (.bool false) ?_
 refine Sch.nil ?_
 refine kp (sr 0 (sr 1 (sr 2 (sub_nil _)))) ?_
 refine run_sq ?_
 refine run_cut 4 (decide (gI stl i = -2 ∧ 0 < U i)) (col1 C) ?_ ?_
 ·
  intro hcut
  by_cases hA : stl[i]'(by omega) = -2
  ·
   refine run_pl [nn 0, yy 1, yy 2, nn 3, yy 4, yy 5, nn 6, yy 7, yy 8, nn 9, yy 10, yy 11, nn 12, yy 13, yy 14, yy 15] ?_
   refine lN (kq 5 (.load 22 (.tmp 1))) rfl rfl trivial h2 (by kernel_rfl) rfl rfl ?_
   intro v5 g5
   obtain ⟨e5, _⟩ := rv_sv.1 g5
   subst e5
   refine yM 6 0 ?_
   refine iR 3 7 22 5 6 hst rfl (h := ?_)
   intro b7 o7 h7
   try simp only [Int.toNat_natCast] at h7
   refine lN (kq 8 (.load 3 (.tmp 7))) rfl rfl trivial h7 (by kernel_rfl) rfl rfl ?_
   intro v8 g8
   first | (obtain rfl := rv_nat.1 g8) | (obtain rfl := rv_int.1 g8)
   refine yV (kq 9 (.binOp .eql 3 (.tmp 8) (.const (.int .i64 (-2))) 3)) (fun _ => val_T (val_eql rfl rfl) hA) ?_
   refine yM 10 9 ?_
   refine lN (kg 11 (.load 97 (.tmp 2)) 5 true) rfl rfl trivial h4 (by kernel_rfl) rfl rfl ?_
   intro v11 g11
   obtain ⟨e11, _⟩ := rv_sv.1 g11
   subst e11
   refine yV (kg 12 (.nilCheck (.tmp 11)) 5 true) (fun _ => val_nilCheck rfl) ?_
   have h13 := RA.gU hg
   refine yFg 13 106 12 2 2 5 true ?_
   refine lN (kg 14 (.load 22 (.tmp 13)) 5 true) rfl rfl trivial h13 (by kernel_rfl) rfl rfl ?_
   intro v14 g14
   refine yMg 15 0 5 true ?_
   refine iS (e := 3) (kg 16 (.indexAddr 22 (.tmp 14) (.tmp 15)) 5 true) rfl rfl g14 rfl (by kernel_rfl) rfl (by omega) (by omega) ?_
   intro b16 o16 h16
   try simp only [Int.toNat_natCast] at h16
   refine lN (kg 17 (.load 3 (.tmp 16)) 5 true) rfl rfl trivial h16 (by kernel_rfl) rfl rfl ?_
   intro v17 g17
   first | (obtain rfl := rv_nat.1 g17) | (obtain rfl := rv_int.1 g17)
   rw [hux]
   refine yV (kg 18 (.binOp .gtr 3 (.tmp 17) (.const (.int .i64 0)) 3) 5 true) (fun _ => val_gtr rfl rfl) ?_
   refine yAt 19 10 18 ?_
   refine yA 4 19 ?_
   exact Sch.nil (hcut _ _ _ (Stp.refl _ _ _) rfl (by rw [hsg]; congr 1; apply decide_eq_decide.2; exact ⟨fun e => ⟨hA, e⟩, fun e => e.2⟩) (sk 16))
  refine run_pl [nn 0, yy 1, yy 2, nn 3, yy 4, yy 5, nn 6, yy 7, yy 8, nn 9, yy 10, yy 11, nn 12, yy 13, yy 14, yy 15] ?_
  refine lN (kq 5 (.load 22 (.tmp 1))) rfl rfl trivial h2 (by kernel_rfl) rfl rfl ?_
  intro v5 g5
  obtain ⟨e5, _⟩ := rv_sv.1 g5
  subst e5
  refine yM 6 0 ?_
  refine iR 3 7 22 5 6 hst rfl (h := ?_)
  intro b7 o7 h7
  try simp only [Int.toNat_natCast] at h7
  refine lN (kq 8 (.load 3 (.tmp 7))) rfl rfl trivial h7 (by kernel_rfl) rfl rfl ?_
  intro v8 g8
  first | (obtain rfl := rv_nat.1 g8) | (obtain rfl := rv_int.1 g8)
  refine yV (kq 9 (.binOp .eql 3 (.tmp 8) (.const (.int .i64 (-2))) 3)) (fun _ => val_F (val_eql rfl rfl) hA) ?_
  refine yM 10 9 ?_
  refine pW (kg 11 (.load 97 (.tmp 2)) 5 true) rfl rfl trivial ?_
  refine pX 12 5 true ?_
  refine pX 13 5 true ?_
  refine pW (kg 14 (.load 22 (.tmp 13)) 5 true) rfl rfl trivial ?_
  refine pX 15 5 true ?_
  refine pX 16 5 true ?_
  refine pW (kg 17 (.load 3 (.tmp 16)) 5 true) rfl rfl trivial ?_
  refine pX 18 5 true ?_
  refine yAf 19 10 18 ?_
  refine yA 4 19 ?_
  exact Sch.nil (hcut _ _ _ (Stp.refl _ _ _) rfl (by rw [hsg, decide_eq_false (fun e => hA e.1)]) (sk 16))
 intro w1 s_1
 refine rt1 Tryz.func108 Tryz.results108 ?_
 replace hT := hT.t s_1
 exact ⟨rfl, hT.out1 (by decide)⟩
namespace F110
def c0 := bodyOf Tryz.f110
end F110
theorem mustV_ok {w₀ : World} {C : Nat → Nat} {n m gb : Nat} {gr : Gr} {wt : Nat → Nat → Int} {U V : Nat → Int} {b3 b4 : Nat} {vus : Value} {usl : List Bool} (hF : Lim w₀ C) (hG : GrIs n m wt U V gr) (hg : RA w₀ (Mc C) gr gb 0) (h3 : RA w₀ (Mc C) (⟨vus⟩ : Sv) b3 0) (h4 : RA w₀ (Mc C) (⟨.pointer (some ⟨gb, 0, none⟩)⟩ : Sv) b4 0) (hus : RV w₀ (Mc C) usl vus) (hul : usl.length = m) {j : Nat} (hj : j < m) :
        Calls Tryz.prog 110 #[.int .i64 j, .pointer (some ⟨b3, 0, none⟩), .pointer (some ⟨b4, 0, none⟩)] w₀ (Ret fun v w' => v = .bool (decide (gB usl j = false ∧ 0 < V j)) ∧ Stp [] w₀ C w' C) := by
 have hF0 := hF
 have hT := Stp.refl [2, 3, 4, 5, 6, 7, 8, 9] w₀ (col1 C)
 replace hF := hF.col1
 replace h3 := (show RA w₀ (Mc (col1 C)) _ _ 0 from by rw [Mc_col1]; exact h3)
 replace h4 := (show RA w₀ (Mc (col1 C)) _ _ 0 from by rw [Mc_col1]; exact h4)
 replace hg := (show RA w₀ (Mc (col1 C)) _ _ 0 from by rw [Mc_col1]; exact hg)
 replace hus := (show RV w₀ (Mc (col1 C)) _ _ from by rw [Mc_col1]; exact hus)
 have hVl := hG.Vl
 have hug : gB usl j = usl[j]'(by omega) := getD_in _
 have hvx : gr.V[j]'(by omega) = V j := by rw [← hG.Vg j hj]; exact (getD_in _).symm
 refine c_st F110.c0 20 [.int .i64 j, .pointer (some ⟨b3, 0, none⟩), .pointer (some ⟨b4, 0, none⟩)] Tryz.func110 ?_
 show Run _ _ _ _ [(0, .int .i64 j), (1, .pointer (some ⟨b3, 0, none⟩)), (2, .pointer (some ⟨b4, 0, none⟩))] _ _
 refine run_sq (run_pl [yy 0] ?_)
 refine yAc 4 (.bool false) ?_
 refine Sch.nil ?_
 refine kp (sr 0 (sr 1 (sr 2 (sub_nil _)))) ?_
 refine run_sq ?_
 refine run_cut 4 (decide (gB usl j = false ∧ 0 < V j)) (col1 C) ?_ ?_
 ·
  intro hcut
  by_cases hA : usl[j]'(by omega) = true
  ·
   refine run_pl [nn 0, yy 1, yy 2, nn 3, yy 4, yy 5, nn 6, yy 7, yy 8, nn 9, yy 10, yy 11, nn 12, yy 13, yy 14, yy 15] ?_
   refine lN (kq 5 (.load 122 (.tmp 1))) rfl rfl trivial h3 (by kernel_rfl) rfl rfl ?_
   intro v5 g5
   obtain ⟨e5, _⟩ := rv_sv.1 g5
   subst e5
   refine yM 6 0 ?_
   refine iR 4 7 122 5 6 hus rfl (h := ?_)
   intro b7 o7 h7
   try simp only [Int.toNat_natCast] at h7
   refine lN (kq 8 (.load 4 (.tmp 7))) rfl rfl trivial h7 (by kernel_rfl) rfl rfl ?_
   intro v8 g8
   obtain rfl := rv_bool.1 g8
   rw [hA]
   refine yV (kq 9 (.unOp .not 4 (.tmp 8))) (fun _ => val_not rfl) ?_
   refine yM 10 9 ?_
   refine pW (kg 11 (.load 97 (.tmp 2)) 5 true) rfl rfl trivial ?_
   refine pX 12 5 true ?_
   refine pX 13 5 true ?_
   refine pW (kg 14 (.load 22 (.tmp 13)) 5 true) rfl rfl trivial ?_
   refine pX 15 5 true ?_
   refine pX 16 5 true ?_
   refine pW (kg 17 (.load 3 (.tmp 16)) 5 true) rfl rfl trivial ?_
   refine pX 18 5 true ?_
   refine yAf 19 10 18 ?_
   refine yA 4 19 ?_
   exact Sch.nil (hcut _ _ _ (Stp.refl _ _ _) rfl (by rw [hug, hA, decide_eq_false (fun e => by cases e.1)]) (sk 16))
  refine run_pl [nn 0, yy 1, yy 2, nn 3, yy 4, yy 5, nn 6, yy 7, yy 8, nn 9, yy 10, yy 11, nn 12, yy 13, yy 14, yy 15] ?_
  refine lN (kq 5 (.load 122 (.tmp 1))) rfl rfl trivial h3 (by kernel_rfl) rfl rfl ?_
  intro v5 g5
  obtain ⟨e5, _⟩ := rv_sv.1 g5
  subst e5
  refine yM 6 0 ?_
  refine iR 4 7 122 5 6 hus rfl (h := ?_)
  intro b7 o7 h7
  try simp only [Int.toNat_natCast] at h7
  refine lN (kq 8 (.load 4 (.tmp 7))) rfl rfl trivial h7 (by kernel_rfl) rfl rfl ?_
  intro v8 g8
  obtain rfl := rv_bool.1 g8
  rw [Bool.eq_false_iff.2 hA]
  refine yV (kq 9 (.unOp .not 4 (.tmp 8))) (fun _ => val_not rfl) ?_
  refine yM 10 9 ?_
  refine lN (kg 11 (.load 97 (.tmp 2)) 5 true) rfl rfl trivial h4 (by kernel_rfl) rfl rfl ?_
  intro v11 g11
  obtain ⟨e11, _⟩ := rv_sv.1 g11
  subst e11
  refine yV (kg 12 (.nilCheck (.tmp 11)) 5 true) (fun _ => val_nilCheck rfl) ?_
  have h13 := RA.gV hg
  refine yFg 13 106 12 3 3 5 true ?_
  refine lN (kg 14 (.load 22 (.tmp 13)) 5 true) rfl rfl trivial h13 (by kernel_rfl) rfl rfl ?_
  intro v14 g14
  refine yMg 15 0 5 true ?_
  refine iS (e := 3) (kg 16 (.indexAddr 22 (.tmp 14) (.tmp 15)) 5 true) rfl rfl g14 rfl (by kernel_rfl) rfl (by omega) (by omega) ?_
  intro b16 o16 h16
  try simp only [Int.toNat_natCast] at h16
  refine lN (kg 17 (.load 3 (.tmp 16)) 5 true) rfl rfl trivial h16 (by kernel_rfl) rfl rfl ?_
  intro v17 g17
  first | (obtain rfl := rv_nat.1 g17) | (obtain rfl := rv_int.1 g17)
  rw [hvx]
  refine yV (kg 18 (.binOp .gtr 3 (.tmp 17) (.const (.int .i64 0)) 3) 5 true) (fun _ => val_gtr rfl rfl) ?_
  refine yAt 19 10 18 ?_
  refine yA 4 19 ?_
  exact Sch.nil (hcut _ _ _ (Stp.refl _ _ _) rfl (by rw [hug]; congr 1; apply decide_eq_decide.2; exact ⟨fun e => ⟨Bool.eq_false_iff.2 hA, e⟩, fun e => e.2⟩) (sk 16))
 intro w1 s_1
 refine rt1 Tryz.func110 Tryz.results110 ?_
 replace hT := hT.t s_1
 exact ⟨rfl, hT.out1 (by decide)⟩
namespace F109
def c0 := bodyOf Tryz.f109
end F109
theorem turned_ok {w₀ : World} {C : Nat → Nat} {n m gb : Nat} {gr : Gr} {wt : Nat → Nat → Int} {U V : Nat → Int} {b2 b3 b4 b5 b10 : Nat} {vst vus : Value} {stl : List Int} {usl : List Bool} (hF : Lim w₀ C) (hG : GrIs n m wt U V gr) (hg : RA w₀ (Mc C) gr gb 0) (h2 : RA w₀ (Mc C) (⟨vst⟩ : Sv) b2 0) (h3 : RA w₀ (Mc C) (⟨vus⟩ : Sv) b3 0) (h4 : RA w₀ (Mc C) (⟨.pointer (some ⟨gb, 0, none⟩)⟩ : Sv) b4 0) (h5 : RA w₀ (Mc C) (⟨.nilFunc⟩ : Sv) b5 0) (h10 : RA w₀ (Mc C) (⟨(.func (.func 106) #[] #[.pointer (some ⟨b2, 0, none⟩), .pointer (some ⟨b3, 0, none⟩), .pointer (some ⟨b4, 0, none⟩), .pointer (some ⟨b5, 0, none⟩)])⟩ : Sv) b10 0) (hst : RV w₀ (Mc C) stl vst) (hus : RV w₀ (Mc C) usl vus) (hsl : stl.length = n) (hul : usl.length = m) {i j : Nat} (hi : i < n) (hj : j < m) :
    Calls Tryz.prog 109 #[.int .i64 j, .int .i64 i, .pointer (some ⟨b10, 0, none⟩)] w₀ (Ret fun v w' => v = .bool (jB stl usl wt U V i j) ∧ Stp [] w₀ C w' C) := by
 have hF0 := hF
 have hT := Stp.refl [2, 3, 4, 5, 6, 7, 8, 9] w₀ (col1 C)
 replace hF := hF.col1
 replace h2 := (show RA w₀ (Mc (col1 C)) _ _ 0 from by rw [Mc_col1]; exact h2)
 replace h3 := (show RA w₀ (Mc (col1 C)) _ _ 0 from by rw [Mc_col1]; exact h3)
 replace h4 := (show RA w₀ (Mc (col1 C)) _ _ 0 from by rw [Mc_col1]; exact h4)
 replace h5 := (show RA w₀ (Mc (col1 C)) _ _ 0 from by rw [Mc_col1]; exact h5)
 replace h10 := (show RA w₀ (Mc (col1 C)) _ _ 0 from by rw [Mc_col1]; exact h10)
 replace hg := (show RA w₀ (Mc (col1 C)) _ _ 0 from by rw [Mc_col1]; exact hg)
 replace hst := (show RV w₀ (Mc (col1 C)) _ _ from by rw [Mc_col1]; exact hst)
 replace hus := (show RV w₀ (Mc (col1 C)) _ _ from by rw [Mc_col1]; exact hus)
 refine c_st F109.c0 10 [.int .i64 j, .int .i64 i, .pointer (some ⟨b10, 0, none⟩)] Tryz.func109 ?_
 show Run _ _ _ _ [(0, .int .i64 j), (1, .int .i64 i), (2, .pointer (some ⟨b10, 0, none⟩))] _ _
 refine run_sq (run_pl [yy 0] ?_)
 refine yAc 5 (.bool false) ?_
 refine Sch.nil (run_sq (run_pl [nn 0, yy 1, yy 2, nn 3, yy 4] ?_))
 refine lN (kq 6 (.load 100 (.tmp 2))) rfl rfl trivial h10 (by kernel_rfl) rfl rfl ?_
 intro v6 g6
 obtain ⟨e6, _⟩ := rv_sv.1 g6
 subst e6
 refine yM 7 1 ?_
 refine yM 8 0 ?_
 refine cT (kq 9 (.call { callee := .value (.tmp 6), args := #[(.tmp 7), (.tmp 8)], argTypes := #[3, 3] })) rfl rfl (enters_func Tryz.call106 rfl rfl) (joins_ok hF hG hg h2 h3 h4 h5 hst hus hsl hul hi hj) ?_
 rintro vw1 w1 ⟨rfl, s_1⟩
 refine yA 5 9 ?_
 refine Sch.nil ?_
 refine rt1 Tryz.func109 Tryz.results109 ?_
 replace hT := hT.t s_1
 exact ⟨rfl, hT.out1 (by decide)⟩
end
end Go.Proofs.YtdmgmlmlielfbaaGreat
