/- Steps through functions of the program. -/
import Derived.Test.YtdmgmlmlielfbaaGreatJT4
import Derived.Test.YtdmgmlmlielfbaaGreatJT5
set_option linter.unusedVariables false
set_option linter.unusedSimpArgs false
set_option maxRecDepth 100000
set_option maxHeartbeats 4000000
namespace Go.Proofs.YtdmgmlmlielfbaaGreat
open Go.K Go.K.Rep
noncomputable section
namespace F107
def c0 := bodyOf Tryz.f107
end F107
theorem covers_ok {w₀ : World} {C : Nat → Nat} {n m fj fm : Nat} {cj cm : Array Value} {J : Nat → Nat → Bool} {mu : Nat → Bool} (hF : Lim w₀ C) (hm : m ≤ 1000000) (hn : n ≤ 1000000) (hcj : ∀ args w, (callFunc fj args).run Tryz.prog w = .ok (.enter fj args) w) (hJ : ∀ w1, Stp [] w₀ C w1 C → ∀ i j : Nat, i < n → j < m → Calls Tryz.prog fj ([Value.int .i64 i, Value.int .i64 j] ++ cj.toList).toArray w1 (Ret fun v w2 => v = .bool (J i j) ∧ Stp [] w1 C w2 C)) (hcm : ∀ args w, (callFunc fm args).run Tryz.prog w = .ok (.enter fm args) w) (hM : ∀ w1, Stp [] w₀ C w1 C → ∀ i : Nat, i < n → Calls Tryz.prog fm ([Value.int .i64 i] ++ cm.toList).toArray w1 (Ret fun v w2 => v = .bool (mu i) ∧ Stp [] w1 C w2 C)) :
    Calls Tryz.prog 107 #[.int .i64 n, .int .i64 m, .func (.func fj) #[] cj, .func (.func fm) #[] cm] w₀ (Ret fun v w' => ∃ b : Bool, v = .bool b ∧ Stp [] w₀ C w' C ∧ (b = true ↔ Cover n m (fun a b => J a b = true) (fun a => mu a = true))) := by
 have hF0 := hF
 have hT := Stp.refl [2, 3, 4, 5, 6, 7, 8, 9] w₀ (col1 C)
 replace hF := hF.col1
 refine c_st F107.c0 41 [.int .i64 n, .int .i64 m, .func (.func fj) #[] cj, .func (.func fm) #[] cm] Tryz.func107 ?_
 show Run _ _ _ _ [(0, .int .i64 n), (1, .int .i64 m), (2, .func (.func fj) #[] cj), (3, .func (.func fm) #[] cm)] _ _
 refine run_sq (run_pl [yy 0] ?_)
 refine yAc 8 (.bool false) ?_
 refine Sch.nil (run_sq (run_pl [yy 0, nn 1, yy 2] ?_))
 refine yM 12 1 ?_
 refine aT (kq 13 (.makeSlice 22 (.tmp 12) (.tmp 12))) rfl rfl (a_make (e := 3) (bytes := 8) (x0 := (0 : Int)) (zs := [.int .i64 0]) hF (j := 4) (by decide) (by kernel_rfl) (by kernel_rfl) rfl rfl (by omega) (by omega) (by omega) (fun h M => zero_int)) ?_
 rintro v13 w1 ⟨Cw1, s_1, hp, hF⟩
 refine yA 9 13 ?_
 refine Sch.nil (run_sq (run_sq (run_pl [yy 0, yy 1, yy 2] ?_)))
 refine yM 14 9 ?_
 refine yS (kq 15 (.call { callee := .builtin .len, args := #[(.tmp 14)], argTypes := #[22] })) rfl rfl (fun w' hS => hp.lenV rfl Tryz.underlying22 w' ) ?_
 refine yC 16 (.int .i64 0) ?_
 refine Sch.nil (run_bk 0 ?_)
 refine run_lp (ι := Nat × (List Int) × (Nat → Nat)) (I := fun x w => x.1 ≤ m ∧ x.2.1.length = m ∧ (∀ q, q < x.1 → gI x.2.1 q = -1) ∧ Lim w x.2.2 ∧ Stp [2, 3, 4, 5, 6, 7, 8, 9] w₀ (col1 C) w x.2.2 ∧ OwnL w x.2.2 4 3 v13 x.2.1) (e := fun x => [(0, .int .i64 n), (1, .int .i64 m), (2, .func (.func fj) #[] cj), (3, .func (.func fm) #[] cm), (9, v13), (15, .int .i64 m), (16, .int .i64 x.1)]) (m := fun x => m - x.1) (x₀ := (0, List.replicate m 0, Cw1)) (sr 0 (sr 1 (sr 2 (sr 3 (sr 9 (sub_cons 15 rfl (eq_int (by simp)) (sr 16 (sub_nil _)))))))) ?_ ?_
 ·
   replace hT := hT.t s_1
   exact ⟨Nat.zero_le _, (by simp only; exact List.length_replicate), (fun q hq => by simp only at hq; omega), hF, hT, by simpa using hp⟩
 intro ⟨j, pl, C1⟩ w2 hI next1
 obtain ⟨hj, hpl, hpv, hF, hT, hp⟩ := hI
 try simp only at hj hpl hpv hF hT hp
 show Run _ _ _ _ [(0, .int .i64 n), (1, .int .i64 m), (2, .func (.func fj) #[] cj), (3, .func (.func fm) #[] cm), (9, v13), (15, .int .i64 m), (16, .int .i64 j)] _ _
 refine run_sq (run_pl [yy 0] ?_)
 refine yL 17 3 16 15 ?_
 refine Sch.nil (run_sq ?_)
 refine run_i 17 rfl (fun h17 => ?_) (fun h17 => ?_)
 ·
  have hjm : j < m := by omega
  refine run_sk (run_sq (run_bk 1 (run_sq (run_pl [yy 0, yy 1] ?_))))
  refine yM 18 16 ?_
  refine yA 10 18 ?_
  refine Sch.nil (run_pl [yy 0, yy 1, yy 2, nn 3] ?_)
  refine yM 19 9 ?_
  refine yM 20 10 ?_
  refine oR 3 21 22 19 20 hp rfl (by omega) (h := ?_)
  intro g21 hg21
  try simp only [Int.toNat_natCast]
  refine aU (k0 (.store 3 (.tmp 21) (.const (.int .i64 (-1))))) rfl (a_storeO hp hg21 (by omega) rfl rfl (by kernel_rfl) (rv_int.2 rfl)) ?_
  rintro _ w3 ⟨rfl, s_2, hp⟩
  refine Sch.nil (run_inBlock (run_pl [yy 0, yy 1] ?_))
  refine yI 22 3 16 1 ?_
  refine yM 16 22 ?_
  refine Sch.nil ?_
  replace hF := hF.st s_2; replace hT := hT.t s_2
  refine kp (sub_cons 0 rfl rfl (sub_cons 1 rfl rfl (sub_cons 2 rfl rfl (sub_cons 3 rfl rfl (sub_cons 9 rfl rfl (sub_cons 15 rfl rfl (sub_cons 16 rfl (eq_int (by simp)) (sub_nil _)))))))) (next1 (j + 1, pl.set j (-1), C1) _ ⟨(by first | omega | (simp only; omega)), (by simp only [List.length_set]; exact hpl), (fun q hq => by
      simp only at hq ⊢
      show (pl.set j _).getD q 0 = _
      rw [getD_set (by omega)]
      split
      · rfl
      · exact hpv q (by omega)), hF, hT, hp⟩ (by first | omega | (simp only; omega)))
 have hjm : m = j := by omega
 subst hjm
 have hH := Has.start (n := n) (J := (fun a b => J a b = true)) (must := (fun a => mu a = true)) hpv
 refine run_ex 0 ?_
 refine run_sq (run_sq (run_pl [yy 0, yy 1] ?_))
 refine yM 23 0 ?_
 refine yC 24 (.int .i64 0) ?_
 refine Sch.nil (run_bk 2 ?_)
 refine run_lp (ι := Nat × (List Int) × (Nat → Nat)) (I := fun x w => x.1 ≤ n ∧ x.2.1.length = m ∧ Has n m (fun a b => J a b = true) (fun a => mu a = true) x.1 (gI x.2.1) ∧ Lim w x.2.2 ∧ Stp [2, 3, 4, 5, 6, 7, 8, 9] w₀ (col1 C) w x.2.2 ∧ OwnL w x.2.2 4 3 v13 x.2.1) (e := fun x => [(0, .int .i64 n), (1, .int .i64 m), (2, .func (.func fj) #[] cj), (3, .func (.func fm) #[] cm), (9, v13), (23, .int .i64 n), (24, .int .i64 x.1)]) (m := fun x => n - x.1) (x₀ := (0, pl, C1)) (sr 0 (sr 1 (sr 2 (sr 3 (sr 9 (sr 23 (sr 24 (sub_nil _)))))))) ?_ ?_
 · exact ⟨Nat.zero_le _, hpl, hH, hF, hT, hp⟩
 intro ⟨i, p2, C1⟩ w4 hI next2
 obtain ⟨hi, hpl2, hH, hF, hT, hp⟩ := hI
 try simp only at hi hpl2 hH hF hT hp
 show Run _ _ _ _ [(0, .int .i64 n), (1, .int .i64 m), (2, .func (.func fj) #[] cj), (3, .func (.func fm) #[] cm), (9, v13), (23, .int .i64 n), (24, .int .i64 i)] _ _
 refine run_sq (run_pl [yy 0] ?_)
 refine yL 25 3 24 23 ?_
 refine Sch.nil (run_sq ?_)
 refine run_i 25 rfl (fun h25 => ?_) (fun h25 => ?_)
 ·
  have hin : i < n := by omega
  refine run_sk (run_sq (run_bk 3 (run_sq (run_pl [yy 0, yy 1] ?_))))
  refine yM 26 24 ?_
  refine yA 11 26 ?_
  refine Sch.nil (run_sq ?_)
  by_cases hA : mu i = true
  ·
   refine run_pl [yy 0, yy 1, nn 2, yy 3, yy 4, yy 5, yy 6, yy 7, nn 8, yy 9, nn 10, yy 11, yy 12] ?_
   refine yM 27 3 ?_
   refine yM 28 11 ?_
   refine cT (kq 29 (.call { callee := .value (.tmp 27), args := #[(.tmp 28)], argTypes := #[3] })) rfl rfl (enters_func hcm rfl rfl) (hM _ (hT.out1 (by decide)) i hin) ?_
   rintro vw5 w5 ⟨rfl, hs0⟩
   have s_3 := hs0.unfrz (C1)
   rw [hA]
   refine yM 30 29 ?_
   refine yMg 31 1 3 true ?_
   refine yMg 32 2 3 true ?_
   refine yMg 33 9 3 true ?_
   refine yMg 34 1 3 true ?_
   replace hF := hF.st s_3
   refine aT (kg 35 (.makeSlice 122 (.tmp 34) (.tmp 34)) 3 true) rfl rfl (a_make (e := 4) (bytes := 1) (x0 := false) (zs := [.bool false]) hF (j := 5) (by decide) (by kernel_rfl) (by kernel_rfl) rfl rfl (by omega) (by omega) (by omega) (fun h M => rfl)) ?_
   rintro v35 w6 ⟨Cw6, s_4, hs5, hF⟩
   refine yMg 36 11 3 true ?_
   try simp only [Int.toNat_natCast] at hs5
   replace hT := (hT.t s_3).t s_4
   have hJ2 : ∀ w1, Stp [4, 5] _ (Cw6) w1 (Cw6) → ∀ a b : Nat, a < n → b < m → Calls Tryz.prog fj ([Value.int .i64 a, Value.int .i64 b] ++ cj.toList).toArray w1 (Ret fun v w2 => v = .bool (J a b) ∧ Stp [] w1 (Cw6) w2 (Cw6)) := fun w1 hs1 a b ha hb => (hJ w1 ((hT.trans hs1 (by simp)).out1 (by decide)) a b ha hb).mono (Ret.mono fun v w2 h => ⟨h.1, h.2.unfrz _⟩)
   have hsf : ∀ j, j < m → gB (List.replicate m false) j = false := fun j _ => getD_rep
   replace hp := (hp.t s_3).t s_4
   refine cT (kg 37 (.call { callee := .value (.func 136), args := #[(.tmp 31), (.tmp 32), (.tmp 33), (.tmp 35), (.tmp 36)], argTypes := #[3, 100, 22, 122, 3] }) 3 true) rfl rfl (ent Tryz.call136 rfl) (augment_ok hcj hJ2 hF (Stp.refl _ _ _) hp hs5 hpl2 (by simp) hH.base (fun k hk e => by
      have := hH.only k hk (by omega)
      omega) hin (by omega)) ?_
   rintro vw7 w7 ⟨rr, p3, s3, rfl, s_5, hp, hs5, hl3, _, hy, hno⟩
   refine yV (kg 38 (.unOp .not 4 (.tmp 37)) 3 true) (fun _ => val_not rfl) ?_
   refine yAt 39 30 38 ?_
   refine Sch.nil ?_
   refine run_c 39 rfl (fun h39 => ?_) (fun h39 => ?_)
   ·
    have hrf : rr = false := by simpa using h39
    obtain ⟨_, hfl, hrw⟩ := hno hrf
    have hnc := hH.none hin hA hsf hfl hrw
    refine run_sq (run_pl [yy 0] ?_)
    refine yAc 8 (.bool false) ?_
    refine Sch.nil ?_
    refine rt1 Tryz.func107 Tryz.results107 ?_
    replace hT := hT.t s_5
    exact ⟨false, rfl, hT.out1 (by decide), fun e => (by cases e), fun e => absurd e hnc⟩
   have hrt : rr = true := by simpa using h39
   have hH2 := hH.put hA (hy hrt) hsf
   refine run_sk (run_inBlock (run_pl [yy 0, yy 1] ?_))
   refine yI 40 3 24 1 ?_
   refine yM 24 40 ?_
   refine Sch.nil ?_
   replace hF := hF.st s_5; replace hT := hT.t s_5
   refine kp (sr 0 (sr 1 (sr 2 (sr 3 (sr 9 (sr 23 (sub_cons 24 rfl (eq_int (by simp)) (sub_nil _)))))))) (next2 (i + 1, p3, Cw6) _ ⟨(by first | omega | (simp only; omega)), hl3, hH2, hF, hT, hp⟩ (by first | omega | (simp only; omega)))
  refine run_pl [yy 0, yy 1, nn 2, yy 3, yy 4, yy 5, yy 6, yy 7, nn 8, yy 9, nn 10, yy 11, yy 12] ?_
  refine yM 27 3 ?_
  refine yM 28 11 ?_
  refine cT (kq 29 (.call { callee := .value (.tmp 27), args := #[(.tmp 28)], argTypes := #[3] })) rfl rfl (enters_func hcm rfl rfl) (hM _ (hT.out1 (by decide)) i hin) ?_
  rintro vw8 w8 ⟨rfl, hs0⟩
  have s_6 := hs0.unfrz (C1)
  rw [Bool.eq_false_iff.2 hA]
  refine yM 30 29 ?_
  refine pX 31 3 true ?_
  refine pX 32 3 true ?_
  refine pX 33 3 true ?_
  refine pX 34 3 true ?_
  refine pW (kg 35 (.makeSlice 122 (.tmp 34) (.tmp 34)) 3 true) rfl rfl trivial ?_
  refine pX 36 3 true ?_
  refine pW (kg 37 (.call { callee := .value (.func 136), args := #[(.tmp 31), (.tmp 32), (.tmp 33), (.tmp 35), (.tmp 36)], argTypes := #[3, 100, 22, 122, 3] }) 3 true) rfl rfl trivial ?_
  refine pX 38 3 true ?_
  refine yAf 39 30 38 ?_
  refine Sch.nil (run_cF 39 (run_sk (run_inBlock (run_pl [yy 0, yy 1] ?_))))
  refine yI 40 3 24 1 ?_
  refine yM 24 40 ?_
  refine Sch.nil ?_
  replace hF := hF.st s_6; replace hT := hT.t s_6; replace hp := hp.t s_6
  refine kp (sr 0 (sr 1 (sr 2 (sr 3 (sr 9 (sr 23 (sub_cons 24 rfl (eq_int (by simp)) (sub_nil _)))))))) (next2 (i + 1, p2, C1) _ ⟨(by first | omega | (simp only; omega)), (by first | omega | (simp only; omega)), (hH.skip hA), hF, hT, hp⟩ (by first | omega | (simp only; omega)))
 have hin : n = i := by omega
 subst hin
 refine run_ex 2 ?_
 refine run_sq (run_pl [yy 0] ?_)
 refine yAc 8 (.bool true) ?_
 refine Sch.nil ?_
 refine rt1 Tryz.func107 Tryz.results107 ?_
 exact ⟨true, rfl, hT.out1 (by decide), fun _ => hH.cover, fun _ => rfl⟩
namespace F68
def c0 := bodyOf Tryz.f68
end F68
theorem edge_ok {w₀ : World} {M : Nat → Prop} {gb n m i j : Nat} {gr : Gr} {wt : Nat → Nat → Int} {U V : Nat → Int} (hg : RA w₀ M gr gb 0) (hG : GrIs n m wt U V gr) (hi : i < n) (hj : j < m) :
    Calls Tryz.prog 68 #[.pointer (some ⟨gb, 0, none⟩), .int .i64 i, .int .i64 j] w₀ (Ret fun v w' => v = .bool (edgeB wt U V i j) ∧ w' = w₀) := by
 have hel := hG.edl
 refine c_st F68.c0 17 [.pointer (some ⟨gb, 0, none⟩), .int .i64 i, .int .i64 j] Tryz.func68 ?_
 show Run _ _ _ _ [(0, .pointer (some ⟨gb, 0, none⟩)), (1, .int .i64 i), (2, .int .i64 j)] _ _
 refine run_sq (run_pl [yy 0] ?_)
 refine yAc 6 (.bool false) ?_
 refine Sch.nil (run_sq (run_pl [yy 0, yy 1, yy 2, nn 3, yy 4, yy 5, nn 6, yy 7, yy 8, nn 9, yy 10] ?_))
 refine yM 7 0 ?_
 refine yN 8 7 ?_
 have h9 := RA.gE hg
 refine yF 9 106 8 5 5 ?_
 refine lN (kq 10 (.load 104 (.tmp 9))) rfl rfl trivial h9 (by kernel_rfl) rfl rfl ?_
 intro v10 g10
 refine yM 11 1 ?_
 refine iR 122 12 104 10 11 g10 rfl (h := ?_)
 intro b12 o12 h12
 try simp only [Int.toNat_natCast] at h12
 refine lN (kq 13 (.load 122 (.tmp 12))) rfl rfl trivial h12 (by kernel_rfl) rfl rfl ?_
 intro v13 g13
 have hrl : (gr.edge[i]'(by omega)).length = m := hG.edm _ (List.getElem_mem _)
 refine yM 14 2 ?_
 refine iR 4 15 122 13 14 g13 rfl (h := ?_)
 intro b15 o15 h15
 try simp only [Int.toNat_natCast] at h15
 refine lN (kq 16 (.load 4 (.tmp 15))) rfl rfl trivial h15 (by kernel_rfl) rfl rfl ?_
 intro v16 g16
 obtain rfl := rv_bool.1 g16
 have hev : ((gr.edge[i]'(by omega))[j]'(by omega)) = edgeB wt U V i j := by
   have e1 : gr.edge.getD i [] = gr.edge[i]'(by omega) := getD_in _
   rw [← hG.ed i j hi hj, e1]; exact (getD_in _).symm
 rw [hev]
 refine yA 6 16 ?_
 refine Sch.nil ?_
 refine rt1 Tryz.func68 Tryz.results68 ?_
 exact ⟨rfl, rfl⟩
namespace F67
def c0 := bodyOf Tryz.f67
end F67
theorem begin_own {w₀ : World} {C : Nat → Nat} {gb n m : Nat} {gr : Gr} {wt : Nat → Nat → Int} {U V : Nat → Int} (hF : Lim w₀ C) (hg : RA w₀ (Mc C) gr gb 0) (hG : GrIs n m wt U V gr) (hn : n ≤ 1000000) (cj : Nat) (hcj : cj ≠ 0) :
    Calls Tryz.prog 67 #[.pointer (some ⟨gb, 0, none⟩)] w₀ (Ret fun v w' => ∃ C', Stp [] w₀ C w' C' ∧ Lim w' C' ∧ OwnL w' C' cj 3 v (List.replicate n (-2 : Int))) := by
 have hF0 := hF
 have hT := Stp.refl [2, 3, 4, 5, 6, 7, 8, 9] w₀ (col1 C)
 replace hF := hF.col1
 replace hg : RA w₀ (Mc (col1 C)) gr gb 0 := by rw [Mc_col1]; exact hg
 refine c_st F67.c0 20 [.pointer (some ⟨gb, 0, none⟩)] Tryz.func67 ?_
 show Run _ _ _ _ [(0, .pointer (some ⟨gb, 0, none⟩))] _ _
 refine run_sq (run_pl [yy 0] ?_)
 refine yV (kq 2 (.assign (.const (.slice none 0 0)))) (fun _ => val_assign rfl) ?_
 refine Sch.nil (run_sq (run_pl [yy 0, yy 1, yy 2, nn 3, nn 4, yy 5] ?_))
 refine yM 5 0 ?_
 refine yN 6 5 ?_
 have h7 := RA.gn hg
 refine yF 7 106 6 0 0 ?_
 refine lN (kq 8 (.load 3 (.tmp 7))) rfl rfl trivial h7 (by kernel_rfl) rfl rfl ?_
 intro v8 g8
 first | (obtain rfl := rv_nat.1 g8) | (obtain rfl := rv_int.1 g8)
 rw [hG.gn]
 refine aT (kq 9 (.makeSlice 22 (.tmp 8) (.tmp 8))) rfl rfl (a_make (e := 3) (bytes := 8) (x0 := (0 : Int)) (zs := [.int .i64 0]) hF (j := 3) (by decide) (by kernel_rfl) (by kernel_rfl) rfl rfl (by omega) (by omega) (by omega) (fun h M => zero_int)) ?_
 rintro v9 w1 ⟨Cw1, s_1, ho, hF⟩
 refine yA 3 9 ?_
 refine Sch.nil (run_sq (run_sq (run_pl [yy 0, yy 1, yy 2] ?_)))
 refine yM 10 3 ?_
 refine yS (kq 11 (.call { callee := .builtin .len, args := #[(.tmp 10)], argTypes := #[22] })) rfl rfl (fun w' hS => ho.lenV rfl Tryz.underlying22 w' ) ?_
 refine yC 12 (.int .i64 0) ?_
 refine Sch.nil (run_bk 0 ?_)
 refine run_lp (ι := Nat × (List Int) × (Nat → Nat)) (I := fun x w => x.1 ≤ n ∧ x.2.1.length = n ∧ (∀ q (hq : q < x.2.1.length), q < x.1 → x.2.1[q] = -2) ∧ Lim w x.2.2 ∧ Stp [2, 3, 4, 5, 6, 7, 8, 9] w₀ (col1 C) w x.2.2 ∧ OwnL w x.2.2 3 3 v9 x.2.1) (e := fun x => [(3, v9), (11, .int .i64 n), (12, .int .i64 x.1)]) (m := fun x => n - x.1) (x₀ := (0, List.replicate n 0, Cw1)) (sr 3 (sub_cons 11 rfl (eq_int (by simp)) (sr 12 (sub_nil _)))) ?_ ?_
 ·
   replace hT := hT.t s_1
   exact ⟨Nat.zero_le _, (by simp only; exact List.length_replicate), (fun q hq h => by simp only at h; omega), hF, hT, by simpa using ho⟩
 intro ⟨j, ys, C1⟩ w2 hI next1
 obtain ⟨hj, hyl, hyv, hF, hT, ho⟩ := hI
 try simp only at hj hyl hyv hF hT ho
 show Run _ _ _ _ [(3, v9), (11, .int .i64 n), (12, .int .i64 j)] _ _
 refine run_sq (run_pl [yy 0] ?_)
 refine yL 13 3 12 11 ?_
 refine Sch.nil (run_sq ?_)
 refine run_i 13 rfl (fun h13 => ?_) (fun h13 => ?_)
 ·
  have hjn : j < n := by omega
  refine run_sk (run_sq (run_bk 1 (run_sq (run_pl [yy 0, yy 1] ?_))))
  refine yM 14 12 ?_
  refine yA 4 14 ?_
  refine Sch.nil (run_pl [yy 0, yy 1, yy 2, nn 3] ?_)
  refine yM 15 3 ?_
  refine yM 16 4 ?_
  refine oR 3 17 22 15 16 ho rfl (by omega) (h := ?_)
  intro g17 hg17
  try simp only [Int.toNat_natCast]
  refine aU (k0 (.store 3 (.tmp 17) (.const (.int .i64 (-2))))) rfl (a_storeO ho hg17 (by omega) rfl rfl (by kernel_rfl) (rv_int.2 rfl)) ?_
  rintro _ w3 ⟨rfl, s_2, ho⟩
  refine Sch.nil (run_inBlock (run_pl [yy 0, yy 1] ?_))
  refine yI 18 3 12 1 ?_
  refine yM 12 18 ?_
  refine Sch.nil ?_
  replace hF := hF.st s_2; replace hT := hT.t s_2
  refine kp (sub_cons 3 rfl rfl (sub_cons 11 rfl rfl (sub_cons 12 rfl (eq_int (by simp)) (sub_nil _)))) (next1 (j + 1, ys.set j (-2), C1) _ ⟨(by first | omega | (simp only; omega)), (by simp only [List.length_set]; exact hyl), (fun q hq h => by
      simp only at h ⊢
      rw [List.getElem_set]
      split
      · rfl
      · exact hyv q (by simpa using hq) (by omega)), hF, hT, ho⟩ (by first | omega | (simp only; omega)))
 have hjn : n = j := by omega
 subst hjn
 refine run_ex 0 ?_
 refine run_sq (run_pl [yy 0, yy 1] ?_)
 refine yM 19 3 ?_
 refine yA 2 19 ?_
 refine Sch.nil ?_
 refine rt1 Tryz.func67 Tryz.results67 ?_
 obtain rfl : ys = List.replicate n (-2) := List.ext_getElem (by simp [hyl]) (fun q h1 h2 => by rw [hyv q h1 (by omega), List.getElem_replicate])
 obtain ⟨Cg, hcg, hFg, hMg, hog⟩ := ho.give hT hF0 (Mc_col1 C) (fun b _ => col1_lt C (by decide) b) (by decide) cj hcj
 exact ⟨Cg, (hT.out1 (by decide)).give hcg, hFg, hog⟩
end
end Go.Proofs.YtdmgmlmlielfbaaGreat
