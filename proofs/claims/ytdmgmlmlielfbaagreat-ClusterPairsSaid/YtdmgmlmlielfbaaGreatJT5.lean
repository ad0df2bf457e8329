/- Steps through functions of the program. -/
import Derived.Test.YtdmgmlmlielfbaaGreatJD3
import Derived.Test.YtdmgmlmlielfbaaGreatL3
import Derived.Test.YtdmgmlmlielfbaaGreatL1
set_option linter.unusedVariables false
set_option linter.unusedSimpArgs false
set_option maxRecDepth 100000
set_option maxHeartbeats 4000000
namespace Go.Proofs.YtdmgmlmlielfbaaGreat
open Go.K Go.K.Rep
noncomputable section
namespace F136
def c0 := bodyOf Tryz.f136
end F136
theorem augment_step {wB : World} {C : Nat → Nat} {n m fj : Nat} {cj : Array Value} {J : Nat → Nat → Bool} {vp vs : Value} {pl : List Int} (hcj : ∀ args w, (callFunc fj args).run Tryz.prog w = .ok (.enter fj args) w) (hJ : ∀ w1, Stp [4, 5] wB C w1 C → ∀ i j : Nat, i < n → j < m → Calls Tryz.prog fj ([Value.int .i64 i, Value.int .i64 j] ++ cj.toList).toArray w1 (Ret fun v w2 => v = .bool (J i j) ∧ Stp [] w1 C w2 C)) {d : Nat}
    (IH : ∀ (w₀ : World) (i : Nat) (sl : List Bool), sl.count false < d → Lim w₀ C → Stp [4, 5] wB C w₀ C → OwnL w₀ C 4 3 vp pl → OwnL w₀ C 5 4 vs sl → pl.length = m → sl.length = m → Pt n m (fun a b => J a b = true) (gI pl) → (∀ k, k < m → gI pl k = i → gB sl k = true) → i < n → m ≤ 1000000 → Calls Tryz.prog 136 #[.int .i64 m, .func (.func fj) #[] cj, vp, vs, .int .i64 i] w₀ (Ret fun v w' => ∃ (r : Bool) (pl' : List Int) (sl' : List Bool), v = .bool r ∧ Stp [4, 5] w₀ C w' C ∧ OwnL w' C 4 3 vp pl' ∧ OwnL w' C 5 4 vs sl' ∧ pl'.length = m ∧ sl'.length = m ∧ (r = true → Aug n m (fun a b => J a b = true) (gI pl) (gB sl) i (gI pl')) ∧ (r = false → pl' = pl ∧ Fail m (fun a b => J a b = true) (gI pl) (gB sl) (gB sl') ∧ ∀ j, j < m → J i j = true → gB sl' j = true)))
    {w₀ : World} {i : Nat} {sl : List Bool} (hd : sl.count false ≤ d) (hF : Lim w₀ C) (hB : Stp [4, 5] wB C w₀ C) (hp : OwnL w₀ C 4 3 vp pl) (hs : OwnL w₀ C 5 4 vs sl) (hpl : pl.length = m) (hsl : sl.length = m) (hPt : Pt n m (fun a b => J a b = true) (gI pl)) (hsi : ∀ k, k < m → gI pl k = i → gB sl k = true) (hi : i < n) (hm : m ≤ 1000000) : Calls Tryz.prog 136 #[.int .i64 m, .func (.func fj) #[] cj, vp, vs, .int .i64 i] w₀ (Ret fun v w' => ∃ (r : Bool) (pl' : List Int) (sl' : List Bool), v = .bool r ∧ Stp [4, 5] w₀ C w' C ∧ OwnL w' C 4 3 vp pl' ∧ OwnL w' C 5 4 vs sl' ∧ pl'.length = m ∧ sl'.length = m ∧ (r = true → Aug n m (fun a b => J a b = true) (gI pl) (gB sl) i (gI pl')) ∧ (r = false → pl' = pl ∧ Fail m (fun a b => J a b = true) (gI pl) (gB sl) (gB sl') ∧ ∀ j, j < m → J i j = true → gB sl' j = true)) := by
 have hT := Stp.refl [4, 5] w₀ C
 have hs5 := hs
 clear hs
 refine c_st F136.c0 51 [.int .i64 m, .func (.func fj) #[] cj, vp, vs, .int .i64 i] Tryz.func136 ?_
 show Run _ _ _ _ [(0, .int .i64 m), (1, .func (.func fj) #[] cj), (2, vp), (3, vs), (4, .int .i64 i)] _ _
 refine run_sq (run_pl [yy 0] ?_)
 refine yAc 10 (.bool false) ?_
 refine Sch.nil (run_sq (run_sq (run_pl [yy 0, yy 1] ?_)))
 refine yM 12 0 ?_
 refine yC 13 (.int .i64 0) ?_
 refine Sch.nil (run_bk 0 ?_)
 refine run_lp (ι := Nat × (List Bool)) (I := fun x w => x.1 ≤ m ∧ x.2.length = m ∧ x.2.count false ≤ sl.count false ∧ Fail m (fun a b => J a b = true) (gI pl) (gB sl) (gB x.2) ∧ (∀ q, q < x.1 → J i q = true → gB x.2 q = true) ∧ Lim w C ∧ Stp [4, 5] w₀ C w C ∧ OwnL w C 4 3 vp pl ∧ OwnL w C 5 4 vs x.2) (e := fun x => [(0, .int .i64 m), (1, .func (.func fj) #[] cj), (2, vp), (3, vs), (4, .int .i64 i), (12, .int .i64 m), (13, .int .i64 x.1)]) (m := fun x => m - x.1) (x₀ := (0, sl)) (sr 0 (sr 1 (sr 2 (sr 3 (sr 4 (sr 12 (sr 13 (sub_nil _)))))))) ?_ ?_
 · exact ⟨Nat.zero_le _, hsl, Nat.le_refl _, Fail.refl, (fun q hq => by simp only at hq; omega), hF, hT, hp, hs5⟩
 intro ⟨j, s1⟩ w1 hI next1
 obtain ⟨hj, hl1, hcn, hfa, hJs, hF, hT, hp, hs5⟩ := hI
 try simp only at hj hl1 hcn hfa hJs hF hT hp hs5
 show Run _ _ _ _ [(0, .int .i64 m), (1, .func (.func fj) #[] cj), (2, vp), (3, vs), (4, .int .i64 i), (12, .int .i64 m), (13, .int .i64 j)] _ _
 refine run_sq (run_pl [yy 0] ?_)
 refine yL 14 3 13 12 ?_
 refine Sch.nil (run_sq ?_)
 refine run_i 14 rfl (fun h14 => ?_) (fun h14 => ?_)
 ·
  have hjm : j < m := by omega
  refine run_sk (run_sq (run_bk 1 (run_sq (run_pl [yy 0, yy 1] ?_))))
  refine yM 15 13 ?_
  refine yA 11 15 ?_
  refine Sch.nil (run_sq (run_sq ?_))
  by_cases hA : s1[j]'(by omega) = true
  ·
   refine run_pl [yy 0, yy 1, yy 2, nn 3, yy 4, yy 5, yy 6, yy 7, nn 8, yy 9, yy 10] ?_
   refine yM 16 3 ?_
   refine yM 17 11 ?_
   refine oR 4 18 122 16 17 hs5 rfl (by omega) (h := ?_)
   intro g18 hg18
   try simp only [Int.toNat_natCast]
   refine oN (kq 19 (.load 4 (.tmp 18))) rfl rfl trivial hs5 hg18 (by omega) (by kernel_rfl) rfl rfl ?_
   intro v19 g19
   try simp only [Int.toNat_natCast] at g19
   obtain rfl := rv_bool.1 g19
   rw [hA]
   refine yM 20 19 ?_
   refine pX 21 4 false ?_
   refine pX 22 4 false ?_
   refine pX 23 4 false ?_
   refine pW (kg 24 (.call { callee := .value (.tmp 21), args := #[(.tmp 22), (.tmp 23)], argTypes := #[3, 3] }) 4 false) rfl rfl trivial ?_
   refine pX 25 4 false ?_
   refine yOt 26 20 25 ?_
   refine Sch.nil (run_cT 26 (run_ex 1 ?_))
   refine run_pl [yy 0, yy 1] ?_
   refine yI 50 3 13 1 ?_
   refine yM 13 50 ?_
   refine Sch.nil ?_
   refine kp (sub_cons 0 rfl rfl (sub_cons 1 rfl rfl (sub_cons 2 rfl rfl (sub_cons 3 rfl rfl (sub_cons 4 rfl rfl (sub_cons 12 rfl rfl (sub_cons 13 rfl (eq_int (by simp)) (sub_nil _)))))))) (next1 (j + 1, s1) _ ⟨(by first | omega | (simp only; omega)), (by first | omega | (simp only; omega)), (by first | omega | (simp only; omega)), (by first | omega | (simp only; omega)), (fun q hq e => by
       simp only at hq
       by_cases e1 : q = j
       · subst e1; show gB s1 q = true; exact (getD_in (by omega)).trans hA
       · exact hJs q (by omega) e), hF, hT, hp, hs5⟩ (by first | omega | (simp only; omega)))
  refine run_pl [yy 0, yy 1, yy 2, nn 3, yy 4, yy 5, yy 6, yy 7, nn 8, yy 9, yy 10] ?_
  refine yM 16 3 ?_
  refine yM 17 11 ?_
  refine oR 4 18 122 16 17 hs5 rfl (by omega) (h := ?_)
  intro g18 hg18
  try simp only [Int.toNat_natCast]
  refine oN (kq 19 (.load 4 (.tmp 18))) rfl rfl trivial hs5 hg18 (by omega) (by kernel_rfl) rfl rfl ?_
  intro v19 g19
  try simp only [Int.toNat_natCast] at g19
  obtain rfl := rv_bool.1 g19
  rw [Bool.eq_false_iff.2 hA]
  refine yM 20 19 ?_
  refine yMg 21 1 4 false ?_
  refine yMg 22 4 4 false ?_
  refine yMg 23 11 4 false ?_
  refine cT (kg 24 (.call { callee := .value (.tmp 21), args := #[(.tmp 22), (.tmp 23)], argTypes := #[3, 3] }) 4 false) rfl rfl (enters_func hcj rfl rfl) (hJ _ (hB.trans hT (by simp)) i j hi hjm) ?_
  rintro vw2 w2 ⟨rfl, s_1⟩
  refine yV (kg 25 (.unOp .not 4 (.tmp 24)) 4 false) (fun _ => val_not rfl) ?_
  refine yOf 26 20 25 ?_
  refine Sch.nil ?_
  refine run_c 26 rfl (fun h26 => ?_) (fun h26 => ?_)
  ·
   have hJf : J i j = false := by simpa using h26
   refine run_ex 1 ?_
   refine run_pl [yy 0, yy 1] ?_
   refine yI 50 3 13 1 ?_
   refine yM 13 50 ?_
   refine Sch.nil ?_
   replace hF := hF.st s_1; replace hT := hT.t s_1; replace hp := hp.t s_1; replace hs5 := hs5.t s_1
   refine kp (sub_cons 0 rfl rfl (sub_cons 1 rfl rfl (sub_cons 2 rfl rfl (sub_cons 3 rfl rfl (sub_cons 4 rfl rfl (sub_cons 12 rfl rfl (sub_cons 13 rfl (eq_int (by simp)) (sub_nil _)))))))) (next1 (j + 1, s1) _ ⟨(by first | omega | (simp only; omega)), (by first | omega | (simp only; omega)), (by first | omega | (simp only; omega)), (by first | omega | (simp only; omega)), (fun q hq e => by
        simp only at hq
        by_cases e1 : q = j
        · subst e1; rw [hJf] at e; cases e
        · exact hJs q (by omega) e), hF, hT, hp, hs5⟩ (by first | omega | (simp only; omega)))
  have hJt : J i j = true := by simpa using h26
  have hsj : gB s1 j = false := (getD_in (by omega)).trans (Bool.eq_false_iff.2 hA)
  have hs0 : gB sl j = false := by
    cases e : gB sl j with
    | false => rfl
    | true => have := hfa.up j hjm e; rw [hsj] at this; cases this
  refine run_sk (run_sq (run_pl [yy 0, yy 1, yy 2, nn 3] ?_))
  refine yM 27 3 ?_
  refine yM 28 11 ?_
  replace hs5 := hs5.t s_1
  refine oR 4 29 122 27 28 hs5 rfl (by omega) (h := ?_)
  intro g29 hg29
  try simp only [Int.toNat_natCast]
  refine aU (k0 (.store 4 (.tmp 29) (.const (.bool true)))) rfl (a_storeO hs5 hg29 (by omega) rfl rfl (by kernel_rfl) (rv_bool.2 rfl)) ?_
  rintro _ w3 ⟨rfl, s_2, hs5⟩
  refine Sch.nil ?_
  have hct := count_set (cl := s1) (a := j) (by omega) (Bool.eq_false_iff.2 hA)
  obtain ⟨s2, hs2⟩ : ∃ l, l = s1.set j true := ⟨_, rfl⟩
  rw [← hs2] at hs5 hct
  have hl2 : s2.length = m := by rw [hs2, List.length_set]; exact hl1
  have hq2 : ∀ q, gB s2 q = if j = q then true else gB s1 q := fun q => by rw [hs2]; exact gB_set' (by omega) q
  have hpj : gI pl j = pl[j]'(by omega) := getD_in _
  have hok := hPt.ok j hjm
  rw [hpj] at hok
  clear hs2
  refine run_sq ?_
  by_cases hP : pl[j]'(by omega) < 0
  ·
   refine run_pl [yy 0, yy 1, yy 2, nn 3, yy 4, yy 5, yy 6, yy 7, yy 8, yy 9, yy 10, yy 11, yy 12, nn 13, nn 14, yy 15] ?_
   refine yM 30 2 ?_
   refine yM 31 11 ?_
   replace hp := (hp.t s_1).t s_2
   refine oR 3 32 22 30 31 hp rfl (by omega) (h := ?_)
   intro g32 hg32
   try simp only [Int.toNat_natCast]
   refine oN (kq 33 (.load 3 (.tmp 32))) rfl rfl trivial hp hg32 (by omega) (by kernel_rfl) rfl rfl ?_
   intro v33 g33
   try simp only [Int.toNat_natCast] at g33
   first | (obtain rfl := rv_nat.1 g33) | (obtain rfl := rv_int.1 g33)
   refine yV (kq 34 (.binOp .lss 3 (.tmp 33) (.const (.int .i64 0)) 3)) (fun _ => val_T (val_lss rfl rfl) hP) ?_
   refine yM 35 34 ?_
   refine pX 36 5 false ?_
   refine pX 37 5 false ?_
   refine pX 38 5 false ?_
   refine pX 39 5 false ?_
   refine pX 40 5 false ?_
   refine pX 41 5 false ?_
   refine pX 42 5 false ?_
   refine pW (kg 43 (.load 3 (.tmp 42)) 5 false) rfl rfl trivial ?_
   refine pW (kg 44 (.call { callee := .value (.func 136), args := #[(.tmp 36), (.tmp 37), (.tmp 38), (.tmp 39), (.tmp 43)], argTypes := #[3, 100, 22, 122, 3] }) 5 false) rfl rfl trivial ?_
   refine yOt 45 35 44 ?_
   refine Sch.nil (run_cT 45 (run_sq (run_pl [yy 0, yy 1, yy 2, yy 3, nn 4] ?_)))
   refine yM 46 2 ?_
   refine yM 47 11 ?_
   refine yM 48 4 ?_
   refine oR 3 49 22 46 47 hp rfl (by omega) (h := ?_)
   intro g49 hg49
   try simp only [Int.toNat_natCast]
   refine aU (k0 (.store 3 (.tmp 49) (.tmp 48))) rfl (a_storeO hp hg49 (by omega) rfl rfl (by kernel_rfl) (rv_int.2 rfl)) ?_
   rintro _ w4 ⟨rfl, s_3, hp⟩
   refine Sch.nil (run_sq (run_pl [yy 0] ?_))
   refine yAc 10 (.bool true) ?_
   refine Sch.nil ?_
   refine rt1 Tryz.func136 Tryz.results136 ?_
   have hneg : gI pl j = -1 := by rw [hpj]; omega
   replace hT := ((hT.t s_1).t s_2).t s_3; replace hs5 := hs5.t s_3
   exact ⟨true, _, _, rfl, hT, hp, hs5, by rw [List.length_set]; exact hpl, hl2, fun _ => Aug.free hPt hsi hi hjm hs0 hJt hneg (by show (pl.set j _).getD j 0 = _; rw [getD_set (by omega), if_pos rfl]) (fun k hk => by show (pl.set j _).getD k 0 = _; rw [getD_set (by omega), if_neg (fun e => hk e.symm)]), fun e => by cases e⟩
  refine run_pl [yy 0, yy 1, yy 2, nn 3, yy 4, yy 5, yy 6, yy 7, yy 8, yy 9, yy 10, yy 11, yy 12, nn 13, nn 14, yy 15] ?_
  refine yM 30 2 ?_
  refine yM 31 11 ?_
  replace hp := (hp.t s_1).t s_2
  refine oR 3 32 22 30 31 hp rfl (by omega) (h := ?_)
  intro g32 hg32
  try simp only [Int.toNat_natCast]
  refine oN (kq 33 (.load 3 (.tmp 32))) rfl rfl trivial hp hg32 (by omega) (by kernel_rfl) rfl rfl ?_
  intro v33 g33
  try simp only [Int.toNat_natCast] at g33
  first | (obtain rfl := rv_nat.1 g33) | (obtain rfl := rv_int.1 g33)
  refine yV (kq 34 (.binOp .lss 3 (.tmp 33) (.const (.int .i64 0)) 3)) (fun _ => val_F (val_lss rfl rfl) hP) ?_
  refine yM 35 34 ?_
  refine yMg 36 0 5 false ?_
  refine yMg 37 1 5 false ?_
  refine yMg 38 2 5 false ?_
  refine yMg 39 3 5 false ?_
  refine yMg 40 2 5 false ?_
  refine yMg 41 11 5 false ?_
  refine oI (e' := 3) (kg 42 (.indexAddr 22 (.tmp 40) (.tmp 41)) 5 false) rfl rfl hp rfl (by kernel_rfl) rfl (by omega) (by omega) ?_
  intro g42 hg42
  try simp only [Int.toNat_natCast]
  refine oN (kg 43 (.load 3 (.tmp 42)) 5 false) rfl rfl trivial hp hg42 (by omega) (by kernel_rfl) rfl rfl ?_
  intro v43 g43
  try simp only [Int.toNat_natCast] at g43
  first | (obtain rfl := rv_nat.1 g43) | (obtain rfl := rv_int.1 g43)
  obtain ⟨r, hr⟩ : ∃ r : Nat, pl[j]'(by omega) = (r : Int) := ⟨(pl[j]'(by omega)).toNat, by omega⟩
  rw [hr]
  have hrn : r < n := by omega
  have hs2j : gB s2 j = true := by rw [hq2, if_pos rfl]
  replace hF := (hF.st s_1).st s_2; replace hT := (hT.t s_1).t s_2
  refine cT (kg 44 (.call { callee := .value (.func 136), args := #[(.tmp 36), (.tmp 37), (.tmp 38), (.tmp 39), (.tmp 43)], argTypes := #[3, 100, 22, 122, 3] }) 5 false) rfl rfl (ent Tryz.call136 rfl) (IH _ r s2 (by omega) hF (hB.trans hT (by simp)) hp hs5 hpl hl2 hPt (fun k hk e => by
      have := hPt.inj k j hk hjm (by rw [e, hpj, hr]) (by omega)
      subst this; exact hs2j) hrn hm) ?_
  rintro vw5 w5 ⟨rr, pl2, s3, rfl, s_4, hp, hs5, hl3, hl4, hy, hn⟩
  refine yOf 45 35 44 ?_
  refine Sch.nil ?_
  refine run_c 45 rfl (fun h45 => ?_) (fun h45 => ?_)
  ·
   have hAug := hy h45
   refine run_sq (run_pl [yy 0, yy 1, yy 2, yy 3, nn 4] ?_)
   refine yM 46 2 ?_
   refine yM 47 11 ?_
   refine yM 48 4 ?_
   refine oR 3 49 22 46 47 hp rfl (by omega) (h := ?_)
   intro g49 hg49
   try simp only [Int.toNat_natCast]
   refine aU (k0 (.store 3 (.tmp 49) (.tmp 48))) rfl (a_storeO hp hg49 (by omega) rfl rfl (by kernel_rfl) (rv_int.2 rfl)) ?_
   rintro _ w6 ⟨rfl, s_5, hp⟩
   refine Sch.nil (run_sq (run_pl [yy 0] ?_))
   refine yAc 10 (.bool true) ?_
   refine Sch.nil ?_
   refine rt1 Tryz.func136 Tryz.results136 ?_
   replace hT := (hT.t s_4).t s_5; replace hs5 := hs5.t s_5
   exact ⟨true, _, _, rfl, hT, hp, hs5, by rw [List.length_set]; exact hl3, hl4, fun _ => Aug.step hPt hsi hi hjm hs0 hJt (by rw [hpj, hr]) (fun k hk e => by rw [hq2]; split <;> first | rfl | exact hfa.up k hk e) hs2j hAug (by show (pl2.set j _).getD j 0 = _; rw [getD_set (by omega), if_pos rfl]) (fun k hk => by show (pl2.set j _).getD k 0 = _; rw [getD_set (by omega), if_neg (fun e => hk e.symm)]), fun e => by cases e⟩
  obtain ⟨e2, hFl, hrw⟩ := hn h45
  have e3 : pl = pl2 := e2.symm
  clear e2
  subst e3
  refine run_sk (run_inBlock (run_pl [yy 0, yy 1] ?_))
  refine yI 50 3 13 1 ?_
  refine yM 13 50 ?_
  refine Sch.nil ?_
  replace hF := hF.st s_4; replace hT := hT.t s_4
  refine kp (sub_cons 0 rfl rfl (sub_cons 1 rfl rfl (sub_cons 2 rfl rfl (sub_cons 3 rfl rfl (sub_cons 4 rfl rfl (sub_cons 12 rfl rfl (sub_cons 13 rfl (eq_int (by simp)) (sub_nil _)))))))) (next1 (j + 1, s3) _ ⟨(by first | omega | (simp only; omega)), hl4, (Nat.le_trans (Fail.cnt hFl hl2 hl4) (by omega)), (hfa.more hq2 hFl (by rw [hpj]; omega) (fun j' hj' hJ' => hrw j' hj' (by rw [hpj, hr] at hJ'; simpa using hJ'))), (fun q hq e => by
          simp only at hq
          by_cases e1 : q = j
          · subst e1; exact hFl.up q hjm hs2j
          · exact hFl.up q (by omega) (by rw [hq2]; split <;> first | rfl | exact hJs q (by omega) e)), hF, hT, hp, hs5⟩ (by first | omega | (simp only; omega)))
 have hjm : m = j := by omega
 subst hjm
 refine run_ex 0 ?_
 refine run_sq (run_pl [yy 0] ?_)
 refine yAc 10 (.bool false) ?_
 refine Sch.nil ?_
 refine rt1 Tryz.func136 Tryz.results136 ?_
 exact ⟨false, pl, s1, rfl, hT, hp, hs5, hpl, hl1, (fun e => by cases e), fun _ => ⟨rfl, hfa, hJs⟩⟩
theorem augment_all {wB : World} {C : Nat → Nat} {n m fj : Nat} {cj : Array Value} {J : Nat → Nat → Bool} {vp vs : Value} (hcj : ∀ args w, (callFunc fj args).run Tryz.prog w = .ok (.enter fj args) w) (hJ : ∀ w1, Stp [4, 5] wB C w1 C → ∀ i j : Nat, i < n → j < m → Calls Tryz.prog fj ([Value.int .i64 i, Value.int .i64 j] ++ cj.toList).toArray w1 (Ret fun v w2 => v = .bool (J i j) ∧ Stp [] w1 C w2 C)) (d : Nat) : ∀ (pl : List Int) (w₀ : World) (i : Nat) (sl : List Bool), sl.count false < d → Lim w₀ C → Stp [4, 5] wB C w₀ C → OwnL w₀ C 4 3 vp pl → OwnL w₀ C 5 4 vs sl → pl.length = m → sl.length = m → Pt n m (fun a b => J a b = true) (gI pl) → (∀ k, k < m → gI pl k = i → gB sl k = true) → i < n → m ≤ 1000000 → Calls Tryz.prog 136 #[.int .i64 m, .func (.func fj) #[] cj, vp, vs, .int .i64 i] w₀ (Ret fun v w' => ∃ (r : Bool) (pl' : List Int) (sl' : List Bool), v = .bool r ∧ Stp [4, 5] w₀ C w' C ∧ OwnL w' C 4 3 vp pl' ∧ OwnL w' C 5 4 vs sl' ∧ pl'.length = m ∧ sl'.length = m ∧ (r = true → Aug n m (fun a b => J a b = true) (gI pl) (gB sl) i (gI pl')) ∧ (r = false → pl' = pl ∧ Fail m (fun a b => J a b = true) (gI pl) (gB sl) (gB sl') ∧ ∀ j, j < m → J i j = true → gB sl' j = true)) := by
  induction d with
  | zero => intro pl w₀ i sl h; omega
  | succ d ih => intro pl w₀ i sl h hF hB hp hs hpl hsl hPt hsi hi hm; exact augment_step hcj hJ (d := d) (ih pl) (by omega) hF hB hp hs hpl hsl hPt hsi hi hm
theorem augment_ok {wB : World} {C : Nat → Nat} {n m fj : Nat} {cj : Array Value} {J : Nat → Nat → Bool} {vp vs : Value} (hcj : ∀ args w, (callFunc fj args).run Tryz.prog w = .ok (.enter fj args) w) (hJ : ∀ w1, Stp [4, 5] wB C w1 C → ∀ i j : Nat, i < n → j < m → Calls Tryz.prog fj ([Value.int .i64 i, Value.int .i64 j] ++ cj.toList).toArray w1 (Ret fun v w2 => v = .bool (J i j) ∧ Stp [] w1 C w2 C)) {pl : List Int} {w₀ : World} {i : Nat} {sl : List Bool} (hF : Lim w₀ C) (hB : Stp [4, 5] wB C w₀ C) (hp : OwnL w₀ C 4 3 vp pl) (hs : OwnL w₀ C 5 4 vs sl) (hpl : pl.length = m) (hsl : sl.length = m) (hPt : Pt n m (fun a b => J a b = true) (gI pl)) (hsi : ∀ k, k < m → gI pl k = i → gB sl k = true) (hi : i < n) (hm : m ≤ 1000000) : Calls Tryz.prog 136 #[.int .i64 m, .func (.func fj) #[] cj, vp, vs, .int .i64 i] w₀ (Ret fun v w' => ∃ (r : Bool) (pl' : List Int) (sl' : List Bool), v = .bool r ∧ Stp [4, 5] w₀ C w' C ∧ OwnL w' C 4 3 vp pl' ∧ OwnL w' C 5 4 vs sl' ∧ pl'.length = m ∧ sl'.length = m ∧ (r = true → Aug n m (fun a b => J a b = true) (gI pl) (gB sl) i (gI pl')) ∧ (r = false → pl' = pl ∧ Fail m (fun a b => J a b = true) (gI pl) (gB sl) (gB sl') ∧ ∀ j, j < m → J i j = true → gB sl' j = true)) := augment_all hcj hJ _ pl w₀ i sl (Nat.lt_succ_self _) hF hB hp hs hpl hsl hPt hsi hi hm
end
end Go.Proofs.YtdmgmlmlielfbaaGreat
