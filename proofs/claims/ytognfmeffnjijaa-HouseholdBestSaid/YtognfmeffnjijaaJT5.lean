/- Steps through functions of the program. -/
import Derived.Test.YtognfmeffnjijaaJD3
import Derived.Test.YtognfmeffnjijaaL2
set_option linter.unusedVariables false
set_option linter.unusedSimpArgs false
set_option maxRecDepth 100000
set_option maxHeartbeats 4000000
namespace Go.Proofs.Ytognfmeffnjijaa
open Go.K Go.K.Rep

namespace F58
noncomputable def c0 := bodyOf Try.f58
noncomputable def c7 := (cl (cl (cr (cl (cr c0)))))
noncomputable def c16 := (cl (cl (cl (cr (cr c7)))))
noncomputable def c17 := (cr (cl (cl (cr (cr c7)))))
noncomputable def c29 := (cl (cl (cr (cr (cr c17)))))
noncomputable def c30 := (cr (cl (cr (cr (cr c17)))))
end F58
theorem augment_step {wB : World} {C : Nat → Nat} {n m fj : Nat} {cj : Array Value} {J : Nat → Nat → Bool} {vp vs : Value} {pl : List Int} (hcj : ∀ args w, (callFunc fj args).run Try.prog w = .ok (.enter fj args) w) (hJ : ∀ w1, Stp [4, 5] wB C w1 C → ∀ i j : Nat, i < n → j < m → Calls Try.prog fj ([Value.int .i64 i, Value.int .i64 j] ++ cj.toList).toArray w1 (Ret fun v w2 => v = .bool (J i j) ∧ Stp [] w1 C w2 C)) {d : Nat}
    (IH : ∀ (w₀ : World) (i : Nat) (sl : List Bool), sl.count false < d → Lim w₀ C → Stp [4, 5] wB C w₀ C → OwnL w₀ C 4 3 vp pl → OwnL w₀ C 5 4 vs sl → pl.length = m → sl.length = m → Pt n m (fun a b => J a b = true) (gI pl) → (∀ k, k < m → gI pl k = i → gB sl k = true) → i < n → m ≤ 1000000 → Calls Try.prog 58 #[.int .i64 m, .func (.func fj) #[] cj, vp, vs, .int .i64 i] w₀ (Ret fun v w' => ∃ (r : Bool) (pl' : List Int) (sl' : List Bool), v = .bool r ∧ Stp [4, 5] w₀ C w' C ∧ OwnL w' C 4 3 vp pl' ∧ OwnL w' C 5 4 vs sl' ∧ pl'.length = m ∧ sl'.length = m ∧ (r = true → Aug n m (fun a b => J a b = true) (gI pl) (gB sl) i (gI pl')) ∧ (r = false → pl' = pl ∧ Fail m (fun a b => J a b = true) (gI pl) (gB sl) (gB sl') ∧ ∀ j, j < m → J i j = true → gB sl' j = true)))
    {w₀ : World} {i : Nat} {sl : List Bool} (hd : sl.count false ≤ d) (hF : Lim w₀ C) (hB : Stp [4, 5] wB C w₀ C) (hp : OwnL w₀ C 4 3 vp pl) (hs : OwnL w₀ C 5 4 vs sl) (hpl : pl.length = m) (hsl : sl.length = m) (hPt : Pt n m (fun a b => J a b = true) (gI pl)) (hsi : ∀ k, k < m → gI pl k = i → gB sl k = true) (hi : i < n) (hm : m ≤ 1000000) : Calls Try.prog 58 #[.int .i64 m, .func (.func fj) #[] cj, vp, vs, .int .i64 i] w₀ (Ret fun v w' => ∃ (r : Bool) (pl' : List Int) (sl' : List Bool), v = .bool r ∧ Stp [4, 5] w₀ C w' C ∧ OwnL w' C 4 3 vp pl' ∧ OwnL w' C 5 4 vs sl' ∧ pl'.length = m ∧ sl'.length = m ∧ (r = true → Aug n m (fun a b => J a b = true) (gI pl) (gB sl) i (gI pl')) ∧ (r = false → pl' = pl ∧ Fail m (fun a b => J a b = true) (gI pl) (gB sl) (gB sl') ∧ ∀ j, j < m → J i j = true → gB sl' j = true)) := by
 have hT := Stp.refl [4, 5] w₀ C
 have hs5 := hs
 clear hs
 refine calls_start (c := F58.c0) (N := 51) [.int .i64 m, .func (.func fj) #[] cj, vp, vs, .int .i64 i] Try.func58 (by kernel_rfl) (by kernel_rfl) (by kernel_rfl) ?_
 show Run _ _ _ _ [(0, .int .i64 m), (1, .func (.func fj) #[] cj), (2, vp), (3, vs), (4, .int .i64 i)] _ _
 refine run_sq ?_
 refine run_pl [yy 0] ?_
 refine yAc 10 (.bool false) ?_
 refine Sch.nil ?_
 refine run_sq ?_
 refine run_sq ?_
 refine run_pl [yy 0, yy 1] ?_
 refine yM 12 0 ?_
 refine yV (kq 13 (.move (.const (.int .i64 0)))) (fun _ => val_move rfl) ?_
 refine Sch.nil ?_
 refine run_bk 0 ?_
 
 refine run_lp (ι := Nat × (List Bool)) (I := fun x w => x.1 ≤ m ∧ x.2.length = m ∧ x.2.count false ≤ sl.count false ∧ Fail m (fun a b => J a b = true) (gI pl) (gB sl) (gB x.2) ∧ (∀ q, q < x.1 → J i q = true → gB x.2 q = true) ∧ Lim w C ∧ Stp [4, 5] w₀ C w C ∧ OwnL w C 4 3 vp pl ∧ OwnL w C 5 4 vs x.2) (e := fun x => [(0, .int .i64 m), (1, .func (.func fj) #[] cj), (2, vp), (3, vs), (4, .int .i64 i), (12, .int .i64 m), (13, .int .i64 x.1)]) (m := fun x => m - x.1) (x₀ := (0, sl)) (sr 0 (sr 1 (sr 2 (sr 3 (sr 4 (sr 12 (sr 13 (sub_nil _)))))))) ?_ ?_
 · exact ⟨Nat.zero_le _, hsl, Nat.le_refl _, Fail.refl, (fun q hq => by simp only at hq; omega), hF, hT, hp, hs5⟩
 intro ⟨j, s1⟩ w1 hI next
 obtain ⟨hj, hl1, hcn, hfa, hJs, hF, hT, hp, hs5⟩ := hI
 try simp only at hj hl1 hcn hfa hJs hF hT hp hs5
 have next1 := next
 clear next
 show Run _ _ _ _ [(0, .int .i64 m), (1, .func (.func fj) #[] cj), (2, vp), (3, vs), (4, .int .i64 i), (12, .int .i64 m), (13, .int .i64 j)] _ _
 refine run_sq ?_
 refine run_pl [yy 0] ?_
 refine yV (kq 14 (.binOp .lss 3 (.tmp 13) (.tmp 12) 3)) (fun _ => val_lss rfl rfl) ?_
 refine Sch.nil ?_
 refine run_sq ?_
 refine run_i 14 rfl (fun h14 => ?_) (fun h14 => ?_)
 ·
  have hjm : j < m := by omega
  refine run_sk ?_
  refine run_sq ?_
  refine run_bk 1 ?_
  refine run_sq ?_
  refine run_pl [yy 0, yy 1] ?_
  refine yM 15 13 ?_
  refine yA 11 15 ?_
  refine Sch.nil ?_
  refine run_sq ?_
  refine run_sq ?_
  by_cases hA : s1[j]'(by omega) = true
  ·
   refine run_pl [yy 0, yy 1, yy 2, nn 3, yy 4, yy 5, yy 6, yy 7, nn 8, yy 9, yy 10] ?_
   refine yM 16 3 ?_
   refine yM 17 11 ?_
   refine oI (e' := 4) (kq 18 (.indexAddr 90 (.tmp 16) (.tmp 17))) rfl rfl hs5 rfl (by kernel_rfl) rfl (by omega) (by omega) ?_
   intro g18 hg18
   try simp only [Int.toNat_natCast]
   refine oN (kq 19 (.load 4 (.tmp 18))) rfl rfl trivial hs5 hg18 (by omega) (by kernel_rfl) rfl rfl ?_
   intro v19 g19
   try simp only [Int.toNat_natCast] at g19
   obtain rfl := rv_bool.1 g19
   rw [hA]
   refine yM 20 19 ?_
   refine pX 21 4 false ?_
   refine pX 22 4 false ?_
   refine pX 23 4 false ?_
   refine pW (kg 24 (.call { callee := .value (.tmp 21), args := #[(.tmp 22), (.tmp 23)], argTypes := #[3, 3] }) 4 false) rfl rfl trivial ?_
   refine pX 25 4 false ?_
   refine yOt 26 20 25 ?_
   refine Sch.nil ?_
   refine run_cT 26 ?_
   refine run_ex 1 ?_
   refine run_pl [yy 0, yy 1] ?_
   refine yV (kq 50 (.binOp .add 3 (.tmp 13) (.const (.int .i64 1)) 3)) (fun _ => val_addi rfl rfl (by omega) (by omega)) ?_
   refine yM 13 50 ?_
   refine Sch.nil ?_
   refine kp (sub_cons 0 rfl rfl (sub_cons 1 rfl rfl (sub_cons 2 rfl rfl (sub_cons 3 rfl rfl (sub_cons 4 rfl rfl (sub_cons 12 rfl rfl (sub_cons 13 rfl (eq_int (by simp)) (sub_nil _)))))))) (next1 (j + 1, s1) _ ⟨(by first | omega | (simp only; omega)), (by first | omega | (simp only; omega)), (by first | omega | (simp only; omega)), (by first | omega | (simp only; omega)), (fun q hq e => by
       simp only at hq
       by_cases e1 : q = j
       · subst e1; show gB s1 q = true; exact (getD_in (by omega)).trans hA
       · exact hJs q (by omega) e), hF, hT, hp, hs5⟩ (by first | omega | (simp only; omega)))
  ·
   refine run_pl [yy 0, yy 1, yy 2, nn 3, yy 4, yy 5, yy 6, yy 7, nn 8, yy 9, yy 10] ?_
   refine yM 16 3 ?_
   refine yM 17 11 ?_
   refine oI (e' := 4) (kq 18 (.indexAddr 90 (.tmp 16) (.tmp 17))) rfl rfl hs5 rfl (by kernel_rfl) rfl (by omega) (by omega) ?_
   intro g18 hg18
   try simp only [Int.toNat_natCast]
   refine oN (kq 19 (.load 4 (.tmp 18))) rfl rfl trivial hs5 hg18 (by omega) (by kernel_rfl) rfl rfl ?_
   intro v19 g19
   try simp only [Int.toNat_natCast] at g19
   obtain rfl := rv_bool.1 g19
   rw [Bool.eq_false_iff.2 hA]
   refine yM 20 19 ?_
   refine yMg 21 1 4 false ?_
   refine yMg 22 4 4 false ?_
   refine yMg 23 11 4 false ?_
   refine cS (kg 24 (.call { callee := .value (.tmp 21), args := #[(.tmp 22), (.tmp 23)], argTypes := #[3, 3] }) 4 false) rfl rfl (enters_func hcj rfl rfl) (hJ _ (hB.trans hT (by simp)) i j hi hjm) ?_
   rintro vw2 w2 ⟨rfl, hs⟩
   refine ⟨trivial, ?_⟩
   replace hF := hF.st hs
   replace hT := hT.t hs; replace hp := hp.t hs; replace hs5 := hs5.t hs
   refine yV (kg 25 (.unOp .not 4 (.tmp 24)) 4 false) (fun _ => val_not rfl) ?_
   refine yOf 26 20 25 ?_
   refine Sch.nil ?_
   refine run_c 26 rfl (fun h26 => ?_) (fun h26 => ?_)
   ·
    have hJf : J i j = false := by simpa using h26
    refine run_ex 1 ?_
    refine run_pl [yy 0, yy 1] ?_
    refine yV (kq 50 (.binOp .add 3 (.tmp 13) (.const (.int .i64 1)) 3)) (fun _ => val_addi rfl rfl (by omega) (by omega)) ?_
    refine yM 13 50 ?_
    refine Sch.nil ?_
    refine kp (sub_cons 0 rfl rfl (sub_cons 1 rfl rfl (sub_cons 2 rfl rfl (sub_cons 3 rfl rfl (sub_cons 4 rfl rfl (sub_cons 12 rfl rfl (sub_cons 13 rfl (eq_int (by simp)) (sub_nil _)))))))) (next1 (j + 1, s1) _ ⟨(by first | omega | (simp only; omega)), (by first | omega | (simp only; omega)), (by first | omega | (simp only; omega)), (by first | omega | (simp only; omega)), (fun q hq e => by
        simp only at hq
        by_cases e1 : q = j
        · subst e1; rw [hJf] at e; cases e
        · exact hJs q (by omega) e), hF, hT, hp, hs5⟩ (by first | omega | (simp only; omega)))
   ·
    have hJt : J i j = true := by simpa using h26
    have hsj : gB s1 j = false := (getD_in (by omega)).trans (Bool.eq_false_iff.2 hA)
    have hs0 : gB sl j = false := by
      cases e : gB sl j with
      | false => rfl
      | true => have := hfa.up j hjm e; rw [hsj] at this; cases this
    refine run_sk ?_
    refine run_sq ?_
    refine run_pl [yy 0, yy 1, yy 2, nn 3] ?_
    refine yM 27 3 ?_
    refine yM 28 11 ?_
    refine oI (e' := 4) (kq 29 (.indexAddr 90 (.tmp 27) (.tmp 28))) rfl rfl hs5 rfl (by kernel_rfl) rfl (by omega) (by omega) ?_
    intro g29 hg29
    try simp only [Int.toNat_natCast]
    refine aN (k0 (.store 4 (.tmp 29) (.const (.bool true)))) rfl (a_storeO hs5 hg29 (by omega) rfl rfl (by kernel_rfl) (rv_bool.2 rfl)) ?_
    rintro _ w3 ⟨rfl, hs, hs5⟩
    refine ⟨trivial, ?_⟩
    replace hF := hF.st hs
    replace hT := hT.t hs; replace hp := hp.t hs
    refine Sch.nil ?_
    have hct := count_set (cl := s1) (a := j) (by omega) (Bool.eq_false_iff.2 hA)
    obtain ⟨s2, hs2⟩ : ∃ l, l = s1.set j true := ⟨_, rfl⟩
    rw [← hs2] at hs5 hct
    have hl2 : s2.length = m := by rw [hs2, List.length_set]; exact hl1
    have hq2 : ∀ q, gB s2 q = if j = q then true else gB s1 q := fun q => by rw [hs2]; exact gB_set' (by omega) q
    have hpj : gI pl j = pl[j]'(by omega) := getD_in _
    have hok := hPt.ok j hjm
    rw [hpj] at hok
    clear hs2
    refine run_sq ?_
    by_cases hP : pl[j]'(by omega) < 0
    ·
     refine run_pl [yy 0, yy 1, yy 2, nn 3, yy 4, yy 5, yy 6, yy 7, yy 8, yy 9, yy 10, yy 11, yy 12, nn 13, nn 14, yy 15] ?_
     refine yM 30 2 ?_
     refine yM 31 11 ?_
     refine oI (e' := 3) (kq 32 (.indexAddr 22 (.tmp 30) (.tmp 31))) rfl rfl hp rfl (by kernel_rfl) rfl (by omega) (by omega) ?_
     intro g32 hg32
     try simp only [Int.toNat_natCast]
     refine oN (kq 33 (.load 3 (.tmp 32))) rfl rfl trivial hp hg32 (by omega) (by kernel_rfl) rfl rfl ?_
     intro v33 g33
     try simp only [Int.toNat_natCast] at g33
     first | (obtain rfl := rv_nat.1 g33) | (obtain rfl := rv_int.1 g33)
     refine yV (kq 34 (.binOp .lss 3 (.tmp 33) (.const (.int .i64 0)) 3)) (fun _ => val_T (val_lss rfl rfl) hP) ?_
     refine yM 35 34 ?_
     refine pX 36 5 false ?_
     refine pX 37 5 false ?_
     refine pX 38 5 false ?_
     refine pX 39 5 false ?_
     refine pX 40 5 false ?_
     refine pX 41 5 false ?_
     refine pX 42 5 false ?_
     refine pW (kg 43 (.load 3 (.tmp 42)) 5 false) rfl rfl trivial ?_
     refine pW (kg 44 (.call { callee := .value (.func 58), args := #[(.tmp 36), (.tmp 37), (.tmp 38), (.tmp 39), (.tmp 43)], argTypes := #[3, 76, 22, 90, 3] }) 5 false) rfl rfl trivial ?_
     refine yOt 45 35 44 ?_
     refine Sch.nil ?_
     refine run_cT 45 ?_
     refine run_sq ?_
     refine run_pl [yy 0, yy 1, yy 2, yy 3, nn 4] ?_
     refine yM 46 2 ?_
     refine yM 47 11 ?_
     refine yM 48 4 ?_
     refine oI (e' := 3) (kq 49 (.indexAddr 22 (.tmp 46) (.tmp 47))) rfl rfl hp rfl (by kernel_rfl) rfl (by omega) (by omega) ?_
     intro g49 hg49
     try simp only [Int.toNat_natCast]
     refine aN (k0 (.store 3 (.tmp 49) (.tmp 48))) rfl (a_storeO hp hg49 (by omega) rfl rfl (by kernel_rfl) (rv_int.2 rfl)) ?_
     rintro _ w4 ⟨rfl, hs, hp⟩
     refine ⟨trivial, ?_⟩
     replace hF := hF.st hs
     replace hT := hT.t hs; replace hs5 := hs5.t hs
     refine Sch.nil ?_
     refine run_sq ?_
     refine run_pl [yy 0] ?_
     refine yAc 10 (.bool true) ?_
     refine Sch.nil ?_
     refine run_ret1 (by kernel_rfl) Try.func58 Try.results58 rfl ?_
     have hneg : gI pl j = -1 := by rw [hpj]; omega
     exact ⟨true, _, _, rfl, hT, hp, hs5, by rw [List.length_set]; exact hpl, hl2, fun _ => Aug.free hPt hsi hi hjm hs0 hJt hneg (by show (pl.set j _).getD j 0 = _; rw [getD_set (by omega), if_pos rfl]) (fun k hk => by show (pl.set j _).getD k 0 = _; rw [getD_set (by omega), if_neg (fun e => hk e.symm)]), fun e => by cases e⟩
    ·
     refine run_pl [yy 0, yy 1, yy 2, nn 3, yy 4, yy 5, yy 6, yy 7, yy 8, yy 9, yy 10, yy 11, yy 12, nn 13, nn 14, yy 15] ?_
     refine yM 30 2 ?_
     refine yM 31 11 ?_
     refine oI (e' := 3) (kq 32 (.indexAddr 22 (.tmp 30) (.tmp 31))) rfl rfl hp rfl (by kernel_rfl) rfl (by omega) (by omega) ?_
     intro g32 hg32
     try simp only [Int.toNat_natCast]
     refine oN (kq 33 (.load 3 (.tmp 32))) rfl rfl trivial hp hg32 (by omega) (by kernel_rfl) rfl rfl ?_
     intro v33 g33
     try simp only [Int.toNat_natCast] at g33
     first | (obtain rfl := rv_nat.1 g33) | (obtain rfl := rv_int.1 g33)
     refine yV (kq 34 (.binOp .lss 3 (.tmp 33) (.const (.int .i64 0)) 3)) (fun _ => val_F (val_lss rfl rfl) hP) ?_
     refine yM 35 34 ?_
     refine yMg 36 0 5 false ?_
     refine yMg 37 1 5 false ?_
     refine yMg 38 2 5 false ?_
     refine yMg 39 3 5 false ?_
     refine yMg 40 2 5 false ?_
     refine yMg 41 11 5 false ?_
     refine oI (e' := 3) (kg 42 (.indexAddr 22 (.tmp 40) (.tmp 41)) 5 false) rfl rfl hp rfl (by kernel_rfl) rfl (by omega) (by omega) ?_
     intro g42 hg42
     try simp only [Int.toNat_natCast]
     refine oN (kg 43 (.load 3 (.tmp 42)) 5 false) rfl rfl trivial hp hg42 (by omega) (by kernel_rfl) rfl rfl ?_
     intro v43 g43
     try simp only [Int.toNat_natCast] at g43
     first | (obtain rfl := rv_nat.1 g43) | (obtain rfl := rv_int.1 g43)
     obtain ⟨r, hr⟩ : ∃ r : Nat, pl[j]'(by omega) = (r : Int) := ⟨(pl[j]'(by omega)).toNat, by omega⟩
     rw [hr]
     have hrn : r < n := by omega
     have hs2j : gB s2 j = true := by rw [hq2, if_pos rfl]
     refine cS (kg 44 (.call { callee := .value (.func 58), args := #[(.tmp 36), (.tmp 37), (.tmp 38), (.tmp 39), (.tmp 43)], argTypes := #[3, 76, 22, 90, 3] }) 5 false) rfl rfl (ent Try.call58 rfl) (IH _ r s2 (by omega) hF (hB.trans hT (by simp)) hp hs5 hpl hl2 hPt (fun k hk e => by
      have := hPt.inj k j hk hjm (by rw [e, hpj, hr]) (by omega)
      subst this; exact hs2j) hrn hm) ?_
     rintro vw5 w5 ⟨rr, pl2, s3, rfl, hs, hp, hs5, hl3, hl4, hy, hn⟩
     refine ⟨trivial, ?_⟩
     replace hF := hF.st hs
     replace hT := hT.t hs
     refine yOf 45 35 44 ?_
     refine Sch.nil ?_
     refine run_c 45 rfl (fun h45 => ?_) (fun h45 => ?_)
     ·
      have hAug := hy h45
      refine run_sq ?_
      refine run_pl [yy 0, yy 1, yy 2, yy 3, nn 4] ?_
      refine yM 46 2 ?_
      refine yM 47 11 ?_
      refine yM 48 4 ?_
      refine oI (e' := 3) (kq 49 (.indexAddr 22 (.tmp 46) (.tmp 47))) rfl rfl hp rfl (by kernel_rfl) rfl (by omega) (by omega) ?_
      intro g49 hg49
      try simp only [Int.toNat_natCast]
      refine aN (k0 (.store 3 (.tmp 49) (.tmp 48))) rfl (a_storeO hp hg49 (by omega) rfl rfl (by kernel_rfl) (rv_int.2 rfl)) ?_
      rintro _ w6 ⟨rfl, hs, hp⟩
      refine ⟨trivial, ?_⟩
      replace hF := hF.st hs
      replace hT := hT.t hs; replace hs5 := hs5.t hs
      refine Sch.nil ?_
      refine run_sq ?_
      refine run_pl [yy 0] ?_
      refine yAc 10 (.bool true) ?_
      refine Sch.nil ?_
      refine run_ret1 (by kernel_rfl) Try.func58 Try.results58 rfl ?_
      exact ⟨true, _, _, rfl, hT, hp, hs5, by rw [List.length_set]; exact hl3, hl4, fun _ => Aug.step hPt hsi hi hjm hs0 hJt (by rw [hpj, hr]) (fun k hk e => by rw [hq2]; split <;> first | rfl | exact hfa.up k hk e) hs2j hAug (by show (pl2.set j _).getD j 0 = _; rw [getD_set (by omega), if_pos rfl]) (fun k hk => by show (pl2.set j _).getD k 0 = _; rw [getD_set (by omega), if_neg (fun e => hk e.symm)]), fun e => by cases e⟩
     ·
      obtain ⟨e2, hFl, hrw⟩ := hn h45
      have e3 : pl = pl2 := e2.symm
      clear e2
      subst e3
      refine run_sk ?_
      refine run_inBlock ?_
      refine run_pl [yy 0, yy 1] ?_
      refine yV (kq 50 (.binOp .add 3 (.tmp 13) (.const (.int .i64 1)) 3)) (fun _ => val_addi rfl rfl (by omega) (by omega)) ?_
      refine yM 13 50 ?_
      refine Sch.nil ?_
      refine kp (sub_cons 0 rfl rfl (sub_cons 1 rfl rfl (sub_cons 2 rfl rfl (sub_cons 3 rfl rfl (sub_cons 4 rfl rfl (sub_cons 12 rfl rfl (sub_cons 13 rfl (eq_int (by simp)) (sub_nil _)))))))) (next1 (j + 1, s3) _ ⟨(by first | omega | (simp only; omega)), hl4, (Nat.le_trans (Fail.cnt hFl hl2 hl4) (by omega)), (hfa.more hq2 hFl (by rw [hpj]; omega) (fun j' hj' hJ' => hrw j' hj' (by rw [hpj, hr] at hJ'; simpa using hJ'))), (fun q hq e => by
          simp only at hq
          by_cases e1 : q = j
          · subst e1; exact hFl.up q hjm hs2j
          · exact hFl.up q (by omega) (by rw [hq2]; split <;> first | rfl | exact hJs q (by omega) e)), hF, hT, hp, hs5⟩ (by first | omega | (simp only; omega)))
 ·
  have hjm : m = j := by omega
  subst hjm
  refine run_ex 0 ?_
  refine run_sq ?_
  refine run_pl [yy 0] ?_
  refine yAc 10 (.bool false) ?_
  refine Sch.nil ?_
  refine run_ret1 (by kernel_rfl) Try.func58 Try.results58 rfl ?_
  exact ⟨false, pl, s1, rfl, hT, hp, hs5, hpl, hl1, (fun e => by cases e), fun _ => ⟨rfl, hfa, hJs⟩⟩
theorem augment_all {wB : World} {C : Nat → Nat} {n m fj : Nat} {cj : Array Value} {J : Nat → Nat → Bool} {vp vs : Value} (hcj : ∀ args w, (callFunc fj args).run Try.prog w = .ok (.enter fj args) w) (hJ : ∀ w1, Stp [4, 5] wB C w1 C → ∀ i j : Nat, i < n → j < m → Calls Try.prog fj ([Value.int .i64 i, Value.int .i64 j] ++ cj.toList).toArray w1 (Ret fun v w2 => v = .bool (J i j) ∧ Stp [] w1 C w2 C)) (d : Nat) : ∀ (pl : List Int) (w₀ : World) (i : Nat) (sl : List Bool), sl.count false < d → Lim w₀ C → Stp [4, 5] wB C w₀ C → OwnL w₀ C 4 3 vp pl → OwnL w₀ C 5 4 vs sl → pl.length = m → sl.length = m → Pt n m (fun a b => J a b = true) (gI pl) → (∀ k, k < m → gI pl k = i → gB sl k = true) → i < n → m ≤ 1000000 → Calls Try.prog 58 #[.int .i64 m, .func (.func fj) #[] cj, vp, vs, .int .i64 i] w₀ (Ret fun v w' => ∃ (r : Bool) (pl' : List Int) (sl' : List Bool), v = .bool r ∧ Stp [4, 5] w₀ C w' C ∧ OwnL w' C 4 3 vp pl' ∧ OwnL w' C 5 4 vs sl' ∧ pl'.length = m ∧ sl'.length = m ∧ (r = true → Aug n m (fun a b => J a b = true) (gI pl) (gB sl) i (gI pl')) ∧ (r = false → pl' = pl ∧ Fail m (fun a b => J a b = true) (gI pl) (gB sl) (gB sl') ∧ ∀ j, j < m → J i j = true → gB sl' j = true)) := by
  induction d with
  | zero => intro pl w₀ i sl h; omega
  | succ d ih => intro pl w₀ i sl h hF hB hp hs hpl hsl hPt hsi hi hm; exact augment_step hcj hJ (d := d) (ih pl) (by omega) hF hB hp hs hpl hsl hPt hsi hi hm
/-- 'augment'. -/
theorem augment_ok {wB : World} {C : Nat → Nat} {n m fj : Nat} {cj : Array Value} {J : Nat → Nat → Bool} {vp vs : Value} (hcj : ∀ args w, (callFunc fj args).run Try.prog w = .ok (.enter fj args) w) (hJ : ∀ w1, Stp [4, 5] wB C w1 C → ∀ i j : Nat, i < n → j < m → Calls Try.prog fj ([Value.int .i64 i, Value.int .i64 j] ++ cj.toList).toArray w1 (Ret fun v w2 => v = .bool (J i j) ∧ Stp [] w1 C w2 C)) {pl : List Int} {w₀ : World} {i : Nat} {sl : List Bool} (hF : Lim w₀ C) (hB : Stp [4, 5] wB C w₀ C) (hp : OwnL w₀ C 4 3 vp pl) (hs : OwnL w₀ C 5 4 vs sl) (hpl : pl.length = m) (hsl : sl.length = m) (hPt : Pt n m (fun a b => J a b = true) (gI pl)) (hsi : ∀ k, k < m → gI pl k = i → gB sl k = true) (hi : i < n) (hm : m ≤ 1000000) : Calls Try.prog 58 #[.int .i64 m, .func (.func fj) #[] cj, vp, vs, .int .i64 i] w₀ (Ret fun v w' => ∃ (r : Bool) (pl' : List Int) (sl' : List Bool), v = .bool r ∧ Stp [4, 5] w₀ C w' C ∧ OwnL w' C 4 3 vp pl' ∧ OwnL w' C 5 4 vs sl' ∧ pl'.length = m ∧ sl'.length = m ∧ (r = true → Aug n m (fun a b => J a b = true) (gI pl) (gB sl) i (gI pl')) ∧ (r = false → pl' = pl ∧ Fail m (fun a b => J a b = true) (gI pl) (gB sl) (gB sl') ∧ ∀ j, j < m → J i j = true → gB sl' j = true)) := augment_all hcj hJ _ pl w₀ i sl (Nat.lt_succ_self _) hF hB hp hs hpl hsl hPt hsi hi hm
end Go.Proofs.Ytognfmeffnjijaa
