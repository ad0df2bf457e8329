/- Steps through functions of the program. -/
import Derived.Test.YtdmgmlmlielfbaaGreatJC7
import Derived.Test.YtdmgmlmlielfbaaGreatL1
set_option linter.unusedVariables false
set_option linter.unusedSimpArgs false
set_option maxRecDepth 100000
set_option maxHeartbeats 4000000
namespace Go.Proofs.YtdmgmlmlielfbaaGreat
open Go.K Go.K.Rep
noncomputable section
theorem DeckIs.give {w' : World} {C1 C' : Nat → Nat} {b i : Nat} (h : DeckIs w' C1 2 b) (hM : ∀ b, Mc C' b → Mc C1 b) (hb : C' b = i) : DeckIs w' C' i b := let ⟨d, ⟨h1, v, h2, h3⟩, h4⟩ := h; ⟨d, ⟨h1, v, RV.give h2 hM, ⟨hb, h3.at_⟩⟩, h4⟩
namespace F14
def c0 := bodyOf Tryz.f14
end F14
theorem bonds_any {w₀ : World} {C : Nat → Nat} {i b R I : Nat} {one : Int} (hF : Lim w₀ C) (hi : i ≠ 0) (hd : DeckIs w₀ C i b) (hR : R ≤ 7) (hI : I ≤ 7) (h1 : 1 ≤ one) (h63 : one ≤ 9223372036854775807) :
    Calls Tryz.prog 14 #[.pointer (some ⟨b, 0, none⟩), .int .i64 R, .int .i64 I, .int .i64 one] w₀ (Ret fun v w' => ∃ l, Dlt R I l ∧ (Stp [i] w₀ C w' C ∧ RV w' (Mc C) l v ∧ DeckIs w' C i b) ∧
      ∀ j, j ≠ 0 → ∃ C', Stp [i] w₀ C w' C' ∧ Lim w' C' ∧ OwnL w' C' j 49 v l ∧ DeckIs w' C' i b) := by
 have hF0 := hF
 have hbc := hd.colour
 replace hd := hd.col2 hi
 have hT := Stp.refl [2, 3, 4, 5, 6, 7, 8, 9] w₀ (col2 C i)
 replace hF := hF.col2 i
 refine c_st F14.c0 53 [.pointer (some ⟨b, 0, none⟩), .int .i64 R, .int .i64 I, .int .i64 one] Tryz.func14 ?_
 show Run _ _ _ _ [(0, .pointer (some ⟨b, 0, none⟩)), (1, .int .i64 R), (2, .int .i64 I), (3, .int .i64 one)] _ _
 refine run_sq (run_pl [yy 0] ?_)
 refine yV (kq 8 (.assign (.const (.slice none 0 0)))) (fun _ => val_assign rfl) ?_
 refine Sch.nil (run_sq (run_pl [yy 0] ?_))
 refine yV (kq 9 (.assign (.const (.slice none 0 0)))) (fun _ => val_assign rfl) ?_
 refine Sch.nil (run_sq (run_sq (run_pl [yy 0] ?_)))
 refine yAc 10 (.int .i64 0) ?_
 refine Sch.nil (run_bk 0 ?_)
 refine run_lp (ι := Nat × (List Bond) × Value × (Nat → Nat)) (I := fun x w => x.1 ≤ R ∧ Dl R I x.1 1 0 0 x.2.1 ∧ Lim w x.2.2.2 ∧ Stp [2, 3, 4, 5, 6, 7, 8, 9] w₀ (col2 C i) w x.2.2.2 ∧ DeckIs w x.2.2.2 2 b ∧ OwnL w x.2.2.2 3 49 x.2.2.1 x.2.1) (e := fun x => [(0, .pointer (some ⟨b, 0, none⟩)), (1, .int .i64 R), (2, .int .i64 I), (3, .int .i64 one), (9, x.2.2.1), (10, .int .i64 x.1)]) (m := fun x => R - x.1) (x₀ := (0, [], .slice none 0 0, col2 C i)) (sr 0 (sr 1 (sr 2 (sr 3 (sr 9 (sr 10 (sub_nil _))))))) ?_ ?_
 · exact ⟨Nat.zero_le _, Dl.nil _ _ _ _ _ _, hF, hT, hd, OwnL.nil⟩
 intro ⟨r, l, vo, C1⟩ w1 hI next1
 obtain ⟨hr, hD, hF, hT, hd, ho⟩ := hI
 try simp only at hr hD hF hT hd ho
 show Run _ _ _ _ [(0, .pointer (some ⟨b, 0, none⟩)), (1, .int .i64 R), (2, .int .i64 I), (3, .int .i64 one), (9, vo), (10, .int .i64 r)] _ _
 refine run_sq (run_sq (run_pl [yy 0, yy 1, yy 2] ?_))
 refine yM 14 10 ?_
 refine yM 15 1 ?_
 refine yL 16 3 14 15 ?_
 refine Sch.nil ?_
 refine run_i 16 rfl (fun h16 => ?_) (fun h16 => ?_)
 ·
  have hrR : r < R := by omega
  refine run_sk (run_sq (run_bk 1 (run_sq (run_pl [yy 0] ?_))))
  refine yAc 11 (.int .i64 1) ?_
  refine Sch.nil (run_bk 2 ?_)
  refine run_lp (ι := Nat × (List Bond) × Value × (Nat → Nat)) (I := fun x w => 1 ≤ x.1 ∧ x.1 ≤ I + 1 ∧ Dl R I r x.1 0 0 x.2.1 ∧ Lim w x.2.2.2 ∧ Stp [2, 3, 4, 5, 6, 7, 8, 9] w₀ (col2 C i) w x.2.2.2 ∧ DeckIs w x.2.2.2 2 b ∧ OwnL w x.2.2.2 3 49 x.2.2.1 x.2.1) (e := fun x => [(0, .pointer (some ⟨b, 0, none⟩)), (1, .int .i64 R), (2, .int .i64 I), (3, .int .i64 one), (9, x.2.2.1), (10, .int .i64 r), (11, .int .i64 x.1)]) (m := fun x => I + 1 - x.1) (x₀ := (1, l, vo, C1)) (sr 0 (sr 1 (sr 2 (sr 3 (sr 9 (sr 10 (sr 11 (sub_nil _)))))))) ?_ ?_
  · exact ⟨Nat.le_refl _, (by simp only; omega), hD, hF, hT, hd, ho⟩
  intro ⟨p, l, vo, C1⟩ w2 hI next2
  obtain ⟨hp1, hp, hD, hF, hT, hd, ho⟩ := hI
  try simp only at hp1 hp hD hF hT hd ho
  show Run _ _ _ _ [(0, .pointer (some ⟨b, 0, none⟩)), (1, .int .i64 R), (2, .int .i64 I), (3, .int .i64 one), (9, vo), (10, .int .i64 r), (11, .int .i64 p)] _ _
  refine run_sq (run_sq (run_pl [yy 0, yy 1, yy 2] ?_))
  refine yM 19 11 ?_
  refine yM 20 2 ?_
  refine yV (kq 21 (.binOp .leq 3 (.tmp 19) (.tmp 20) 3)) (fun _ => val_leq rfl rfl) ?_
  refine Sch.nil ?_
  refine run_i 21 rfl (fun h21 => ?_) (fun h21 => ?_)
  ·
   have hpI : p ≤ I := by omega
   refine run_sk (run_sq (run_bk 3 (run_sq (run_pl [yy 0, yy 1, yy 2] ?_))))
   refine yM 24 10 ?_
   refine yI 25 3 24 1 ?_
   refine yA 12 25 ?_
   refine Sch.nil (run_bk 4 ?_)
   refine run_lp (ι := Nat × (List Bond) × Value × (Nat → Nat)) (I := fun x w => r < x.1 ∧ x.1 ≤ R ∧ Dl R I r p x.1 1 x.2.1 ∧ Lim w x.2.2.2 ∧ Stp [2, 3, 4, 5, 6, 7, 8, 9] w₀ (col2 C i) w x.2.2.2 ∧ DeckIs w x.2.2.2 2 b ∧ OwnL w x.2.2.2 3 49 x.2.2.1 x.2.1) (e := fun x => [(0, .pointer (some ⟨b, 0, none⟩)), (1, .int .i64 R), (2, .int .i64 I), (3, .int .i64 one), (9, x.2.2.1), (10, .int .i64 r), (11, .int .i64 p), (12, .int .i64 x.1)]) (m := fun x => R - x.1) (x₀ := (r + 1, l, vo, C1)) (sr 0 (sr 1 (sr 2 (sr 3 (sr 9 (sr 10 (sr 11 (sub_cons 12 rfl (eq_int (by simp)) (sub_nil _))))))))) ?_ ?_
   · exact ⟨Nat.lt_succ_self _, hrR, (hD.to (fun x h1 h2 => by unfold okR at h1; unfold Cur at *; omega)), hF, hT, hd, ho⟩
   intro ⟨s, l, vo, C1⟩ w3 hI next3
   obtain ⟨hs1, hsR, hD, hF, hT, hd, ho⟩ := hI
   try simp only at hs1 hsR hD hF hT hd ho
   show Run _ _ _ _ [(0, .pointer (some ⟨b, 0, none⟩)), (1, .int .i64 R), (2, .int .i64 I), (3, .int .i64 one), (9, vo), (10, .int .i64 r), (11, .int .i64 p), (12, .int .i64 s)] _ _
   refine run_sq (run_sq (run_pl [yy 0, yy 1, yy 2] ?_))
   refine yM 26 12 ?_
   refine yM 27 1 ?_
   refine yL 28 3 26 27 ?_
   refine Sch.nil ?_
   refine run_i 28 rfl (fun h28 => ?_) (fun h28 => ?_)
   ·
    have hsR2 : s < R := by omega
    refine run_sk (run_sq (run_bk 5 (run_sq (run_pl [yy 0] ?_))))
    refine yAc 13 (.int .i64 1) ?_
    refine Sch.nil (run_bk 6 ?_)
    refine run_lp (ι := Nat × (List Bond) × Value × (Nat → Nat)) (I := fun x w => 1 ≤ x.1 ∧ x.1 ≤ I + 1 ∧ Dl R I r p s x.1 x.2.1 ∧ Lim w x.2.2.2 ∧ Stp [2, 3, 4, 5, 6, 7, 8, 9] w₀ (col2 C i) w x.2.2.2 ∧ DeckIs w x.2.2.2 2 b ∧ OwnL w x.2.2.2 3 49 x.2.2.1 x.2.1) (e := fun x => [(0, .pointer (some ⟨b, 0, none⟩)), (1, .int .i64 R), (2, .int .i64 I), (3, .int .i64 one), (9, x.2.2.1), (10, .int .i64 r), (11, .int .i64 p), (12, .int .i64 s), (13, .int .i64 x.1)]) (m := fun x => I + 1 - x.1) (x₀ := (1, l, vo, C1)) (sr 0 (sr 1 (sr 2 (sr 3 (sr 9 (sr 10 (sr 11 (sr 12 (sr 13 (sub_nil _)))))))))) ?_ ?_
    · exact ⟨Nat.le_refl _, (by simp only; omega), hD, hF, hT, hd, ho⟩
    intro ⟨k, l, vo, C1⟩ w4 hI next4
    obtain ⟨hk1, hk, hD, hF, hT, hd, ho⟩ := hI
    try simp only at hk1 hk hD hF hT hd ho
    show Run _ _ _ _ [(0, .pointer (some ⟨b, 0, none⟩)), (1, .int .i64 R), (2, .int .i64 I), (3, .int .i64 one), (9, vo), (10, .int .i64 r), (11, .int .i64 p), (12, .int .i64 s), (13, .int .i64 k)] _ _
    have hln := hD.len hR hI
    refine run_sq (run_sq (run_pl [yy 0, yy 1, yy 2] ?_))
    refine yM 31 13 ?_
    refine yM 32 2 ?_
    refine yV (kq 33 (.binOp .leq 3 (.tmp 31) (.tmp 32) 3)) (fun _ => val_leq rfl rfl) ?_
    refine Sch.nil ?_
    refine run_i 33 rfl (fun h33 => ?_) (fun h33 => ?_)
    ·
     have hkI : k ≤ I := by omega
     refine run_sk (run_sq (run_bk 7 (run_sq (run_pl [yy 0, yy 1, nn 2] ?_))))
     refine yM 36 0 ?_
     refine yM 37 3 ?_
     refine cG 38 31 [36, 37] [28, 3] Tryz.call31 rfl (one_any hF (by decide) hd h1 h63) ?_
     rintro vw5 w5 ⟨t, rfl, s_1, hd⟩
     refine Sch.nil ?_
     refine run_c 38 rfl (fun h38 => ?_) (fun h38 => ?_)
     ·
      refine run_pl [yy 0, yy 1, yy 2, yy 3, yy 4, yy 5, yy 6, yy 7, nn 8, yy 9, yy 10, nn 11, nn 12, yy 13] ?_
      refine yM 39 9 ?_
      refine yM 40 10 ?_
      refine yM 41 11 ?_
      refine yV (kq 42 (.build 47 #[(0, (.tmp 40)), (1, (.tmp 41))])) (fun _ => val_build (zs := [.int .i64 0, .int .i64 0]) (ps := [(0, 1), (1, 1)]) (qs := [(0, [.int .i64 (r : Int)]), (1, [.int .i64 (p : Int)])]) (cs := [.int .i64 (r : Int), .int .i64 (p : Int)]) (by kernel_rfl) (by kernel_rfl) ⟨rfl, ⟨_, rfl, rfl⟩, rfl, ⟨_, rfl, rfl⟩, trivial⟩ rfl) ?_
      refine yM 43 12 ?_
      refine yM 44 13 ?_
      refine yV (kq 45 (.build 47 #[(0, (.tmp 43)), (1, (.tmp 44))])) (fun _ => val_build (zs := [.int .i64 0, .int .i64 0]) (ps := [(0, 1), (1, 1)]) (qs := [(0, [.int .i64 (s : Int)]), (1, [.int .i64 (k : Int)])]) (cs := [.int .i64 (s : Int), .int .i64 (k : Int)]) (by kernel_rfl) (by kernel_rfl) ⟨rfl, ⟨_, rfl, rfl⟩, rfl, ⟨_, rfl, rfl⟩, trivial⟩ rfl) ?_
      refine yM 46 0 ?_
      replace hF := hF.st s_1
      refine cT (kq 47 (.call { callee := .value (.func 15), args := #[(.tmp 46), (.const (.int .i64 9))], argTypes := #[28, 3] })) rfl rfl (ent Tryz.call15 rfl) (next_any (n := 9) hF (by decide) hd (by omega) (by omega)) ?_
      rintro vw6 w6 ⟨q, rfl, hq, s_2, hd⟩
      refine yV (kq 48 (.binOp .add 3 (.const (.int .i64 1)) (.tmp 47) 3)) (fun _ => val_addi rfl rfl (by omega) (by omega)) ?_
      refine yV (kq 49 (.build 49 #[(0, (.tmp 42)), (1, (.tmp 45)), (2, (.tmp 48))])) (fun _ => val_build (zs := [.int .i64 0, .int .i64 0, .int .i64 0, .int .i64 0, .int .i64 0]) (ps := [(0, 2), (2, 2), (4, 1)]) (qs := [(0, [.int .i64 (r : Int), .int .i64 (p : Int)]), (1, [.int .i64 (s : Int), .int .i64 (k : Int)]), (2, [.int .i64 (1 + (q : Int))])]) (cs := encB (⟨⟨r, p⟩, ⟨s, k⟩, 1 + q⟩ : Bond)) (by kernel_rfl) (by kernel_rfl) ⟨rfl, ⟨_, rfl, rfl⟩, rfl, ⟨_, rfl, rfl⟩, rfl, ⟨_, rfl, rfl⟩, trivial⟩ rfl) ?_
      replace hF := hF.st s_2
      refine aT (kq 50 (.buildSlice 23 1 #[(0, (.tmp 49))])) rfl rfl (a_buildSlice (ys := ([(⟨⟨r, p⟩, ⟨s, k⟩, 1 + q⟩ : Bond)] : List Bond)) (e := 49) (bytes := 40) hF (by kernel_rfl) rfl (by decide) (by decide) ⟨rfl, ⟨_, rfl, rv_bond.2 rfl⟩, trivial⟩) ?_
      rintro v50 w7 ⟨s_3, g50, hF⟩
      replace hd := hd.st s_3 (by first | decide | (simp <;> omega)) (by first | decide | (simp <;> omega))
      replace ho := ((ho.t s_1).t s_2).t s_3
      refine aT (kq 51 (.call { callee := .builtin .append, args := #[(.tmp 39), (.tmp 50)], argTypes := #[23, 23] })) rfl rfl (a_append (e := 49) (bytes := 40) hF (by decide) rfl rfl (by kernel_rfl) (by decide) ho g50 (by simp only [List.length_cons, List.length_nil]; omega) (by simp only [List.length_cons, List.length_nil]; omega)) ?_
      rintro v51 w8 ⟨Cw8, s_4, ho, hF⟩
      replace hd := hd.st s_4 (by first | decide | (simp <;> omega)) (by first | decide | (simp <;> omega))
      refine yA 9 51 ?_
      refine Sch.nil (run_inBlock (run_pl [yy 0, yy 1, yy 2] ?_))
      refine yM 34 13 ?_
      refine yI 35 3 34 1 ?_
      refine yA 13 35 ?_
      refine Sch.nil ?_
      replace hT := (((hT.t s_1).t s_2).t s_3).t s_4
      refine kp (sr 0 (sr 1 (sr 2 (sr 3 (sr 9 (sr 10 (sr 11 (sr 12 (sub_cons 13 rfl (eq_int (by simp)) (sub_nil _)))))))))) (next4 (k + 1, l ++ [(⟨⟨r, p⟩, ⟨s, k⟩, 1 + q⟩ : Bond)], v51, Cw8) _ ⟨(by first | omega | (simp only; omega)), (by first | omega | (simp only; omega)), (hD.push hs1 hsR2 ⟨hp1, hpI⟩ ⟨hk1, hkI⟩ hq), hF, hT, hd, ho⟩ (by first | omega | (simp only; omega)))
     refine run_sk (run_inBlock (run_pl [yy 0, yy 1, yy 2] ?_))
     refine yM 34 13 ?_
     refine yI 35 3 34 1 ?_
     refine yA 13 35 ?_
     refine Sch.nil ?_
     replace hF := hF.st s_1; replace hT := hT.t s_1; replace ho := ho.t s_1
     refine kp (sr 0 (sr 1 (sr 2 (sr 3 (sr 9 (sr 10 (sr 11 (sr 12 (sub_cons 13 rfl (eq_int (by simp)) (sub_nil _)))))))))) (next4 (k + 1, l, vo, C1) _ ⟨(by first | omega | (simp only; omega)), (by first | omega | (simp only; omega)), (hD.to (fun x h1 h2 => by unfold okR at h1; unfold Cur at *; omega)), hF, hT, hd, ho⟩ (by first | omega | (simp only; omega)))
    have hkI : k = I + 1 := by omega
    refine run_ex 6 ?_
    refine run_inBlock (run_pl [yy 0, yy 1, yy 2] ?_)
    refine yM 29 12 ?_
    refine yI 30 3 29 1 ?_
    refine yA 12 30 ?_
    refine Sch.nil ?_
    refine kp (sr 0 (sr 1 (sr 2 (sr 3 (sr 9 (sr 10 (sr 11 (sub_cons 12 rfl (eq_int (by simp)) (sub_nil _))))))))) (next3 (s + 1, l, vo, C1) _ ⟨(by first | omega | (simp only; omega)), (by first | omega | (simp only; omega)), (hD.to (fun x h1 h2 => by unfold okR at h1; unfold Cur at *; omega)), hF, hT, hd, ho⟩ (by first | omega | (simp only; omega)))
   have hsR2 : s = R := by omega
   refine run_ex 4 ?_
   refine run_inBlock (run_pl [yy 0, yy 1, yy 2] ?_)
   refine yM 22 11 ?_
   refine yI 23 3 22 1 ?_
   refine yA 11 23 ?_
   refine Sch.nil ?_
   refine kp (sr 0 (sr 1 (sr 2 (sr 3 (sr 9 (sr 10 (sub_cons 11 rfl (eq_int (by simp)) (sub_nil _)))))))) (next2 (p + 1, l, vo, C1) _ ⟨(by first | omega | (simp only; omega)), (by first | omega | (simp only; omega)), (hD.to (fun x h1 h2 => by unfold okR at h1; unfold Cur at *; omega)), hF, hT, hd, ho⟩ (by first | omega | (simp only; omega)))
  have hpI : p = I + 1 := by omega
  refine run_ex 2 ?_
  refine run_inBlock (run_pl [yy 0, yy 1, yy 2] ?_)
  refine yM 17 10 ?_
  refine yI 18 3 17 1 ?_
  refine yA 10 18 ?_
  refine Sch.nil ?_
  refine kp (sr 0 (sr 1 (sr 2 (sr 3 (sr 9 (sub_cons 10 rfl (eq_int (by simp)) (sub_nil _))))))) (next1 (r + 1, l, vo, C1) _ ⟨(by first | omega | (simp only; omega)), (hD.to (fun x h1 h2 => by unfold okR at h1; unfold Cur at *; omega)), hF, hT, hd, ho⟩ (by first | omega | (simp only; omega)))
 refine run_ex 0 ?_
 refine run_sq (run_pl [yy 0, yy 1] ?_)
 refine yM 52 9 ?_
 refine yA 8 52 ?_
 refine Sch.nil ?_
 refine rt1 Tryz.func14 Tryz.results14 ?_
 have hln := hD.len hR hI
 refine ⟨l, hD.fin hR hI, ⟨hT.out2 (by decide), ho.out hT hF0 (Mc_col2 C i) (fun b _ => col2_lt C i (by decide) b) (by omega), hd.out hT hF0 hbc⟩, fun j hj => ?_⟩
 obtain ⟨Cg, hcg, hFg, hMg, hog⟩ := ho.give hT hF0 (Mc_col2 C i) (fun b _ => col2_lt C i (by decide) b) (by decide) j hj
 exact ⟨Cg, (hT.out2 (by decide)).give hcg, hFg, hog, hd.give hMg (by rw [hcg b (hF0 b (by rw [hbc]; exact hi)), hbc])⟩
end
end Go.Proofs.YtdmgmlmlielfbaaGreat
