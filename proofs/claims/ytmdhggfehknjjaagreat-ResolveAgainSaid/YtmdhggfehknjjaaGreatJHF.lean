/- Steps through functions of the program. -/
import Derived.Test.YtmdhggfehknjjaaGreatJHB
set_option linter.unusedVariables false
set_option linter.unusedSimpArgs false
set_option maxRecDepth 100000
set_option maxHeartbeats 4000000
namespace Go.Proofs.YtmdhggfehknjjaaGreat
open Go.K Go.K.Rep
namespace F13
noncomputable def c0 := bodyOf Tryz.f13
noncomputable def c8 := (cl (cr (cl (cr (cr c0)))))
noncomputable def c19 := (cr (cl (cl (cr (cl c8)))))
noncomputable def c29 := (cl (cl (cr (cl (cl c19)))))
noncomputable def c40 := (cl (cr (cl (cl (cr c29)))))
noncomputable def c51 := (cr (cl (cl (cr (cl c40)))))
noncomputable def c63 := (cr (cr (cr (cl (cl c51)))))
noncomputable def o18 := rops (cl (cl (cr c63)))
end F13
theorem decs_any {w₀ : World} {C : Nat → Nat} {i b R I : Nat} {one : Int} (hF : Lim w₀ C) (hi : i ≠ 0) (hd : DeckIs w₀ C i b) (hR : R ≤ 4) (hI : I ≤ 4) (h1 : 1 ≤ one) (h63 : one ≤ 9223372036854775807) :
    Calls Tryz.prog 13 #[.pointer (some ⟨b, 0, none⟩), .int .i64 R, .int .i64 I, .int .i64 one] w₀ (Ret fun v w' => ∃ l, Dds R I l ∧ Stp [i] w₀ C w' C ∧ RV w' (Mc C) l v ∧ DeckIs w' C i b) := by
 have hF0 := hF
 have hbc := hd.colour
 replace hd := hd.col2 hi
 have hT := Stp.refl [2, 3, 4, 5, 6, 7, 8, 9] w₀ (col2 C i)
 replace hF := hF.col2 i
 refine c_st F13.c0 77 [.pointer (some ⟨b, 0, none⟩), .int .i64 R, .int .i64 I, .int .i64 one] Tryz.func13 ?_
 show Run _ _ _ _ [(0, .pointer (some ⟨b, 0, none⟩)), (1, .int .i64 R), (2, .int .i64 I), (3, .int .i64 one)] _ _
 refine run_sq (run_pl [yy 0] ?_)
 refine yV (kq 8 (.assign (.const (.slice none 0 0)))) (fun _ => val_assign rfl) ?_
 refine Sch.nil (run_sq (run_pl [yy 0] ?_))
 refine yV (kq 9 (.assign (.const (.slice none 0 0)))) (fun _ => val_assign rfl) ?_
 refine Sch.nil (run_sq (run_sq (run_pl [yy 0] ?_)))
 refine yAc 10 (.int .i64 0) ?_
 refine Sch.nil (run_bk 0 ?_)
 refine run_lp (ι := Nat × (List Dcs) × Value × (Nat → Nat)) (I := fun x w => x.1 ≤ R ∧ Dd R I x.1 1 0 0 x.2.1 ∧ Lim w x.2.2.2 ∧ Stp [2, 3, 4, 5, 6, 7, 8, 9] w₀ (col2 C i) w x.2.2.2 ∧ DeckIs w x.2.2.2 2 b ∧ OwnL w x.2.2.2 3 89 x.2.2.1 x.2.1) (e := fun x => [(0, .pointer (some ⟨b, 0, none⟩)), (1, .int .i64 R), (2, .int .i64 I), (3, .int .i64 one), (9, x.2.2.1), (10, .int .i64 x.1)]) (m := fun x => R - x.1) (x₀ := (0, [], .slice none 0 0, col2 C i)) (sr 0 (sr 1 (sr 2 (sr 3 (sr 9 (sr 10 (sub_nil _))))))) ?_ ?_
 · exact ⟨Nat.zero_le _, Dd.nil _ _ _ _ _ _, hF, hT, hd, OwnL.nil⟩
 intro ⟨r, l, vo, C1⟩ w1 hI next
 obtain ⟨hr, hD, hF, hT, hd, ho⟩ := hI
 try simp only at hr hD hF hT hd ho
 have next1 := next
 clear next
 show Run _ _ _ _ [(0, .pointer (some ⟨b, 0, none⟩)), (1, .int .i64 R), (2, .int .i64 I), (3, .int .i64 one), (9, vo), (10, .int .i64 r)] _ _
 refine run_sq (run_sq (run_pl [yy 0, yy 1, yy 2] ?_))
 refine yM 15 10 ?_
 refine yM 16 1 ?_
 refine yL 17 3 15 16 ?_
 refine Sch.nil ?_
 refine run_i 17 rfl (fun h17 => ?_) (fun h17 => ?_)
 ·
  have hrR : r < R := by omega
  refine run_sk (run_sq (run_bk 1 (run_sq (run_pl [yy 0] ?_))))
  refine yAc 11 (.int .i64 1) ?_
  refine Sch.nil (run_bk 2 ?_)
  refine run_lp (ι := Nat × (List Dcs) × Value × (Nat → Nat)) (I := fun x w => 1 ≤ x.1 ∧ x.1 ≤ I + 1 ∧ Dd R I r x.1 0 0 x.2.1 ∧ Lim w x.2.2.2 ∧ Stp [2, 3, 4, 5, 6, 7, 8, 9] w₀ (col2 C i) w x.2.2.2 ∧ DeckIs w x.2.2.2 2 b ∧ OwnL w x.2.2.2 3 89 x.2.2.1 x.2.1) (e := fun x => [(0, .pointer (some ⟨b, 0, none⟩)), (1, .int .i64 R), (2, .int .i64 I), (3, .int .i64 one), (9, x.2.2.1), (10, .int .i64 r), (11, .int .i64 x.1)]) (m := fun x => I + 1 - x.1) (x₀ := (1, l, vo, C1)) (sr 0 (sr 1 (sr 2 (sr 3 (sr 9 (sr 10 (sr 11 (sub_nil _)))))))) ?_ ?_
  · exact ⟨Nat.le_refl _, (by simp only; omega), hD, hF, hT, hd, ho⟩
  intro ⟨p, l, vo, C1⟩ w2 hI next
  obtain ⟨hp1, hp, hD, hF, hT, hd, ho⟩ := hI
  try simp only at hp1 hp hD hF hT hd ho
  have next2 := next
  clear next
  show Run _ _ _ _ [(0, .pointer (some ⟨b, 0, none⟩)), (1, .int .i64 R), (2, .int .i64 I), (3, .int .i64 one), (9, vo), (10, .int .i64 r), (11, .int .i64 p)] _ _
  refine run_sq (run_sq (run_pl [yy 0, yy 1, yy 2] ?_))
  refine yM 20 11 ?_
  refine yM 21 2 ?_
  refine yV (kq 22 (.binOp .leq 3 (.tmp 20) (.tmp 21) 3)) (fun _ => val_leq rfl rfl) ?_
  refine Sch.nil ?_
  refine run_i 22 rfl (fun h22 => ?_) (fun h22 => ?_)
  ·
   have hpI : p ≤ I := by omega
   refine run_sk (run_sq (run_bk 3 (run_sq (run_pl [yy 0, yy 1, yy 2] ?_))))
   refine yM 25 10 ?_
   refine yI 26 3 25 1 ?_
   refine yA 12 26 ?_
   refine Sch.nil (run_bk 4 ?_)
   refine run_lp (ι := Nat × (List Dcs) × Value × (Nat → Nat)) (I := fun x w => r < x.1 ∧ x.1 ≤ R ∧ Dd R I r p x.1 1 x.2.1 ∧ Lim w x.2.2.2 ∧ Stp [2, 3, 4, 5, 6, 7, 8, 9] w₀ (col2 C i) w x.2.2.2 ∧ DeckIs w x.2.2.2 2 b ∧ OwnL w x.2.2.2 3 89 x.2.2.1 x.2.1) (e := fun x => [(0, .pointer (some ⟨b, 0, none⟩)), (1, .int .i64 R), (2, .int .i64 I), (3, .int .i64 one), (9, x.2.2.1), (10, .int .i64 r), (11, .int .i64 p), (12, .int .i64 x.1)]) (m := fun x => R - x.1) (x₀ := (r + 1, l, vo, C1)) (sr 0 (sr 1 (sr 2 (sr 3 (sr 9 (sr 10 (sr 11 (sub_cons 12 rfl (eq_int (by simp)) (sub_nil _))))))))) ?_ ?_
   · exact ⟨Nat.lt_succ_self _, hrR, (hD.to (fun x h1 h2 => by unfold okDc at h1; unfold CurD at *; omega)), hF, hT, hd, ho⟩
   intro ⟨s, l, vo, C1⟩ w3 hI next
   obtain ⟨hs1, hsR, hD, hF, hT, hd, ho⟩ := hI
   try simp only at hs1 hsR hD hF hT hd ho
   have next3 := next
   clear next
   show Run _ _ _ _ [(0, .pointer (some ⟨b, 0, none⟩)), (1, .int .i64 R), (2, .int .i64 I), (3, .int .i64 one), (9, vo), (10, .int .i64 r), (11, .int .i64 p), (12, .int .i64 s)] _ _
   refine run_sq (run_sq (run_pl [yy 0, yy 1, yy 2] ?_))
   refine yM 27 12 ?_
   refine yM 28 1 ?_
   refine yL 29 3 27 28 ?_
   refine Sch.nil ?_
   refine run_i 29 rfl (fun h29 => ?_) (fun h29 => ?_)
   ·
    have hsR2 : s < R := by omega
    refine run_sk (run_sq (run_bk 5 (run_sq (run_pl [yy 0] ?_))))
    refine yAc 13 (.int .i64 1) ?_
    refine Sch.nil (run_bk 6 ?_)
    refine run_lp (ι := Nat × (List Dcs) × Value × (Nat → Nat)) (I := fun x w => 1 ≤ x.1 ∧ x.1 ≤ I + 1 ∧ Dd R I r p s x.1 x.2.1 ∧ Lim w x.2.2.2 ∧ Stp [2, 3, 4, 5, 6, 7, 8, 9] w₀ (col2 C i) w x.2.2.2 ∧ DeckIs w x.2.2.2 2 b ∧ OwnL w x.2.2.2 3 89 x.2.2.1 x.2.1) (e := fun x => [(0, .pointer (some ⟨b, 0, none⟩)), (1, .int .i64 R), (2, .int .i64 I), (3, .int .i64 one), (9, x.2.2.1), (10, .int .i64 r), (11, .int .i64 p), (12, .int .i64 s), (13, .int .i64 x.1)]) (m := fun x => I + 1 - x.1) (x₀ := (1, l, vo, C1)) (sr 0 (sr 1 (sr 2 (sr 3 (sr 9 (sr 10 (sr 11 (sr 12 (sr 13 (sub_nil _)))))))))) ?_ ?_
    · exact ⟨Nat.le_refl _, (by simp only; omega), hD, hF, hT, hd, ho⟩
    intro ⟨k, l, vo, C1⟩ w4 hI next
    obtain ⟨hk1, hk, hD, hF, hT, hd, ho⟩ := hI
    try simp only at hk1 hk hD hF hT hd ho
    have next4 := next
    clear next
    show Run _ _ _ _ [(0, .pointer (some ⟨b, 0, none⟩)), (1, .int .i64 R), (2, .int .i64 I), (3, .int .i64 one), (9, vo), (10, .int .i64 r), (11, .int .i64 p), (12, .int .i64 s), (13, .int .i64 k)] _ _
    have hln := hD.len hR hI
    refine run_sq (run_sq (run_pl [yy 0, yy 1, yy 2] ?_))
    refine yM 32 13 ?_
    refine yM 33 2 ?_
    refine yV (kq 34 (.binOp .leq 3 (.tmp 32) (.tmp 33) 3)) (fun _ => val_leq rfl rfl) ?_
    refine Sch.nil ?_
    refine run_i 34 rfl (fun h34 => ?_) (fun h34 => ?_)
    ·
     have hkI : k ≤ I := by omega
     refine run_sk (run_sq (run_bk 7 (run_sq (run_sq (run_pl [yy 0, yy 1, nn 2, yy 3] ?_)))))
     refine yM 37 0 ?_
     refine yM 38 3 ?_
     refine cG 39 15 [37, 38] [30, 3] Tryz.call15 rfl (one_any (n := one) hF (by decide) hd (by omega) (by omega)) ?_
     rintro vw5 w5 ⟨t, rfl, s_1, hd⟩
     refine yV (kq 40 (.unOp .not 4 (.tmp 39))) (fun _ => val_not rfl) ?_
     refine Sch.nil ?_
     refine run_c 40 rfl (fun h40 => ?_) (fun h40 => ?_)
     ·
      refine run_ex 7 ?_
      refine run_pl [yy 0, yy 1, yy 2] ?_
      refine yM 35 13 ?_
      refine yI 36 3 35 1 ?_
      refine yA 13 36 ?_
      refine Sch.nil ?_
      replace hF := hF.st s_1; replace hT := hT.t s_1; replace ho := ho.t s_1
      refine kp (sub_cons 0 rfl rfl (sub_cons 1 rfl rfl (sub_cons 2 rfl rfl (sub_cons 3 rfl rfl (sub_cons 9 rfl rfl (sub_cons 10 rfl rfl (sub_cons 11 rfl rfl (sub_cons 12 rfl rfl (sub_cons 13 rfl (eq_int (by simp)) (sub_nil _)))))))))) (next4 (k + 1, l, vo, C1) _ ⟨(by first | omega | (simp only; omega)), (by first | omega | (simp only; omega)), (hD.to (fun x h1 h2 => by unfold okDc at h1; unfold CurD at *; omega)), hF, hT, hd, ho⟩ (by first | omega | (simp only; omega)))
     refine run_sk (run_sq (run_pl [yy 0, yy 1, yy 2, yy 3, yy 4, yy 5, yy 6, nn 7, yy 8, yy 9, nn 10, yy 11, yy 12, nn 13, yy 14, nn 15, nn 16] ?_))
     refine yM 41 10 ?_
     refine yM 42 11 ?_
     refine yV (kq 43 (.build 55 #[(0, (.tmp 41)), (1, (.tmp 42))])) (fun _ => val_build (zs := [.int .i64 0, .int .i64 0]) (ps := [(0, 1), (1, 1)]) (qs := [(0, [.int .i64 (r : Int)]), (1, [.int .i64 (p : Int)])]) (cs := [.int .i64 (r : Int), .int .i64 (p : Int)]) (by kernel_rfl) (by kernel_rfl) ⟨rfl, ⟨_, rfl, rfl⟩, rfl, ⟨_, rfl, rfl⟩, trivial⟩ rfl) ?_
     refine yM 44 12 ?_
     refine yM 45 13 ?_
     refine yV (kq 46 (.build 55 #[(0, (.tmp 44)), (1, (.tmp 45))])) (fun _ => val_build (zs := [.int .i64 0, .int .i64 0]) (ps := [(0, 1), (1, 1)]) (qs := [(0, [.int .i64 (s : Int)]), (1, [.int .i64 (k : Int)])]) (cs := [.int .i64 (s : Int), .int .i64 (k : Int)]) (by kernel_rfl) (by kernel_rfl) ⟨rfl, ⟨_, rfl, rfl⟩, rfl, ⟨_, rfl, rfl⟩, trivial⟩ rfl) ?_
     refine yM 47 0 ?_
     replace hF := hF.st s_1
     refine cT (kq 48 (.call { callee := .value (.func 26), args := #[(.tmp 47), (.const (.int .i64 2))], argTypes := #[30, 3] })) rfl rfl (ent Tryz.call26 rfl) (next_any (n := 2) hF (by decide) hd (by omega) (by omega)) ?_
     rintro vw6 w6 ⟨q1, rfl, hq1, s_2, hd⟩
     refine yV (kq 49 (.binOp .add 3 (.const (.int .i64 1)) (.tmp 48) 3)) (fun _ => val_addi rfl rfl (by omega) (by omega)) ?_
     refine yM 50 0 ?_
     replace hF := hF.st s_2
     refine cT (kq 51 (.call { callee := .value (.func 26), args := #[(.tmp 50), (.const (.int .i64 2))], argTypes := #[30, 3] })) rfl rfl (ent Tryz.call26 rfl) (next_any (n := 2) hF (by decide) hd (by omega) (by omega)) ?_
     rintro vw7 w7 ⟨q2, rfl, hq2, s_3, hd⟩
     refine yV (kq 52 (.binOp .add 3 (.const (.int .i64 1)) (.tmp 51) 3)) (fun _ => val_addi rfl rfl (by omega) (by omega)) ?_
     refine yM 53 0 ?_
     replace hF := hF.st s_3
     refine cT (kq 54 (.call { callee := .value (.func 15), args := #[(.tmp 53), (.const (.int .i64 2))], argTypes := #[30, 3] })) rfl rfl (ent Tryz.call15 rfl) (one_any (n := 2) hF (by decide) hd (by omega) (by omega)) ?_
     rintro vw8 w8 ⟨sm, rfl, s_4, hd⟩
     refine yV (kq 55 (.build 89 #[(0, (.tmp 43)), (1, (.tmp 46)), (2, (.tmp 49)), (3, (.tmp 52)), (4, (.tmp 54))])) (fun _ => val_build (zs := [.int .i64 0, .int .i64 0, .int .i64 0, .int .i64 0, .int .i64 0, .int .i64 0, .bool false]) (ps := [(0, 2), (2, 2), (4, 1), (5, 1), (6, 1)]) (qs := [(0, [.int .i64 (r : Int), .int .i64 (p : Int)]), (1, [.int .i64 (s : Int), .int .i64 (k : Int)]), (2, [.int .i64 (1 + (q1 : Int))]), (3, [.int .i64 (1 + (q2 : Int))]), (4, [.bool sm])]) (cs := encD (⟨⟨r, p⟩, ⟨s, k⟩, 1 + q1, 1 + q2, sm⟩ : Dcs)) (by kernel_rfl) (by kernel_rfl) (by exact ⟨rfl, ⟨_, rfl, rfl⟩, rfl, ⟨_, rfl, rfl⟩, rfl, ⟨_, rfl, rfl⟩, rfl, ⟨_, rfl, rfl⟩, rfl, ⟨_, rfl, rfl⟩, trivial⟩) rfl) ?_
     replace hF := hF.st s_4
     refine aT (kq 14 (.alloc 89)) rfl rfl (a_alloc (cs := [.int .i64 0, .int .i64 0, .int .i64 0, .int .i64 0, .int .i64 0, .int .i64 0, .bool false]) hF 4 (by kernel_rfl)) ?_
     rintro _ w9 ⟨Cw9, bw9, rfl, s_5, bx, hF⟩
     replace hd := hd.st s_5 (by first | decide | (simp <;> omega)) (by first | decide | (simp <;> omega))
     refine aU (k0 (.store 89 (.tmp 14) (.tmp 55))) rfl (a_storeAll (vs := encD (⟨⟨r, p⟩, ⟨s, k⟩, 1 + q1, 1 + q2, sm⟩ : Dcs)) (n := 7) rfl rfl (by kernel_rfl) rfl rfl (by intro u hu; simp only [encD, List.mem_cons, List.not_mem_nil, or_false] at hu; rcases hu with rfl | rfl | rfl | rfl | rfl | rfl | rfl <;> rfl) bx rfl) ?_
     rintro _ w10 ⟨rfl, s_6, bx⟩
     replace hd := hd.st s_6 (by first | decide | (simp <;> omega)) (by first | decide | (simp <;> omega))
     refine Sch.nil (run_sq (run_pl [yy 0, nn 1, nn 2, nn 3, yy 4] ?_))
     refine yM 56 9 ?_
     refine nS (kq 57 (.load 89 (.tmp 14))) rfl rfl trivial (val_loadOwnAgg (n := 7) (vs := encD (⟨⟨r, p⟩, ⟨s, k⟩, 1 + q1, 1 + q2, sm⟩ : Dcs)) bx.at_ (by kernel_rfl) (by kernel_rfl) rfl rfl rfl) ?_
     replace hF := hF.st s_6
     refine aT (kq 58 (.buildSlice 27 1 #[(0, (.tmp 57))])) rfl rfl (a_buildSlice (ys := ([(⟨⟨r, p⟩, ⟨s, k⟩, 1 + q1, 1 + q2, sm⟩ : Dcs)] : List Dcs)) (e := 89) (bytes := 56) hF (by kernel_rfl) rfl (by decide) (by decide) ⟨rfl, ⟨_, rfl, rv_dcs.2 rfl⟩, trivial⟩) ?_
     rintro v58 w11 ⟨s_7, g58, hF⟩
     replace hd := hd.st s_7 (by first | decide | (simp <;> omega)) (by first | decide | (simp <;> omega))
     replace ho := ((((((ho.t s_1).t s_2).t s_3).t s_4).t s_5).t s_6).t s_7
     refine aT (kq 59 (.call { callee := .builtin .append, args := #[(.tmp 56), (.tmp 58)], argTypes := #[27, 27] })) rfl rfl (a_append (e := 89) (bytes := 56) hF (by decide) rfl rfl (by kernel_rfl) (by decide) ho g58 (by simp only [List.length_cons, List.length_nil]; omega) (by simp only [List.length_cons, List.length_nil]; omega)) ?_
     rintro v59 w12 ⟨Cw12, s_8, ho, hF⟩
     replace hd := hd.st s_8 (by first | decide | (simp <;> omega)) (by first | decide | (simp <;> omega))
     refine yA 9 59 ?_
     refine Sch.nil (run_sq (run_pl [yy 0, nn 1] ?_))
     refine yM 60 0 ?_
     refine cT (kq 61 (.call { callee := .value (.func 15), args := #[(.tmp 60), (.const (.int .i64 5))], argTypes := #[30, 3] })) rfl rfl (ent Tryz.call15 rfl) (one_any (n := 5) hF (by decide) hd (by omega) (by omega)) ?_
     rintro vw13 w13 ⟨t2, rfl, s_9, hd⟩
     refine Sch.nil ?_
     refine run_c 61 rfl (fun h61 => ?_) (fun h61 => ?_)
     ·
      refine run_sq ?_
      refine run_draw (id := 18) (ops := F13.o18) [2] (Cw12) [yy 0, yy 1, yy 2, nn 3, yy 4, yy 5, yy 6, nn 7] Tryz_mixed (by kernel_rfl) (by kernel_rfl) (by kernel_rfl) ?_
      intro w14 s_10
      replace hd := hd.st s_10 (by first | decide | (simp <;> omega)) (by first | decide | (simp <;> omega))
      have hR := Stp.refl [2] w14 (Cw12)
      refine yF 62 89 14 3 5 ?_
      replace bx := (((bx.t s_7).t s_8).t s_9).t s_10
      refine yS (kq 63 (.load 3 (.tmp 62))) rfl rfl (fun w' hS => val_loadOwn (bx.sy hS) (by kernel_rfl) rfl rfl) ?_
      refine yM 64 0 ?_
      replace hF := (hF.st s_9).st s_10
      refine cS (kq 65 (.call { callee := .value (.func 26), args := #[(.tmp 64), (.const (.int .i64 2))], argTypes := #[30, 3] })) rfl rfl (ent Tryz.call26 rfl) (next_any (n := 2) hF (by decide) hd (by omega) (by omega)) ?_
      rintro vw15 w15 ⟨q3, rfl, hq3, s_11, hd⟩
      refine ⟨(hR.trans s_11 (by simp)).ext, ?_⟩
      refine yV (kq 66 (.binOp .add 3 (.const (.int .i64 1)) (.tmp 65) 3)) (fun _ => val_addi rfl rfl (by omega) (by omega)) ?_
      refine yV (kq 67 (.binOp .add 3 (.tmp 63) (.tmp 66) 3)) (fun _ => val_addi (m := 1 + (q2 : Int)) (n := 1 + (q3 : Int)) rfl rfl (by omega) (by omega)) ?_
      refine yF 68 89 14 3 5 ?_
      refine Sch.free rfl ?_
      replace bx := bx.t s_11
      refine aU (k0 (.store 3 (.tmp 68) (.tmp 67))) rfl (a_store1 rfl rfl (by kernel_rfl) rfl rfl bx (by simp)) ?_
      rintro _ w16 ⟨rfl, s_12, bx⟩
      replace hd := hd.st s_12 (by first | decide | (simp <;> omega)) (by first | decide | (simp <;> omega))
      replace bx : OwnB _ _ 4 _ (.cells (encD (⟨⟨r, p⟩, ⟨s, k⟩, 1 + q1, 1 + q2 + (1 + q3), sm⟩ : Dcs)).toArray 89) := bx
      refine Sch.nil (run_sq (run_pl [yy 0, nn 1, yy 2, nn 3] ?_))
      refine yM 69 0 ?_
      replace hF := (hF.st s_11).st s_12
      refine cT (kq 70 (.call { callee := .value (.func 15), args := #[(.tmp 69), (.const (.int .i64 2))], argTypes := #[30, 3] })) rfl rfl (ent Tryz.call15 rfl) (one_any (n := 2) hF (by decide) hd (by omega) (by omega)) ?_
      rintro vw17 w17 ⟨sm2, rfl, s_13, hd⟩
      refine yF 71 89 14 4 6 ?_
      replace bx := bx.t s_13
      refine aU (k0 (.store 4 (.tmp 71) (.tmp 70))) rfl (a_store1 rfl rfl (by kernel_rfl) rfl rfl bx (by simp)) ?_
      rintro _ w18 ⟨rfl, s_14, bx⟩
      replace hd := hd.st s_14 (by first | decide | (simp <;> omega)) (by first | decide | (simp <;> omega))
      replace bx : OwnB _ _ 4 _ (.cells (encD (⟨⟨r, p⟩, ⟨s, k⟩, 1 + q1, 1 + q2 + (1 + q3), sm2⟩ : Dcs)).toArray 89) := bx
      refine Sch.nil (run_pl [yy 0, nn 1, nn 2, nn 3, yy 4] ?_)
      refine yM 72 9 ?_
      refine nS (kq 73 (.load 89 (.tmp 14))) rfl rfl trivial (val_loadOwnAgg (n := 7) (vs := encD (⟨⟨r, p⟩, ⟨s, k⟩, 1 + q1, 1 + q2 + (1 + q3), sm2⟩ : Dcs)) bx.at_ (by kernel_rfl) (by kernel_rfl) rfl rfl rfl) ?_
      replace hF := (hF.st s_13).st s_14
      refine aT (kq 74 (.buildSlice 27 1 #[(0, (.tmp 73))])) rfl rfl (a_buildSlice (ys := ([(⟨⟨r, p⟩, ⟨s, k⟩, 1 + q1, 1 + q2 + (1 + q3), sm2⟩ : Dcs)] : List Dcs)) (e := 89) (bytes := 56) hF (by kernel_rfl) rfl (by decide) (by decide) ⟨rfl, ⟨_, rfl, rv_dcs.2 rfl⟩, trivial⟩) ?_
      rintro v74 w19 ⟨s_15, g74, hF⟩
      replace hd := hd.st s_15 (by first | decide | (simp <;> omega)) (by first | decide | (simp <;> omega))
      replace ho := ((((((ho.t s_9).t s_10).t s_11).t s_12).t s_13).t s_14).t s_15
      refine aT (kq 75 (.call { callee := .builtin .append, args := #[(.tmp 72), (.tmp 74)], argTypes := #[27, 27] })) rfl rfl (a_append (e := 89) (bytes := 56) hF (by decide) rfl rfl (by kernel_rfl) (by decide) ho g74 (by simp only [List.length_append, List.length_cons, List.length_nil]; omega) (by simp only [List.length_append, List.length_cons, List.length_nil]; omega)) ?_
      rintro v75 w20 ⟨Cw20, s_16, ho, hF⟩
      replace hd := hd.st s_16 (by first | decide | (simp <;> omega)) (by first | decide | (simp <;> omega))
      refine yA 9 75 ?_
      refine Sch.nil (run_inBlock (run_pl [yy 0, yy 1, yy 2] ?_))
      refine yM 35 13 ?_
      refine yI 36 3 35 1 ?_
      refine yA 13 36 ?_
      refine Sch.nil ?_
      replace hT := (((((((((((((((hT.t s_1).t s_2).t s_3).t s_4).t s_5).t s_6).t s_7).t s_8).t s_9).t s_10).t s_11).t s_12).t s_13).t s_14).t s_15).t s_16
      refine kp (sub_cons 0 rfl rfl (sub_cons 1 rfl rfl (sub_cons 2 rfl rfl (sub_cons 3 rfl rfl (sub_cons 9 rfl rfl (sub_cons 10 rfl rfl (sub_cons 11 rfl rfl (sub_cons 12 rfl rfl (sub_cons 13 rfl (eq_int (by simp)) (sub_nil _)))))))))) (next4 (k + 1, l ++ [(⟨⟨r, p⟩, ⟨s, k⟩, 1 + q1, 1 + q2, sm⟩ : Dcs)] ++ [(⟨⟨r, p⟩, ⟨s, k⟩, 1 + q1, 1 + q2 + (1 + q3), sm2⟩ : Dcs)], v75, Cw20) _ ⟨(by first | omega | (simp only; omega)), (by first | omega | (simp only; omega)), (hD.push2 (by unfold okDc; simp only; omega) (by unfold okDc; simp only; omega) ⟨rfl, rfl, rfl, rfl⟩ ⟨rfl, rfl, rfl, by simp only; omega⟩), hF, hT, hd, ho⟩ (by first | omega | (simp only; omega)))
     refine run_sk (run_inBlock (run_pl [yy 0, yy 1, yy 2] ?_))
     refine yM 35 13 ?_
     refine yI 36 3 35 1 ?_
     refine yA 13 36 ?_
     refine Sch.nil ?_
     replace hT := ((((((((hT.t s_1).t s_2).t s_3).t s_4).t s_5).t s_6).t s_7).t s_8).t s_9; replace hF := hF.st s_9; replace ho := ho.t s_9
     refine kp (sub_cons 0 rfl rfl (sub_cons 1 rfl rfl (sub_cons 2 rfl rfl (sub_cons 3 rfl rfl (sub_cons 9 rfl rfl (sub_cons 10 rfl rfl (sub_cons 11 rfl rfl (sub_cons 12 rfl rfl (sub_cons 13 rfl (eq_int (by simp)) (sub_nil _)))))))))) (next4 (k + 1, l ++ [(⟨⟨r, p⟩, ⟨s, k⟩, 1 + q1, 1 + q2, sm⟩ : Dcs)], v59, Cw12) _ ⟨(by first | omega | (simp only; omega)), (by first | omega | (simp only; omega)), (hD.push (by unfold okDc; simp only; omega) ⟨rfl, rfl, rfl, rfl⟩), hF, hT, hd, ho⟩ (by first | omega | (simp only; omega)))
    have hkI : k = I + 1 := by omega
    refine run_ex 6 ?_
    refine run_inBlock (run_pl [yy 0, yy 1, yy 2] ?_)
    refine yM 30 12 ?_
    refine yI 31 3 30 1 ?_
    refine yA 12 31 ?_
    refine Sch.nil ?_
    refine kp (sub_cons 0 rfl rfl (sub_cons 1 rfl rfl (sub_cons 2 rfl rfl (sub_cons 3 rfl rfl (sub_cons 9 rfl rfl (sub_cons 10 rfl rfl (sub_cons 11 rfl rfl (sub_cons 12 rfl (eq_int (by simp)) (sub_nil _))))))))) (next3 (s + 1, l, vo, C1) _ ⟨(by first | omega | (simp only; omega)), (by first | omega | (simp only; omega)), (hD.to (fun x h1 h2 => by unfold okDc at h1; unfold CurD at *; omega)), hF, hT, hd, ho⟩ (by first | omega | (simp only; omega)))
   have hsR2 : s = R := by omega
   refine run_ex 4 ?_
   refine run_inBlock (run_pl [yy 0, yy 1, yy 2] ?_)
   refine yM 23 11 ?_
   refine yI 24 3 23 1 ?_
   refine yA 11 24 ?_
   refine Sch.nil ?_
   refine kp (sub_cons 0 rfl rfl (sub_cons 1 rfl rfl (sub_cons 2 rfl rfl (sub_cons 3 rfl rfl (sub_cons 9 rfl rfl (sub_cons 10 rfl rfl (sub_cons 11 rfl (eq_int (by simp)) (sub_nil _)))))))) (next2 (p + 1, l, vo, C1) _ ⟨(by first | omega | (simp only; omega)), (by first | omega | (simp only; omega)), (hD.to (fun x h1 h2 => by unfold okDc at h1; unfold CurD at *; omega)), hF, hT, hd, ho⟩ (by first | omega | (simp only; omega)))
  have hpI : p = I + 1 := by omega
  refine run_ex 2 ?_
  refine run_inBlock (run_pl [yy 0, yy 1, yy 2] ?_)
  refine yM 18 10 ?_
  refine yI 19 3 18 1 ?_
  refine yA 10 19 ?_
  refine Sch.nil ?_
  refine kp (sub_cons 0 rfl rfl (sub_cons 1 rfl rfl (sub_cons 2 rfl rfl (sub_cons 3 rfl rfl (sub_cons 9 rfl rfl (sub_cons 10 rfl (eq_int (by simp)) (sub_nil _))))))) (next1 (r + 1, l, vo, C1) _ ⟨(by first | omega | (simp only; omega)), (hD.to (fun x h1 h2 => by unfold okDc at h1; unfold CurD at *; omega)), hF, hT, hd, ho⟩ (by first | omega | (simp only; omega)))
 refine run_ex 0 ?_
 refine run_sq (run_pl [yy 0, yy 1] ?_)
 refine yM 76 9 ?_
 refine yA 8 76 ?_
 refine Sch.nil ?_
 refine rt1 Tryz.func13 Tryz.results13 ?_
 have hln := hD.len hR hI
 exact ⟨l, hD.fin hR hI, hT.out2 (by decide), ho.out hT hF0 (Mc_col2 C i) (fun b _ => col2_lt C i (by decide) b) (by omega), hd.out hT hF0 hbc⟩
end Go.Proofs.YtmdhggfehknjjaaGreat
