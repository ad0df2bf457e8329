/- Steps through functions of the program. -/
import Derived.Test.YtdmgmlmlielfbaaGreatJG6
import Derived.Test.YtdmgmlmlielfbaaGreatL3
set_option linter.unusedVariables false
set_option linter.unusedSimpArgs false
set_option maxRecDepth 100000
set_option maxHeartbeats 4000000
namespace Go.Proofs.YtdmgmlmlielfbaaGreat
open Go.K Go.K.Rep

/-- 'Exact' of one component that is too great. -/
theorem solveZ_ok {w₀ : World} {C : Nat → Nat} {l : List Bond} {ds : List Dcs} {vl vz : Value} (hF : Lim w₀ C) (hl : RV w₀ (Mc C) l vl) (hz : RV w₀ (Mc C) ds vz) (hv : Vld l) (hc : ∀ a ∈ refsS l, ∀ b ∈ refsS l, rhoS l a = rhoS l b) (h8 : 8 < (refsS l).length) (h25 : (refsS l).length ≤ 25) (hm4 : ds.length ≤ 4096) (hO : ∀ i (h : i < ds.length), dcsOK ds[i]) (hA1 : ∀ i (h : i + 1 < ds.length), cmpD ds[i] ds[i + 1] < 0) : Calls Tryz.prog 23 #[vl, vz] w₀ (Ret fun v w' => Stp [] w₀ C w' C ∧ v = .tuple #[.slice none 0 0, .int .i64 0, .int .i64 1]) :=
  (solveX_ok hF hl hz hv h25 hm4 hO hA1).mono (Ret.mono fun v w' h => ⟨h.1, by
    rcases h.2 with ⟨k, hk, h2, h3⟩ | ⟨h1, _⟩
    · exact h3
    · obtain ⟨r, hr⟩ : ∃ r, r ∈ refsS l := ⟨(refsS l)[0]'(by omega), List.getElem_mem _⟩
      obtain ⟨i, hi, _⟩ := split_has hr
      have := one_part hc hi; have := h1 i hi
      omega⟩)
namespace F8
noncomputable def c0 := bodyOf Tryz.f8
noncomputable def c7 := (cl (cl (cr (cl (cr c0)))))
noncomputable def c15 := (cl (cr (cr (cr (cr c0)))))
noncomputable def c21 := (cl (cl (cl (cl (cr c15)))))
noncomputable def c22 := (cr (cl (cl (cl (cr c15)))))
noncomputable def c26 := (cl (cr (cl (cl (cr c15)))))
noncomputable def c28 := (cr (cr (cl (cl (cr c15)))))
noncomputable def c29 := (cr (cr (cr (cr (cr c0)))))
end F8
/-- A component of more records than the limit is solved greedily, and the exact way refuses it. -/
theorem clusterLarge_ok {w₀ : World} {C : Nat → Nat} {l : List Int} {vl : Value} (hF : Lim w₀ C) (hl : RV w₀ (Mc C) l vl) : Calls Tryz.prog 8 #[vl] w₀ (Ret fun v w' => v = .bool true ∧ Stp [] w₀ C w' C) := by
 have hF0 := hF
 have hT := Stp.refl [2, 3, 4, 5, 6, 7, 8, 9] w₀ (col1 C)
 replace hF := hF.col1
 replace hl : RV w₀ (Mc (col1 C)) l vl := by rw [Mc_col1]; exact hl
 refine calls_start (c := F8.c0) (N := 96) [vl] Tryz.func8 (by kernel_rfl) (by kernel_rfl) (by kernel_rfl) ?_
 show Run _ _ _ _ [(0, vl)] _ _
 refine run_sq ?_
 refine run_pl [yy 0] ?_
 refine yAc 2 (.bool false) ?_
 refine Sch.nil ?_
 refine run_sq ?_
 refine run_sq ?_
 refine run_pl [nn 0, yy 1, yy 2, yy 3, nn 4, yy 5, yy 6] ?_
 refine cS (kq 15 (.call { callee := .value (.func 11), args := #[], argTypes := #[] })) rfl rfl (ent Tryz.call11 rfl) (awake_ok hF) ?_
 rintro vw1 w1 ⟨rfl, hs⟩
 refine ⟨trivial, ?_⟩
 replace hF := hF.st hs
 replace hT := hT.t hs; replace hl := hl.t hs
 refine yV (kq 16 (.unOp .not 4 (.tmp 15))) (fun _ => val_not rfl) ?_
 refine yM 17 16 ?_
 refine yMg 18 0 2 false ?_
 refine cS (kg 19 (.call { callee := .value (.func 12), args := #[(.tmp 18)], argTypes := #[22] }) 2 false) rfl rfl (ent Tryz.call12 rfl) (few_any hl) ?_
 rintro vw2 w2 ⟨rfl, rfl⟩
 refine ⟨trivial, ?_⟩
 refine yV (kg 20 (.unOp .not 4 (.tmp 19)) 2 false) (fun _ => val_notd rfl) ?_
 refine yOf 21 17 20 ?_
 refine Sch.nil ?_
 refine run_i 21 rfl (fun h21 => ?_) (fun h21 => ?_)
 ·
  refine run_sq ?_
  refine run_pl [nn 0, yy 1] ?_
  refine cS (kq 22 (.call { callee := .value (.func 11), args := #[], argTypes := #[] })) rfl rfl (ent Tryz.call11 rfl) (awake_ok hF) ?_
  rintro vw3 w3 ⟨rfl, hs⟩
  refine ⟨trivial, ?_⟩
  replace hF := hF.st hs
  replace hT := hT.t hs; replace hl := hl.t hs
  refine yA 2 22 ?_
  refine Sch.nil ?_
  refine run_ret1 (by kernel_rfl) Tryz.func8 Tryz.results8 rfl ?_
  exact ⟨rfl, hT.out1 (by decide)⟩
 ·
  refine run_sk ?_
  refine run_sq ?_
  refine run_pl [yy 0, nn 1, yy 2] ?_
  refine yM 23 0 ?_
  refine cS (kq 24 (.call { callee := .value (.func 13), args := #[(.tmp 23)], argTypes := #[22] })) rfl rfl (ent Tryz.call13 rfl) (new_any hF hl) ?_
  rintro vw4 w4 ⟨Cd, bd, rfl, hs, hF, hd⟩
  refine ⟨trivial, ?_⟩
  replace hT := hT.t hs; replace hl := hl.t hs
  refine yA 3 24 ?_
  refine Sch.nil ?_
  refine run_sq ?_
  refine run_pl [yy 0] ?_
  refine yV (kq 4 (.assign (.const (.slice none 0 0)))) (fun _ => val_assign rfl) ?_
  refine Sch.nil ?_
  refine run_sq ?_
  refine run_sq ?_
  refine run_pl [yy 0] ?_
  refine yAc 5 (.int .i64 1) ?_
  refine Sch.nil ?_
  refine run_bk 0 ?_
  
  refine run_lp (ι := Nat × (List Bond) × Value × (Nat → Nat)) (I := fun x w => 1 ≤ x.1 ∧ x.1 ≤ 8 ∧ Lg x.1 x.2.1 ∧ Lim w x.2.2.2 ∧ Stp [2, 3, 4, 5, 6, 7, 8, 9] w₀ (col1 C) w x.2.2.2 ∧ DeckIs w x.2.2.2 3 bd ∧ OwnL w x.2.2.2 4 49 x.2.2.1 x.2.1) (e := fun x => [(3, .pointer (some ⟨bd, 0, none⟩)), (4, x.2.2.1), (5, .int .i64 x.1)]) (m := fun x => 9 - x.1) (x₀ := (1, [], .slice none 0 0, Cd)) (sr 3 (sr 4 (sr 5 (sub_nil _)))) ?_ ?_
  · exact ⟨Nat.le_refl _, by omega, Lg.start, hF, hT, hd, OwnL.nil⟩
  intro ⟨p, l, vo, C1⟩ w5 hI next
  obtain ⟨hp1, hp8, hL, hF, hT, hd, ho⟩ := hI
  try simp only at hp1 hp8 hL hF hT hd ho
  have next1 := next
  clear next
  show Run _ _ _ _ [(3, .pointer (some ⟨bd, 0, none⟩)), (4, vo), (5, .int .i64 p)] _ _
  have hll := hL.len
  refine run_sq ?_
  refine run_sq ?_
  refine run_pl [yy 0, yy 1, nn 2, yy 3, yy 4] ?_
  refine yM 25 5 ?_
  refine yM 26 3 ?_
  refine cS (kq 27 (.call { callee := .value (.func 15), args := #[(.tmp 26), (.const (.int .i64 3))], argTypes := #[28, 3] })) rfl rfl (ent Tryz.call15 rfl) (next_any (n := 3) hF (by decide) hd (by omega) (by omega)) ?_
  rintro vw6 w6 ⟨q, rfl, hq, hs, hd⟩
  refine ⟨trivial, ?_⟩
  replace hF := hF.st hs
  replace hT := hT.t hs; replace ho := ho.t hs
  refine yV (kq 28 (.binOp .add 3 (.const (.int .i64 5)) (.tmp 27) 3)) (fun _ => val_addi rfl rfl (by omega) (by omega)) ?_
  refine yV (kq 29 (.binOp .leq 3 (.tmp 25) (.tmp 28) 3)) (fun _ => val_leq rfl rfl) ?_
  refine Sch.nil ?_
  refine run_i 29 rfl (fun h29 => ?_) (fun h29 => ?_)
  ·
   have hp5 : p ≤ 7 := by omega
   refine run_sk ?_
   refine run_sq ?_
   refine run_bk 1 ?_
   refine run_pl [yy 0, yy 1, yy 2, yy 3, yy 4, yy 5, nn 6, yy 7, yy 8, yy 9, yy 10, yy 11, yy 12, yy 13, yy 14, nn 15, yy 16, yy 17, nn 18, nn 19, yy 20] ?_
   refine yM 32 4 ?_
   refine yM 33 5 ?_
   refine yV (kq 34 (.build 47 #[(1, (.tmp 33))])) (fun _ => val_build (zs := [.int .i64 0, .int .i64 0]) (ps := [(0, 1), (1, 1)]) (qs := [(1, [.int .i64 (p : Int)])]) (cs := [.int .i64 0, .int .i64 (p : Int)]) (by kernel_rfl) (by kernel_rfl) ⟨rfl, ⟨_, rfl, rfl⟩, trivial⟩ rfl) ?_
   refine yM 35 5 ?_
   refine yV (kq 36 (.build 47 #[(0, (.const (.int .i64 1))), (1, (.tmp 35))])) (fun _ => val_build (zs := [.int .i64 0, .int .i64 0]) (ps := [(0, 1), (1, 1)]) (qs := [(0, [.int .i64 1]), (1, [.int .i64 (p : Int)])]) (cs := [.int .i64 1, .int .i64 (p : Int)]) (by kernel_rfl) (by kernel_rfl) ⟨rfl, ⟨_, rfl, rfl⟩, rfl, ⟨_, rfl, rfl⟩, trivial⟩ rfl) ?_
   refine yM 37 3 ?_
   refine cS (kq 38 (.call { callee := .value (.func 15), args := #[(.tmp 37), (.const (.int .i64 9))], argTypes := #[28, 3] })) rfl rfl (ent Tryz.call15 rfl) (next_any (n := 9) hF (by decide) hd (by omega) (by omega)) ?_
   rintro vw7 w7 ⟨q1, rfl, hq1, hs, hd⟩
   refine ⟨trivial, ?_⟩
   replace hF := hF.st hs
   replace hT := hT.t hs; replace ho := ho.t hs
   refine yV (kq 39 (.binOp .add 3 (.const (.int .i64 1)) (.tmp 38) 3)) (fun _ => val_addi rfl rfl (by omega) (by omega)) ?_
   refine yV (kq 40 (.build 49 #[(0, (.tmp 34)), (1, (.tmp 36)), (2, (.tmp 39))])) (fun _ => val_build (zs := [.int .i64 0, .int .i64 0, .int .i64 0, .int .i64 0, .int .i64 0]) (ps := [(0, 2), (2, 2), (4, 1)]) (qs := [(0, [.int .i64 0, .int .i64 (p : Int)]), (1, [.int .i64 1, .int .i64 (p : Int)]), (2, [.int .i64 (1 + (q1 : Int))])]) (cs := encB (⟨⟨0, p⟩, ⟨1, p⟩, 1 + q1⟩ : Bond)) (by kernel_rfl) (by kernel_rfl) ⟨rfl, ⟨_, rfl, rfl⟩, rfl, ⟨_, rfl, rfl⟩, rfl, ⟨_, rfl, rfl⟩, trivial⟩ rfl) ?_
   refine yM 41 5 ?_
   refine yV (kq 42 (.build 47 #[(1, (.tmp 41))])) (fun _ => val_build (zs := [.int .i64 0, .int .i64 0]) (ps := [(0, 1), (1, 1)]) (qs := [(1, [.int .i64 (p : Int)])]) (cs := [.int .i64 0, .int .i64 (p : Int)]) (by kernel_rfl) (by kernel_rfl) ⟨rfl, ⟨_, rfl, rfl⟩, trivial⟩ rfl) ?_
   refine yM 43 5 ?_
   refine yV (kq 44 (.binOp .add 3 (.tmp 43) (.const (.int .i64 1)) 3)) (fun _ => val_addi rfl rfl (by omega) (by omega)) ?_
   refine yV (kq 45 (.build 47 #[(0, (.const (.int .i64 1))), (1, (.tmp 44))])) (fun _ => val_build (zs := [.int .i64 0, .int .i64 0]) (ps := [(0, 1), (1, 1)]) (qs := [(0, [.int .i64 1]), (1, [.int .i64 ((p : Int) + 1)])]) (cs := [.int .i64 1, .int .i64 ((p : Int) + 1)]) (by kernel_rfl) (by kernel_rfl) ⟨rfl, ⟨_, rfl, rfl⟩, rfl, ⟨_, rfl, rfl⟩, trivial⟩ rfl) ?_
   refine yM 46 3 ?_
   refine cS (kq 47 (.call { callee := .value (.func 15), args := #[(.tmp 46), (.const (.int .i64 9))], argTypes := #[28, 3] })) rfl rfl (ent Tryz.call15 rfl) (next_any (n := 9) hF (by decide) hd (by omega) (by omega)) ?_
   rintro vw8 w8 ⟨q2, rfl, hq2, hs, hd⟩
   refine ⟨trivial, ?_⟩
   replace hF := hF.st hs
   replace hT := hT.t hs; replace ho := ho.t hs
   refine yV (kq 48 (.binOp .add 3 (.const (.int .i64 1)) (.tmp 47) 3)) (fun _ => val_addi rfl rfl (by omega) (by omega)) ?_
   refine yV (kq 49 (.build 49 #[(0, (.tmp 42)), (1, (.tmp 45)), (2, (.tmp 48))])) (fun _ => val_build (zs := [.int .i64 0, .int .i64 0, .int .i64 0, .int .i64 0, .int .i64 0]) (ps := [(0, 2), (2, 2), (4, 1)]) (qs := [(0, [.int .i64 0, .int .i64 (p : Int)]), (1, [.int .i64 1, .int .i64 ((p : Int) + 1)]), (2, [.int .i64 (1 + (q2 : Int))])]) (cs := encB (⟨⟨0, p⟩, ⟨1, p + 1⟩, 1 + q2⟩ : Bond)) (by kernel_rfl) (by kernel_rfl) ⟨rfl, ⟨_, rfl, rfl⟩, rfl, ⟨_, rfl, rfl⟩, rfl, ⟨_, rfl, rfl⟩, trivial⟩ rfl) ?_
   refine aS (kq 50 (.buildSlice 23 2 #[(0, (.tmp 40)), (1, (.tmp 49))])) rfl rfl (a_buildSlice (ys := ([(⟨⟨0, p⟩, ⟨1, p⟩, 1 + q1⟩ : Bond), (⟨⟨0, p⟩, ⟨1, p + 1⟩, 1 + q2⟩ : Bond)] : List Bond)) (e := 49) (bytes := 40) hF (by kernel_rfl) rfl (by decide) (by decide) ⟨rfl, ⟨_, rfl, rv_bond.2 rfl⟩, rfl, ⟨_, rfl, rv_bond.2 rfl⟩, trivial⟩) ?_
   rintro v50 w9 ⟨hs, g50, hF⟩
   refine ⟨trivial, ?_⟩
   replace hT := hT.t hs
   replace hd := hd.st hs (by first | decide | (simp <;> omega)) (by first | decide | (simp <;> omega))
   replace ho := ho.t hs
   refine aS (kq 51 (.call { callee := .builtin .append, args := #[(.tmp 32), (.tmp 50)], argTypes := #[23, 23] })) rfl rfl (a_append (e := 49) (bytes := 40) hF (by decide) rfl rfl (by kernel_rfl) (by decide) ho g50 (by simp only [List.length_cons, List.length_nil]; omega) (by simp only [List.length_cons, List.length_nil]; omega)) ?_
   rintro v51 w10 ⟨Cw10, hs, ho, hF⟩
   refine ⟨trivial, ?_⟩
   replace hT := hT.t hs
   replace hd := hd.st hs (by first | decide | (simp <;> omega)) (by first | decide | (simp <;> omega))
   replace g50 := g50.t hs
   refine yA 4 51 ?_
   refine Sch.nil ?_
   refine run_inBlock ?_
   refine run_pl [yy 0, yy 1, yy 2] ?_
   refine yM 30 5 ?_
   refine yV (kq 31 (.binOp .add 3 (.tmp 30) (.const (.int .i64 1)) 3)) (fun _ => val_addi rfl rfl (by omega) (by omega)) ?_
   refine yA 5 31 ?_
   refine Sch.nil ?_
   refine kp (sub_cons 3 rfl rfl (sub_cons 4 rfl rfl (sub_cons 5 rfl (eq_int (by simp)) (sub_nil _)))) (next1 (p + 1, l ++ [(⟨⟨0, p⟩, ⟨1, p⟩, 1 + q1⟩ : Bond), (⟨⟨0, p⟩, ⟨1, p + 1⟩, 1 + q2⟩ : Bond)], v51, Cw10) _ ⟨(by first | omega | (simp only; omega)), (by first | omega | (simp only; omega)), (hL.push hp1 hq1 hq2), hF, hT, hd, ho⟩ (by first | omega | (simp only; omega)))
  ·
   have hp6 : 6 ≤ p := by omega
   have hv := hL.vld hp8
   have hc := hL.conn
   have h8 := hL.many hp6
   have h16 := hL.few hp8
   replace hF := hF.frz 4
   replace hT := hT.frz (n := 4) (fun b => Nat.lt_of_lt_of_le (col1_lt2 C b) (by decide))
   clear hd
   have hb_ := ho.frz (n := 4) (by decide) (by omega)
   clear ho
   have hb := hb_
   clear hb_
   refine run_ex 0 ?_
   refine run_sq ?_
   refine run_pl [yy 0, nn 1, yy 2, yy 3, yy 4, yy 5, yy 6, yy 7, yy 8] ?_
   refine yM 53 4 ?_
   refine cS (kq 54 (.call { callee := .value (.func 23), args := #[(.tmp 53), (.const (.slice none 0 0))], argTypes := #[23, 24] })) rfl rfl (ent Tryz.call23 rfl) (solveZ_ok (ds := []) hF hb rv_nil hv hc h8 (by omega) (by decide) (fun i h => by cases h) (fun i h => by cases h)) ?_
   rintro vw11 w11 ⟨hs, rfl⟩
   refine ⟨trivial, ?_⟩
   replace hF := hF.st hs
   replace hT := hT.t hs; replace hb := hb.t hs
   refine yM 52 54 ?_
   refine yV (kq 55 (.extract (.tmp 52) 0)) (fun _ => val_extract rfl rfl) ?_
   refine yV (kq 56 (.extract (.tmp 52) 1)) (fun _ => val_extract rfl rfl) ?_
   refine yV (kq 57 (.extract (.tmp 52) 2)) (fun _ => val_extract rfl rfl) ?_
   refine yA 6 55 ?_
   refine yA 7 56 ?_
   refine yA 8 57 ?_
   refine Sch.nil ?_
   refine run_sq ?_
   refine run_pl [yy 0, nn 1, yy 2, yy 3, yy 4, yy 5, yy 6, yy 7, yy 8] ?_
   refine yM 59 4 ?_
   refine cS (kq 60 (.call { callee := .value (.func 21), args := #[(.tmp 59), (.const (.slice none 0 0))], argTypes := #[23, 24] })) rfl rfl (ent Tryz.call21 rfl) (solveS_ok (ds := []) hF hb rv_nil hv (by omega) (by decide) (fun i h => by cases h) (fun i h => by cases h)) ?_
   rintro _ w12 ⟨hs, zs1, vp1, hSt1, rfl, hp1⟩
   refine ⟨trivial, ?_⟩
   replace hF := hF.st hs
   replace hT := hT.t hs; replace hb := hb.t hs
   refine yM 58 60 ?_
   refine yV (kq 61 (.extract (.tmp 58) 0)) (fun _ => val_extract rfl rfl) ?_
   refine yV (kq 62 (.extract (.tmp 58) 1)) (fun _ => val_extract rfl rfl) ?_
   refine yV (kq 63 (.extract (.tmp 58) 2)) (fun _ => val_extract rfl rfl) ?_
   refine yA 9 61 ?_
   refine yA 10 62 ?_
   refine yA 11 63 ?_
   refine Sch.nil ?_
   refine run_sq ?_
   refine run_pl [yy 0, nn 1, yy 2, yy 3, yy 4, yy 5, yy 6, yy 7, yy 8] ?_
   refine yM 65 4 ?_
   refine cS (kq 66 (.call { callee := .value (.func 18), args := #[(.tmp 65), (.const (.slice none 0 0))], argTypes := #[23, 24] })) rfl rfl (ent Tryz.call18 rfl) (solveG_ok (ds := []) hF hb rv_nil hv (by omega) (by decide) (fun i h => by cases h) (fun i h => by cases h)) ?_
   rintro _ w13 ⟨hs, zs2, vp2, hSt2, rfl, hp2⟩
   rw [← allW_big hc h8] at hSt2
   have hz2 : zs1 = zs2 := hSt1.uniq cmpH_3 (fun _ _ => trivial) hSt2
   subst hz2
   refine ⟨trivial, ?_⟩
   replace hF := hF.st hs
   replace hT := hT.t hs; replace hb := hb.t hs; replace hp1 := hp1.t hs
   refine yM 64 66 ?_
   refine yV (kq 67 (.extract (.tmp 64) 0)) (fun _ => val_extract rfl rfl) ?_
   refine yV (kq 68 (.extract (.tmp 64) 1)) (fun _ => val_extract rfl rfl) ?_
   refine yV (kq 69 (.extract (.tmp 64) 2)) (fun _ => val_extract rfl rfl) ?_
   refine yA 12 67 ?_
   refine yA 13 68 ?_
   refine yA 14 69 ?_
   refine Sch.nil ?_
   refine run_sq ?_
   refine run_pl [yy 0, yy 1, yy 2, yy 3, yy 4, yy 5, yy 6, yy 7, yy 8, yy 9, yy 10, yy 11, yy 12, yy 13, yy 14, yy 15, yy 16, yy 17, nn 18, yy 19, yy 20, yy 21, yy 22, nn 23, yy 24, yy 25, yy 26] ?_
   refine yM 70 8 ?_
   refine yV (kq 71 (.binOp .eql 36 (.tmp 70) (.const (.int .i64 1)) 36)) (fun _ => val_T (val_eql rfl rfl) rfl) ?_
   refine yM 72 71 ?_
   refine yMg 73 11 2 true ?_
   refine yV (kg 74 (.binOp .eql 36 (.tmp 73) (.const (.int .i64 0)) 36) 2 true) (fun _ => val_T (val_eql rfl rfl) rfl) ?_
   refine yAt 75 72 74 ?_
   refine yM 76 75 ?_
   refine yMg 77 14 6 true ?_
   refine yV (kg 78 (.binOp .eql 36 (.tmp 77) (.const (.int .i64 0)) 36) 6 true) (fun _ => val_T (val_eql rfl rfl) rfl) ?_
   refine yAt 79 76 78 ?_
   refine yM 80 79 ?_
   refine yMg 81 10 10 true ?_
   refine yMg 82 13 10 true ?_
   refine yV (kg 83 (.binOp .eql 3 (.tmp 81) (.tmp 82) 3) 10 true) (fun _ => val_T (val_eql rfl rfl) rfl) ?_
   refine yAt 84 80 83 ?_
   refine yM 85 84 ?_
   refine yMg 86 9 15 true ?_
   refine yMg 87 12 15 true ?_
   refine cS (kg 88 (.call { callee := .value (.func 20), args := #[(.tmp 86), (.tmp 87)], argTypes := #[25, 25] }) 15 true) rfl rfl (ent Tryz.call20 rfl) (sameParts_ok hF hp1 hp2) ?_
   rintro vw14 w14 ⟨rfl, hs⟩
   refine ⟨trivial, ?_⟩
   replace hF := hF.st hs
   replace hT := hT.t hs; replace hb := hb.t hs; replace hp1 := hp1.t hs; replace hp2 := hp2.t hs
   refine yAt 89 85 88 ?_
   refine yM 90 89 ?_
   refine yMg 91 4 20 true ?_
   refine yMg 92 9 20 true ?_
   refine cS (kg 93 (.call { callee := .value (.func 26), args := #[(.tmp 91), (.const (.slice none 0 0)), (.tmp 92)], argTypes := #[23, 24, 25] }) 20 true) rfl rfl (ent Tryz.call26 rfl) (valid_ok (ds := []) hF hb rv_nil hp1 hv.check hv.1 (by decide) (fun i h => by cases h) (fun i h => by cases h) (sol_PV (fun i hi => wayS_PV [] _) hSt1).1) ?_
   rintro vw15 w15 ⟨rfl, hs⟩
   refine ⟨trivial, ?_⟩
   replace hF := hF.st hs
   replace hT := hT.t hs; replace hb := hb.t hs; replace hp1 := hp1.t hs; replace hp2 := hp2.t hs
   refine yV (kg 94 (.binOp .eql 36 (.tmp 93) (.const (.int .i64 0)) 36) 20 true) (fun _ => val_T (val_eql rfl rfl) rfl) ?_
   refine yAt 95 90 94 ?_
   refine yA 2 95 ?_
   refine Sch.nil ?_
   refine run_ret1 (by kernel_rfl) Tryz.func8 Tryz.results8 rfl ?_
   exact ⟨rfl, hT.out1 (by decide)⟩
namespace F8B
noncomputable def c0 := bodyOf Tryz.f8
noncomputable def c7 := (cl (cl (cr (cl (cr c0)))))
noncomputable def c15 := (cl (cr (cr (cr (cr c0)))))
noncomputable def c21 := (cl (cl (cl (cl (cr c15)))))
noncomputable def c22 := (cr (cl (cl (cl (cr c15)))))
noncomputable def c26 := (cl (cr (cl (cl (cr c15)))))
noncomputable def c28 := (cr (cr (cl (cl (cr c15)))))
noncomputable def c29 := (cr (cr (cr (cr (cr c0)))))
end F8B
/-- .. where more is handed than it looks at. -/
theorem clusterLarge_big {w₀ : World} {C : Nat → Nat} {p : Option Addr} {n c : Nat} (hF : Lim w₀ C) (hn : 400 < n) : Calls Tryz.prog 8 #[.slice p n c] w₀ (Ret fun v w' => v = .bool true ∧ Stp [] w₀ C w' C) := by
 have hF0 := hF
 have hT := Stp.refl [2, 3, 4, 5, 6, 7, 8, 9] w₀ (col1 C)
 replace hF := hF.col1
 refine calls_start (c := F8B.c0) (N := 96) [.slice p n c] Tryz.func8 (by kernel_rfl) (by kernel_rfl) (by kernel_rfl) ?_
 show Run _ _ _ _ [(0, .slice p n c)] _ _
 refine run_sq ?_
 refine run_pl [yy 0] ?_
 refine yAc 2 (.bool false) ?_
 refine Sch.nil ?_
 refine run_sq ?_
 refine run_sq ?_
 refine run_pl [nn 0, yy 1, yy 2, yy 3, nn 4, yy 5, yy 6] ?_
 refine cS (kq 15 (.call { callee := .value (.func 11), args := #[], argTypes := #[] })) rfl rfl (ent Tryz.call11 rfl) (awake_ok hF) ?_
 rintro vw1 w1 ⟨rfl, hs⟩
 refine ⟨trivial, ?_⟩
 replace hF := hF.st hs
 replace hT := hT.t hs
 refine yV (kq 16 (.unOp .not 4 (.tmp 15))) (fun _ => val_not rfl) ?_
 refine yM 17 16 ?_
 refine yMg 18 0 2 false ?_
 refine cS (kg 19 (.call { callee := .value (.func 12), args := #[(.tmp 18)], argTypes := #[22] }) 2 false) rfl rfl (ent Tryz.call12 rfl) (few_ok _ _ _ _) ?_
 rintro vw2 w2 ⟨rfl, rfl⟩
 refine ⟨trivial, ?_⟩
 rw [decide_eq_false (show ¬ (n : Int) ≤ 400 by omega)]
 refine yV (kg 20 (.unOp .not 4 (.tmp 19)) 2 false) (fun _ => val_not rfl) ?_
 refine yOf 21 17 20 ?_
 refine Sch.nil ?_
 refine run_cT 21 ?_
 refine run_sq ?_
 refine run_pl [nn 0, yy 1] ?_
 refine cS (kq 22 (.call { callee := .value (.func 11), args := #[], argTypes := #[] })) rfl rfl (ent Tryz.call11 rfl) (awake_ok hF) ?_
 rintro vw3 w3 ⟨rfl, hs⟩
 refine ⟨trivial, ?_⟩
 replace hF := hF.st hs
 replace hT := hT.t hs
 refine yA 2 22 ?_
 refine Sch.nil ?_
 refine run_ret1 (by kernel_rfl) Tryz.func8 Tryz.results8 rfl ?_
 exact ⟨rfl, hT.out1 (by decide)⟩
end Go.Proofs.YtdmgmlmlielfbaaGreat
