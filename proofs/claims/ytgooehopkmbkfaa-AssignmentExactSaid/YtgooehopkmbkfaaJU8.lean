/- Steps through functions of the program. -/
import Derived.Test.YtgooehopkmbkfaaJU7
set_option linter.unusedVariables false
set_option linter.unusedSimpArgs false
set_option maxRecDepth 100000
set_option maxHeartbeats 4000000
namespace Go.Proofs.Ytgooehopkmbkfaa
open Go.K Go.K.Rep

namespace F39
noncomputable def c0 := bodyOf Try.f39
noncomputable def c7 := (cl (cl (cr (cl (cr c0)))))
noncomputable def c14 := (cl (cl (cr (cr (cr c0)))))
noncomputable def c15 := (cr (cl (cr (cr (cr c0)))))
noncomputable def c24 := (cl (cr (cr (cl (cl c15)))))
noncomputable def c31 := (cl (cr (cl (cr (cl c24)))))
noncomputable def c36 := (cr (cr (cr (cl (cl c15)))))
noncomputable def c38 := (cl (cr (cr (cr (cr c0)))))
noncomputable def c45 := (cl (cr (cl (cl (cr c38)))))
noncomputable def c48 := (cr (cr (cl (cl (cr c38)))))
noncomputable def o14 := rops (cl (cr (cl (cl c48))))
noncomputable def c55 := (cl (cr (cr (cl (cl c48)))))
noncomputable def c60 := (cr (cr (cr (cr (cr c0)))))
end F39
/-- 'priced'. -/
theorem priced_ok {w₀ : World} {C : Nat → Nat} {n m : Int} {l : List K.Edge} {ul vl : List Int} {pl pu pv : Value} (hF : Lim w₀ C) (hV : VE n m l) (hl : RV w₀ (Mc C) l pl) (hu : RV w₀ (Mc C) ul pu) (hv : RV w₀ (Mc C) vl pv) :
    Calls Try.prog 39 #[.int .i64 n, .int .i64 m, pl, pu, pv] w₀ (Ret fun v w' => ∃ (t : Int) (b : Bool), v = .tuple #[.int .i64 t, .bool b] ∧ Stp [] w₀ C w' C ∧ (b = true ↔ PrO n m l ul vl) ∧ (b = true → t = sumN (ul ++ vl).length (gI (ul ++ vl)))) := by
 have hF0 := hF
 have hT := Stp.refl [2, 3, 4, 5, 6, 7, 8, 9] w₀ (col1 C)
 replace hF := hF.col1
 replace hl : RV w₀ (Mc (col1 C)) l pl := by rw [Mc_col1]; exact hl
 replace hu : RV w₀ (Mc (col1 C)) ul pu := by rw [Mc_col1]; exact hu
 replace hv : RV w₀ (Mc (col1 C)) vl pv := by rw [Mc_col1]; exact hv
 refine calls_start (c := F39.c0) (N := 68) [.int .i64 n, .int .i64 m, pl, pu, pv] Try.func39 (by kernel_rfl) (by kernel_rfl) (by kernel_rfl) ?_
 show Run _ _ _ _ [(0, .int .i64 n), (1, .int .i64 m), (2, pl), (3, pu), (4, pv)] _ _
 refine run_sq ?_
 refine run_pl [yy 0, yy 1] ?_
 refine yAc 10 (.int .i64 0) ?_
 refine yAc 11 (.bool false) ?_
 refine Sch.nil ?_
 refine run_sq ?_
 refine run_sq ?_
 refine run_cut 26 (decide (¬ ((ul.length : Int) = n ∧ (vl.length : Int) = m))) (col1 C) ?_ ?_
 ·
  intro hcut
  by_cases hA : (ul.length : Int) = n
  ·
   refine run_pl [yy 0, yy 1, yy 2, yy 3, yy 4, yy 5, yy 6, yy 7, yy 8, yy 9] ?_
   refine yM 17 3 ?_
   refine yS (kq 18 (.call { callee := .builtin .len, args := #[(.tmp 17)], argTypes := #[22] })) rfl rfl (fun w' hS => hu.lenV rfl Try.underlying22 w' ) ?_
   refine yM 19 0 ?_
   refine yV (kq 20 (.binOp .neq 3 (.tmp 18) (.tmp 19) 3)) (fun _ => val_F (val_neq rfl rfl) (fun e => e hA)) ?_
   refine yM 21 20 ?_
   refine yMg 22 4 4 false ?_
   refine yS (kg 23 (.call { callee := .builtin .len, args := #[(.tmp 22)], argTypes := #[22] }) 4 false) rfl rfl (fun w' hS => hv.lenV rfl Try.underlying22 w' ) ?_
   refine yMg 24 1 4 false ?_
   refine yV (kg 25 (.binOp .neq 3 (.tmp 23) (.tmp 24) 3) 4 false) (fun _ => val_neq rfl rfl) ?_
   refine yOf 26 21 25 ?_
   exact Sch.nil (hcut _ _ _ (Stp.refl _ _ _) rfl (by congr 1; apply decide_eq_decide.2; exact ⟨fun h e => h e.2, fun h e => h ⟨hA, e⟩⟩) (sk 10))
  ·
   refine run_pl [yy 0, yy 1, yy 2, yy 3, yy 4, yy 5, yy 6, yy 7, yy 8, yy 9] ?_
   refine yM 17 3 ?_
   refine yS (kq 18 (.call { callee := .builtin .len, args := #[(.tmp 17)], argTypes := #[22] })) rfl rfl (fun w' hS => hu.lenV rfl Try.underlying22 w' ) ?_
   refine yM 19 0 ?_
   refine yV (kq 20 (.binOp .neq 3 (.tmp 18) (.tmp 19) 3)) (fun _ => val_T (val_neq rfl rfl) hA) ?_
   refine yM 21 20 ?_
   refine pX 22 4 false ?_
   refine pX 23 4 false ?_
   refine pX 24 4 false ?_
   refine pX 25 4 false ?_
   refine yOt 26 21 25 ?_
   exact Sch.nil (hcut _ _ _ (Stp.refl _ _ _) rfl (by rw [decide_eq_true (show ¬ ((ul.length : Int) = n ∧ (vl.length : Int) = m) from fun e => hA e.1)]) (sk 10))
 intro w1 hs
 replace hF := hF.st hs
 replace hT := hT.t hs; replace hl := hl.t hs; replace hu := hu.t hs; replace hv := hv.t hs
 refine run_i 26 rfl (fun h26 => ?_) (fun h26 => ?_)
 ·
  refine run_sq ?_
  refine run_pl [yy 0, yy 1] ?_
  refine yAc 10 (.int .i64 0) ?_
  refine yAc 11 (.bool false) ?_
  refine Sch.nil ?_
  refine run_ret2 (by kernel_rfl) Try.func39 Try.results39 rfl rfl ?_
  exact ⟨_, false, rfl, hT.out1 (by decide), ⟨fun e => (by cases e), fun e => absurd e (by exact fun e => h26 ⟨e.un, e.vn⟩)⟩, fun e => (by cases e)⟩
 ·
  obtain ⟨hun, hvn⟩ := Classical.not_not.1 h26
  have hn1 := hV.n1
  have hm1 := hV.m1
  have hlen := hV.len
  have hfl : [ul, vl].flatten = ul ++ vl := by simp
  have hcl : (ul ++ vl).length = ul.length + vl.length := List.length_append
  refine run_sk ?_
  refine run_sq ?_
  refine run_pl [yy 0] ?_
  refine yAc 12 (.int .i64 0) ?_
  refine Sch.nil ?_
  refine run_sq ?_
  refine run_sq ?_
  refine run_pl [yy 0, yy 1, nn 2, nn 3, yy 4, yy 5] ?_
  refine yM 27 3 ?_
  refine yM 28 4 ?_
  refine aS (kq 29 (.buildSlice 70 2 #[(0, (.tmp 27)), (1, (.tmp 28))])) rfl rfl (a_buildSlice (ys := ([ul, vl] : List (List Int))) (e := 22) (bytes := 24) hF (by kernel_rfl) rfl (by decide) (by decide) ⟨rfl, ⟨_, rfl, hu⟩, rfl, ⟨_, rfl, hv⟩, trivial⟩) ?_
  rintro v29 w2 ⟨hs, g29, hF⟩
  refine ⟨trivial, ?_⟩
  replace hT := hT.t hs; replace hl := hl.t hs; replace hu := hu.t hs; replace hv := hv.t hs
  refine cS (kq 30 (.call { callee := .value (.func 52), args := #[(.tmp 29)], argTypes := #[70] })) rfl rfl (ent Try.call52 rfl) (concat_ok hF g29 (by rw [hfl]; omega)) ?_
  rintro vk w3 ⟨hs, hc⟩
  refine ⟨trivial, ?_⟩
  replace hF := hF.st hs
  replace hT := hT.t hs; replace hl := hl.t hs; replace hu := hu.t hs; replace hv := hv.t hs; replace g29 := g29.t hs
  rw [hfl] at hc
  obtain ⟨c, hcd⟩ : ∃ c, c = ul ++ vl := ⟨_, rfl⟩
  rw [← hcd] at hc hcl
  refine yS (kq 31 (.call { callee := .builtin .len, args := #[(.tmp 30)], argTypes := #[22] })) rfl rfl (fun w' hS => hc.lenV rfl Try.underlying22 w' ) ?_
  refine yV (kq 32 (.move (.const (.int .i64 0)))) (fun _ => val_move rfl) ?_
  refine Sch.nil ?_
  refine run_bk 0 ?_
  
  refine run_lp (ι := Nat × (Nat → Nat)) (I := fun x w => x.1 ≤ c.length ∧ (∀ q, q < x.1 → prOK c q) ∧ (0 ≤ sumN x.1 (gI c) ∧ sumN x.1 (gI c) ≤ 4194304 * x.1) ∧ Lim w x.2 ∧ Stp [2, 3, 4, 5, 6, 7, 8, 9] w₀ (col1 C) w x.2 ∧ RV w (Mc x.2) l pl ∧ RV w (Mc x.2) ul pu ∧ RV w (Mc x.2) vl pv ∧ RV w (Mc x.2) c vk) (e := fun x => [(0, .int .i64 n), (2, pl), (3, pu), (4, pv), (12, .int .i64 (sumN x.1 (gI c))), (30, vk), (31, .int .i64 c.length), (32, .int .i64 x.1)]) (m := fun x => c.length - x.1) (x₀ := (0, col1 C)) (sr 0 (sr 2 (sr 3 (sr 4 (sr 12 (sr 30 (sr 31 (sr 32 (sub_nil _))))))))) ?_ ?_
  · exact ⟨Nat.zero_le _, (fun q hq => by simp only at hq; omega), ⟨Int.le_refl 0, Int.le_refl 0⟩, hF, hT, hl, hu, hv, hc⟩
  intro ⟨k, C1⟩ w4 hI next
  obtain ⟨hk, h0, ht, hF, hT, hl, hu, hv, hc⟩ := hI
  try simp only at hk h0 ht hF hT hl hu hv hc
  have next1 := next
  clear next
  show Run _ _ _ _ [(0, .int .i64 n), (2, pl), (3, pu), (4, pv), (12, .int .i64 (sumN k (gI c))), (30, vk), (31, .int .i64 c.length), (32, .int .i64 k)] _ _
  refine run_sq ?_
  refine run_pl [yy 0] ?_
  refine yV (kq 33 (.binOp .lss 3 (.tmp 32) (.tmp 31) 3)) (fun _ => val_lss rfl rfl) ?_
  refine Sch.nil ?_
  refine run_sq ?_
  refine run_i 33 rfl (fun h33 => ?_) (fun h33 => ?_)
  ·
   have hkl : k < c.length := by omega
   have hgx : gI c k = c[k]'hkl := getD_in _
   refine run_sk ?_
   refine run_sq ?_
   refine run_bk 1 ?_
   refine run_sq ?_
   refine run_pl [yy 0, nn 1, yy 2] ?_
   refine iS (e := 3) (kq 34 (.indexAddr 22 (.tmp 30) (.tmp 32))) rfl rfl hc rfl (by kernel_rfl) rfl (by omega) (by omega) ?_
   intro b34 o34 h34
   try simp only [Int.toNat_natCast] at h34
   refine lN (kq 35 (.load 3 (.tmp 34))) rfl rfl trivial h34 (by kernel_rfl) rfl rfl ?_
   intro v35 g35
   first | (obtain rfl := rv_nat.1 g35) | (obtain rfl := rv_int.1 g35)
   refine yA 14 35 ?_
   refine Sch.nil ?_
   refine run_sq ?_
   refine run_sq ?_
   refine run_cut 41 (decide (c[k]'hkl < 0 ∨ 4194304 < c[k]'hkl)) (C1) ?_ ?_
   ·
    intro hcut
    by_cases hA : c[k]'hkl < 0
    ·
     refine run_pl [yy 0, yy 1, yy 2, yy 3, yy 4, yy 5] ?_
     refine yM 36 14 ?_
     refine yV (kq 37 (.binOp .lss 3 (.tmp 36) (.const (.int .i64 0)) 3)) (fun _ => val_T (val_lss rfl rfl) hA) ?_
     refine yM 38 37 ?_
     refine pX 39 2 false ?_
     refine pX 40 2 false ?_
     refine yOt 41 38 40 ?_
     exact Sch.nil (hcut _ _ _ (Stp.refl _ _ _) rfl (by rw [decide_eq_true (Or.inl hA)]) (sk 6))
    ·
     refine run_pl [yy 0, yy 1, yy 2, yy 3, yy 4, yy 5] ?_
     refine yM 36 14 ?_
     refine yV (kq 37 (.binOp .lss 3 (.tmp 36) (.const (.int .i64 0)) 3)) (fun _ => val_F (val_lss rfl rfl) hA) ?_
     refine yM 38 37 ?_
     refine yMg 39 14 2 false ?_
     refine yV (kg 40 (.binOp .gtr 3 (.tmp 39) (.const (.int .i64 4194304)) 3) 2 false) (fun _ => val_gtr rfl rfl) ?_
     refine yOf 41 38 40 ?_
     exact Sch.nil (hcut _ _ _ (Stp.refl _ _ _) rfl (by congr 1; apply decide_eq_decide.2; omega) (sk 6))
   intro w5 hs
   replace hF := hF.st hs
   replace hT := hT.t hs; replace hl := hl.t hs; replace hu := hu.t hs; replace hv := hv.t hs; replace hc := hc.t hs; replace h34 := h34.t hs
   refine run_i 41 rfl (fun h41 => ?_) (fun h41 => ?_)
   ·
    refine run_sq ?_
    refine run_pl [yy 0, yy 1] ?_
    refine yAc 10 (.int .i64 0) ?_
    refine yAc 11 (.bool false) ?_
    refine Sch.nil ?_
    refine run_ret2 (by kernel_rfl) Try.func39 Try.results39 rfl rfl ?_
    exact ⟨_, false, rfl, hT.out1 (by decide), ⟨fun e => (by cases e), fun e => absurd e (by exact fun e => by have := e.ok k (by rw [← hcd]; exact hkl); unfold prOK at this; rw [← hcd, hgx] at this; omega)⟩, fun e => (by cases e)⟩
   ·
    have hokk : prOK c k := by unfold prOK; rw [hgx]; omega
    have hts : sumN (k + 1) (gI c) = sumN k (gI c) + c[k] := by show sumN k (gI c) + gI c k = _; rw [hgx]
    refine run_sk ?_
    refine run_pl [yy 0, yy 1, yy 2, yy 3] ?_
    refine yM 42 12 ?_
    refine yM 43 14 ?_
    refine yV (kq 44 (.binOp .add 3 (.tmp 42) (.tmp 43) 3)) (fun _ => val_addi rfl rfl (by omega) (by omega)) ?_
    refine yA 12 44 ?_
    refine Sch.nil ?_
    rw [← hts]
    refine run_inBlock ?_
    refine run_pl [yy 0, yy 1] ?_
    refine yV (kq 45 (.binOp .add 3 (.tmp 32) (.const (.int .i64 1)) 3)) (fun _ => val_addi rfl rfl (by omega) (by omega)) ?_
    refine yM 32 45 ?_
    refine Sch.nil ?_
    refine kp (sub_cons 0 rfl rfl (sub_cons 2 rfl rfl (sub_cons 3 rfl rfl (sub_cons 4 rfl rfl (sub_cons 12 rfl rfl (sub_cons 30 rfl rfl (sub_cons 31 rfl rfl (sub_cons 32 rfl (eq_int (by simp)) (sub_nil _))))))))) (next1 (k + 1, C1) _ ⟨(by first | omega | (simp only; omega)), (fun q hq => by
        simp only at hq
        by_cases e : q = k
        · subst e; exact hokk
        · exact h0 q (by omega)), (by simp only; unfold prOK at hokk; omega), hF, hT, hl, hu, hv, hc⟩ (by first | omega | (simp only; omega)))
  ·
   have hkl : k = c.length := by omega
   rw [hkl] at h0 ht
   rw [hkl]
   refine run_ex 0 ?_
   refine run_sq ?_
   refine run_sq ?_
   refine run_pl [yy 0, yy 1, yy 2] ?_
   refine yM 46 2 ?_
   refine yS (kq 47 (.call { callee := .builtin .len, args := #[(.tmp 46)], argTypes := #[23] })) rfl rfl (fun w' hS => hl.lenV rfl Try.underlying23 w' ) ?_
   refine yV (kq 48 (.move (.const (.int .i64 0)))) (fun _ => val_move rfl) ?_
   refine Sch.nil ?_
   refine run_bk 2 ?_
   
   refine run_lp (ι := Nat × (Nat → Nat)) (I := fun x w => x.1 ≤ l.length ∧ (∀ q (hq : q < l.length), q < x.1 → l[q].w ≤ gI ul l[q].a.toNat + gI vl l[q].b.toNat) ∧ Lim w x.2 ∧ Stp [2, 3, 4, 5, 6, 7, 8, 9] w₀ (col1 C) w x.2 ∧ RV w (Mc x.2) l pl ∧ RV w (Mc x.2) ul pu ∧ RV w (Mc x.2) vl pv) (e := fun x => [(3, pu), (4, pv), (12, .int .i64 (sumN c.length (gI c))), (46, pl), (47, .int .i64 l.length), (48, .int .i64 x.1)]) (m := fun x => l.length - x.1) (x₀ := (0, C1)) (sr 3 (sr 4 (sr 12 (sr 46 (sr 47 (sr 48 (sub_nil _))))))) ?_ ?_
   · exact ⟨Nat.zero_le _, (fun q _ hq => by simp only at hq; omega), hF, hT, hl, hu, hv⟩
   intro ⟨i, C2⟩ w6 hI next
   obtain ⟨hi, h1, hF, hT, hl, hu, hv⟩ := hI
   try simp only at hi h1 hF hT hl hu hv
   have next2 := next
   clear next
   show Run _ _ _ _ [(3, pu), (4, pv), (12, .int .i64 (sumN c.length (gI c))), (46, pl), (47, .int .i64 l.length), (48, .int .i64 i)] _ _
   have hle := hl.le
   refine run_sq ?_
   refine run_pl [yy 0] ?_
   refine yV (kq 49 (.binOp .lss 3 (.tmp 48) (.tmp 47) 3)) (fun _ => val_lss rfl rfl) ?_
   refine Sch.nil ?_
   refine run_sq ?_
   refine run_i 49 rfl (fun h49 => ?_) (fun h49 => ?_)
   ·
    have hil : i < l.length := by omega
    have hxo := (hV.ok (l[i]'hil) (List.getElem_mem hil))
    have hxa := hxo.1
    have hxw := hxo.2
    have hgu : gI ul (l[i]'hil).a.toNat = ul[(l[i]'hil).a.toNat]'(by omega) := getD_in _
    have hgv : gI vl (l[i]'hil).b.toNat = vl[(l[i]'hil).b.toNat]'(by omega) := getD_in _
    have hu0 := h0 (l[i]'hil).a.toNat (by omega)
    have hv0 := h0 (ul.length + (l[i]'hil).b.toNat) (by omega)
    have hu1 : gI c (l[i]'hil).a.toNat = gI ul (l[i]'hil).a.toNat := by rw [hcd]; show (ul ++ vl).getD _ 0 = ul.getD _ 0; rw [getD_in (by rw [List.length_append]; omega), getD_in (by omega), List.getElem_append_left]
    have hv1 : gI c (ul.length + (l[i]'hil).b.toNat) = gI vl (l[i]'hil).b.toNat := by rw [hcd]; show (ul ++ vl).getD _ 0 = vl.getD _ 0; rw [getD_in (by rw [List.length_append]; omega), getD_in (by omega), List.getElem_append_right (by omega)]; congr 1; omega
    unfold prOK at hu0 hv0
    rw [hu1, hgu] at hu0
    rw [hv1, hgv] at hv0
    refine run_sk ?_
    refine run_sq ?_
    refine run_bk 3 ?_
    refine run_sq ?_
    refine run_pl [yy 0, nn 1, nn 2, nn 3] ?_
    refine iS (e := 46) (kq 50 (.indexAddr 23 (.tmp 46) (.tmp 48))) rfl rfl hl rfl (by kernel_rfl) rfl (by omega) (by omega) ?_
    intro b50 o50 h50
    try simp only [Int.toNat_natCast] at h50
    refine lNA (kq 51 (.load 46 (.tmp 50))) rfl rfl trivial h50 (by kernel_rfl) (by kernel_rfl) rfl rfl ?_
    intro v51 g51
    obtain rfl := rv_edge.1 g51
    refine aS (kq 16 (.alloc 46)) rfl rfl (a_alloc (cs := [.int .i64 0, .int .i64 0, .int .i64 0]) hF 4 (by kernel_rfl)) ?_
    rintro _ w7 ⟨Cw7, bw7, rfl, hs, hx, hF⟩
    refine ⟨trivial, ?_⟩
    replace hT := hT.t hs; replace hl := hl.t hs; replace hu := hu.t hs; replace hv := hv.t hs; replace h50 := h50.t hs
    refine aN (k0 (.store 46 (.tmp 16) (.tmp 51))) rfl (a_storeAll (vs := encE (l[i]'hil)) (n := 3) rfl rfl (by kernel_rfl) rfl rfl (by intro u hu; simp only [encE, List.mem_cons, List.not_mem_nil, or_false] at hu; rcases hu with rfl | rfl | rfl <;> rfl) hx rfl) ?_
    rintro _ w8 ⟨rfl, hs, hx⟩
    refine ⟨trivial, ?_⟩
    replace hF := hF.st hs
    replace hT := hT.t hs; replace hl := hl.t hs; replace hu := hu.t hs; replace hv := hv.t hs; replace h50 := h50.t hs
    refine Sch.nil ?_
    refine run_sq ?_
    refine run_draw (id := 14) (ops := F39.o14) [] (Cw7) [yy 0, yy 1, yy 2, yy 3, yy 4, yy 5, yy 6, yy 7, yy 8, yy 9, yy 10, yy 11, yy 12, yy 13] Try_mixed (by kernel_rfl) (by kernel_rfl) (by kernel_rfl) ?_
    intro w9 hs
    replace hF := hF.st hs
    replace hT := hT.t hs; replace hl := hl.t hs; replace hu := hu.t hs; replace hv := hv.t hs; replace h50 := h50.t hs; replace hx := hx.t hs
    refine yM 52 3 ?_
    refine yF 53 46 16 0 0 ?_
    refine yS (kq 54 (.load 3 (.tmp 53))) rfl rfl (fun w' hS => val_loadOwn (hx.sy hS) (by kernel_rfl) rfl rfl) ?_
    refine iS (e := 3) (kq 55 (.indexAddr 22 (.tmp 52) (.tmp 54))) rfl rfl hu rfl (by kernel_rfl) rfl (by omega) (by omega) ?_
    intro b55 o55 h55
    try simp only [Int.toNat_natCast] at h55
    refine lS (kq 56 (.load 3 (.tmp 55))) rfl rfl (fun w' hS => h55.sy hS) h55 (by kernel_rfl) rfl rfl ?_
    intro v56 g56
    first | (obtain rfl := rv_nat.1 g56) | (obtain rfl := rv_int.1 g56)
    refine yM 57 4 ?_
    refine yF 58 46 16 1 1 ?_
    refine yS (kq 59 (.load 3 (.tmp 58))) rfl rfl (fun w' hS => val_loadOwn (hx.sy hS) (by kernel_rfl) rfl rfl) ?_
    refine iS (e := 3) (kq 60 (.indexAddr 22 (.tmp 57) (.tmp 59))) rfl rfl hv rfl (by kernel_rfl) rfl (by omega) (by omega) ?_
    intro b60 o60 h60
    try simp only [Int.toNat_natCast] at h60
    refine lS (kq 61 (.load 3 (.tmp 60))) rfl rfl (fun w' hS => h60.sy hS) h60 (by kernel_rfl) rfl rfl ?_
    intro v61 g61
    first | (obtain rfl := rv_nat.1 g61) | (obtain rfl := rv_int.1 g61)
    refine yV (kq 62 (.binOp .add 3 (.tmp 56) (.tmp 61) 3)) (fun _ => val_addi rfl rfl (by omega) (by omega)) ?_
    refine yF 63 46 16 2 2 ?_
    refine yS (kq 64 (.load 3 (.tmp 63))) rfl rfl (fun w' hS => val_loadOwn (hx.sy hS) (by kernel_rfl) rfl rfl) ?_
    refine yV (kq 65 (.binOp .lss 3 (.tmp 62) (.tmp 64) 3)) (fun _ => val_lss rfl rfl) ?_
    refine Sch.nil ?_
    refine run_i 65 rfl (fun h65 => ?_) (fun h65 => ?_)
    ·
     refine run_sq ?_
     refine run_pl [yy 0, yy 1] ?_
     refine yAc 10 (.int .i64 0) ?_
     refine yAc 11 (.bool false) ?_
     refine Sch.nil ?_
     refine run_ret2 (by kernel_rfl) Try.func39 Try.results39 rfl rfl ?_
     exact ⟨_, false, rfl, hT.out1 (by decide), ⟨fun e => (by cases e), fun e => absurd e (by exact fun e => by have := e.cov (l[i]'hil) (List.getElem_mem hil); rw [hgu, hgv] at this; omega)⟩, fun e => (by cases e)⟩
    ·
     refine run_sk ?_
     refine run_inBlock ?_
     refine run_pl [yy 0, yy 1] ?_
     refine yV (kq 66 (.binOp .add 3 (.tmp 48) (.const (.int .i64 1)) 3)) (fun _ => val_addi rfl rfl (by omega) (by omega)) ?_
     refine yM 48 66 ?_
     refine Sch.nil ?_
     refine kp (sub_cons 3 rfl rfl (sub_cons 4 rfl rfl (sub_cons 12 rfl rfl (sub_cons 46 rfl rfl (sub_cons 47 rfl rfl (sub_cons 48 rfl (eq_int (by simp)) (sub_nil _))))))) (next2 (i + 1, Cw7) _ ⟨(by first | omega | (simp only; omega)), (fun q hq hq2 => by
         simp only at hq2
         by_cases e : q = i
         · subst e; rw [hgu, hgv]; omega
         · exact h1 q hq (by omega)), hF, hT, hl, hu, hv⟩ (by first | omega | (simp only; omega)))
   ·
    have hil : i = l.length := by omega
    refine run_ex 2 ?_
    refine run_sq ?_
    refine run_pl [yy 0, yy 1, yy 2] ?_
    refine yM 67 12 ?_
    refine yA 10 67 ?_
    refine yAc 11 (.bool true) ?_
    refine Sch.nil ?_
    refine run_ret2 (by kernel_rfl) Try.func39 Try.results39 rfl rfl ?_
    exact ⟨_, true, rfl, hT.out1 (by decide), ⟨fun _ => ⟨hun, hvn, fun k hk => by rw [← hcd] at hk ⊢; exact h0 k hk, fun x hx => by
      obtain ⟨q, hq, rfl⟩ := List.getElem_of_mem hx
      exact h1 q hq (by omega)⟩, fun _ => rfl⟩, fun _ => by rw [hcd]⟩
end Go.Proofs.Ytgooehopkmbkfaa
