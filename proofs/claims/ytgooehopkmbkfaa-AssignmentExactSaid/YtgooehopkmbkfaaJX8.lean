/- Steps through functions of the program. -/
import Derived.Test.YtgooehopkmbkfaaJX7
set_option linter.unusedVariables false
set_option linter.unusedSimpArgs false
set_option maxRecDepth 100000
set_option maxHeartbeats 4000000
namespace Go.Proofs.Ytgooehopkmbkfaa
open Go.K Go.K.Rep

theorem top_bnd {n m : Nat} {wl : List (List Int)} (h : MxOK n m wl) : 0 ≤ top n m (wK wl) ∧ top n m (wK wl) ≤ n * 65536 := by
  unfold top totC
  exact sumN_bound (fun i hi => by
    split
    · rename_i hf
      have h1 := h.row hi
      have e : wK wl i (bst n m (wK wl) i) = (wl.getD i [])[bst n m (wK wl) i]'(by omega) := getD_in _
      rw [e]; exact h.cell hi _ (List.getElem_mem _)
    · omega)
namespace F20
noncomputable def c0 := bodyOf Try.f20
noncomputable def c8 := (cl (cr (cr (cl (cr c0)))))
noncomputable def c17 := (cl (cr (cr (cr (cr c0)))))
noncomputable def c18 := (cr (cr (cr (cr (cr c0)))))
noncomputable def c25 := (cl (cl (cr (cl (cr c18)))))
noncomputable def c36 := (cl (cr (cl (cl (cr c25)))))
noncomputable def o12 := rops (cl c36)
noncomputable def c41 := (cr (cr (cl (cl (cr c25)))))
noncomputable def o14 := rops (cl (cr c41))
noncomputable def c49 := (cl (cr (cl (cr (cr c41)))))
noncomputable def c50 := (cr (cr (cl (cr (cr c41)))))
noncomputable def o18 := rops (cr (cr (cr c41)))
end F20
/-- The reference's 'Solve'. -/
theorem rsolve_ok {w₀ : World} {C : Nat → Nat} {n m : Int} {l : List K.Edge} {vl : Value} (hF : Lim w₀ C) (hl : RV w₀ (Mc C) l vl) : Calls Try.prog 20 #[.int .i64 n, .int .i64 m, vl] w₀ (Ret fun v w' => ∃ u, v = .tuple #[u, .int .i64 (solT n m l), .int .i64 (chkE n m l)] ∧ Stp [] w₀ C w' C ∧ RV w' (Mc C) (solL n m l) u) := by
 have hF0 := hF
 have hT := Stp.refl [2, 3, 4, 5, 6, 7, 8, 9] w₀ (col1 C)
 replace hF := hF.col1
 replace hl : RV w₀ (Mc (col1 C)) l vl := by rw [Mc_col1]; exact hl
 refine calls_start (c := F20.c0) (N := 91) [.int .i64 n, .int .i64 m, vl] Try.func20 (by kernel_rfl) (by kernel_rfl) (by kernel_rfl) ?_
 show Run _ _ _ _ [(0, .int .i64 n), (1, .int .i64 m), (2, vl)] _ _
 refine run_sq ?_
 refine run_pl [yy 0, yy 1, yy 2] ?_
 refine yV (kq 6 (.assign (.const (.slice none 0 0)))) (fun _ => val_assign rfl) ?_
 refine yAc 7 (.int .i64 0) ?_
 refine yAc 8 (.int .i64 0) ?_
 refine Sch.nil ?_
 refine run_sq ?_
 refine run_sq ?_
 refine run_pl [yy 0, yy 1, yy 2, nn 3, yy 4] ?_
 refine yM 17 0 ?_
 refine yM 18 1 ?_
 refine yM 19 2 ?_
 refine cS (kq 20 (.call { callee := .value (.func 18), args := #[(.tmp 17), (.tmp 18), (.tmp 19)], argTypes := #[3, 3, 23] })) rfl rfl (ent Try.call18 rfl) (rcheck_ok hF hl) ?_
 rintro vw1 w1 ⟨rfl, hs⟩
 refine ⟨trivial, ?_⟩
 replace hF := hF.st hs
 replace hT := hT.t hs; replace hl := hl.t hs
 refine yA 9 20 ?_
 refine Sch.nil ?_
 refine run_sq ?_
 refine run_pl [yy 0, yy 1] ?_
 refine yM 21 9 ?_
 refine yV (kq 22 (.binOp .neq 35 (.tmp 21) (.const (.int .i64 0)) 35)) (fun _ => val_neq rfl rfl) ?_
 refine Sch.nil ?_
 refine run_i 22 rfl (fun h22 => ?_) (fun h22 => ?_)
 ·
  refine run_sq ?_
  refine run_pl [yy 0, yy 1, yy 2, yy 3] ?_
  refine yM 23 9 ?_
  refine yV (kq 6 (.assign (.const (.slice none 0 0)))) (fun _ => val_assign rfl) ?_
  refine yAc 7 (.int .i64 0) ?_
  refine yA 8 23 ?_
  refine Sch.nil ?_
  refine run_ret3 (by kernel_rfl) Try.func20 Try.results20 rfl rfl rfl ?_
  exact ⟨.slice none 0 0, by unfold solT; rw [if_neg h22], hT.out1 (by decide), by unfold solL; rw [if_neg h22]; exact rv_nil⟩
 ·
  have hz : chkE n m l = 0 := by simpa using h22
  have hV := chkE_zero hz
  obtain ⟨n0, rfl⟩ : ∃ k : Nat, n = k := ⟨n.toNat, by have := hV.n0; omega⟩
  obtain ⟨m0, rfl⟩ : ∃ k : Nat, m = k := ⟨m.toNat, by have := hV.m0; omega⟩
  have hn6 : n0 ≤ 64 := by have := hV.n1; omega
  have hm6 : m0 ≤ 64 := by have := hV.m1; omega
  have hll := hl.le
  refine run_sk ?_
  refine run_sq ?_
  refine run_pl [yy 0, yy 1, yy 2, nn 3, yy 4] ?_
  refine yM 24 0 ?_
  refine yM 25 1 ?_
  refine yM 26 2 ?_
  refine cS (kq 27 (.call { callee := .value (.func 36), args := #[(.tmp 24), (.tmp 25), (.tmp 26)], argTypes := #[3, 3, 23] })) rfl rfl (ent Try.call36 rfl) (matrix_ok hF hl hV hn6 hm6) ?_
  rintro vw0 w2 ⟨Cm, vf0, hs, hF, ho, hin⟩
  refine ⟨trivial, ?_⟩
  replace hT := hT.t hs; replace hl := hl.t hs
  replace hin : ∀ q, q < n0 → OwnL w2 Cm (100 + q) 3 (vf0 q) ((mmat l n0 m0).getD q []) := fun q hq => by rw [mmat_getD hq]; exact hin q hq
  have hMx0 := mmat_ok (n := n0) (m := m0) hV
  have hst := RfI.start (N := n0) (M := m0) (l := l) (wc := wK (mmat l n0 m0)) (fun i j hi hj => wK_mmat hi hj)
  refine yA 10 27 ?_
  refine Sch.nil ?_
  refine run_sq ?_
  refine run_pl [yy 0, yy 1, yy 2, nn 3, yy 4] ?_
  refine yM 28 10 ?_
  refine yM 29 0 ?_
  refine yM 30 1 ?_
  have hwv := mx_read hMx0 hn6 hm6 ho hin
  refine cS (kq 31 (.call { callee := .value (.func 37), args := #[(.tmp 28), (.tmp 29), (.tmp 30)], argTypes := #[70, 3, 3] })) rfl rfl (ent Try.call37 rfl) (rtotal_ok (hF.frz 99) hwv hMx0.n hMx0.m hMx0.b hn6 hm6) ?_
  rintro vw3 w3 ⟨rfl, hs0⟩
  have hs := hs0.unfrz (Cm)
  clear hwv
  refine ⟨trivial, ?_⟩
  replace hF := hF.st hs
  replace hT := hT.t hs; replace hl := hl.t hs; replace ho := ho.t hs
  replace hin := fun k hk => (hin k hk).st hs (by simp <;> omega) (by simp <;> omega)
  rw [hst.top_wc hV (fun y hy => by cases hy)]
  refine yA 11 31 ?_
  refine Sch.nil ?_
  refine run_sq ?_
  refine run_pl [yy 0, yy 1] ?_
  refine yM 32 11 ?_
  refine yA 12 32 ?_
  refine Sch.nil ?_
  refine run_sq ?_
  refine run_pl [yy 0] ?_
  refine yV (kq 13 (.assign (.const (.slice none 0 0)))) (fun _ => val_assign rfl) ?_
  refine Sch.nil ?_
  refine run_sq ?_
  refine run_sq ?_
  refine run_pl [yy 0] ?_
  refine yAc 14 (.int .i64 0) ?_
  refine Sch.nil ?_
  refine run_bk 0 ?_
  replace hT : Stp ([2, 3, 4, 5, 6, 7, 8, 9] ++ List.range' 99 (n0 + 1)) w₀ (col1 C) _ _ := hT.mono (by intro c hc; exact List.mem_append_left _ hc)
  refine run_lp (ι := Nat × (List (List Int)) × Value × (Nat → Value) × (Nat → Nat) × Int × Value × (Nat → Nat)) (I := fun x w => x.1 ≤ l.length ∧ MxOK n0 m0 x.2.1 ∧ RfI n0 m0 l (l.take x.1) x.2.2.2.2.1 (wK x.2.1) x.2.2.2.2.2.1 ∧ Lim w x.2.2.2.2.2.2.2 ∧ Stp ([2, 3, 4, 5, 6, 7, 8, 9] ++ List.range' 99 (n0 + 1)) w₀ (col1 C) w x.2.2.2.2.2.2.2 ∧ RV w (Mc x.2.2.2.2.2.2.2) l vl ∧ OwnL w x.2.2.2.2.2.2.2 99 22 x.2.2.1 (svsF x.2.2.2.1 n0) ∧ (∀ q, q < n0 → OwnL w x.2.2.2.2.2.2.2 (100 + q) 3 (x.2.2.2.1 q) (x.2.1.getD q [])) ∧ OwnL w x.2.2.2.2.2.2.2 4 53 x.2.2.2.2.2.2.1 (outS n0 m0 x.2.2.2.2.1)) (e := fun x => [(0, .int .i64 n0), (1, .int .i64 m0), (2, vl), (10, x.2.2.1), (11, .int .i64 (top n0 m0 (pos (edW l)))), (12, .int .i64 x.2.2.2.2.2.1), (13, x.2.2.2.2.2.2.1), (14, .int .i64 x.1)]) (m := fun x => l.length - x.1) (x₀ := (0, mmat l n0 m0, vw0, vf0, fun _ => m0, top n0 m0 (pos (edW l)), .slice none 0 0, Cm)) (sr 0 (sr 1 (sr 2 (sr 10 (sr 11 (sr 12 (sr 13 (sr 14 (sub_nil _))))))))) ?_ ?_
  · exact ⟨Nat.zero_le _, hMx0, hst, hF, hT, hl, ho, hin, by simp only; rw [show outS n0 m0 (fun _ => m0) = [] from by unfold outS; simp]; exact OwnL.nil⟩
  intro ⟨i, wl, vw, vf, f0, left, vo, C1⟩ w4 hI next
  obtain ⟨hi, hMx, hRf, hF, hT, hl, ho, hin, hout⟩ := hI
  try simp only at hi hMx hRf hF hT hl ho hin hout
  have next1 := next
  clear next
  show Run _ _ _ _ [(0, .int .i64 n0), (1, .int .i64 m0), (2, vl), (10, vw), (11, .int .i64 (top n0 m0 (pos (edW l)))), (12, .int .i64 left), (13, vo), (14, .int .i64 i)] _ _
  have hsl := svsF_len vf n0
  have hol := outS_len n0 m0 f0
  refine run_sq ?_
  refine run_sq ?_
  refine run_pl [yy 0, yy 1, yy 2, yy 3] ?_
  refine yM 33 14 ?_
  refine yM 34 2 ?_
  refine yS (kq 35 (.call { callee := .builtin .len, args := #[(.tmp 34)], argTypes := #[23] })) rfl rfl (fun w' hS => hl.lenV rfl Try.underlying23 w' ) ?_
  refine yV (kq 36 (.binOp .lss 3 (.tmp 33) (.tmp 35) 3)) (fun _ => val_lss rfl rfl) ?_
  refine Sch.nil ?_
  refine run_i 36 rfl (fun h36 => ?_) (fun h36 => ?_)
  ·
   have hil : i < l.length := by omega
   have hok := hV.ok l[i] (List.getElem_mem hil)
   unfold okE at hok
   have hsp : SpE n0 m0 l (l.take i) l[i] (l.drop (i + 1)) := ⟨hV, by rw [List.getElem_cons_drop, List.take_append_drop]⟩
   have htk := List.take_succ_eq_append_getElem hil
   obtain ⟨a0, ha0⟩ : ∃ a0 : Nat, l[i].a = a0 := ⟨l[i].a.toNat, by omega⟩
   obtain ⟨b0, hb0⟩ : ∃ b0 : Nat, l[i].b = b0 := ⟨l[i].b.toNat, by omega⟩
   have hta : l[i].a.toNat = a0 := by omega
   have htb : l[i].b.toNat = b0 := by omega
   have han : a0 < n0 := by omega
   have hbm : b0 < m0 := by omega
   have hrl := hMx.row han
   have hleft : 0 ≤ left ∧ left ≤ 4194304 := by have h1 := hRf.top_wc hV (fun y hy => List.mem_of_mem_take hy); have h2 := top_bnd hMx; omega
   have hwk : wK wl a0 b0 = (wl.getD a0 [])[b0]'(by omega) := getD_in _
   refine run_sk ?_
   refine run_sq ?_
   refine run_bk 1 ?_
   refine run_sq ?_
   refine run_pl [yy 0, yy 1, yy 2, nn 3, nn 4, nn 5] ?_
   refine yM 39 2 ?_
   refine yM 40 14 ?_
   refine iS (e := 46) (kq 41 (.indexAddr 23 (.tmp 39) (.tmp 40))) rfl rfl hl rfl (by kernel_rfl) rfl (by omega) (by omega) ?_
   intro b41 o41 h41
   try simp only [Int.toNat_natCast] at h41
   refine lNA (kq 42 (.load 46 (.tmp 41))) rfl rfl trivial h41 (by kernel_rfl) (by kernel_rfl) rfl rfl ?_
   intro v42 g42
   obtain rfl := rv_edge.1 g42
   refine aS (kq 15 (.alloc 46)) rfl rfl (a_alloc (cs := [.int .i64 0, .int .i64 0, .int .i64 0]) hF 5 (by kernel_rfl)) ?_
   rintro _ w5 ⟨Cw5, bw5, rfl, hs, hx, hF⟩
   refine ⟨trivial, ?_⟩
   replace hT := hT.t hs; replace hl := hl.t hs; replace ho := ho.t hs
   replace hin := fun k hk => (hin k hk).st hs (by simp <;> omega) (by simp <;> omega)
   replace hout := hout.t hs; replace h41 := h41.t hs
   refine aN (k0 (.store 46 (.tmp 15) (.tmp 42))) rfl (a_storeAll (vs := [.int .i64 l[i].a, .int .i64 l[i].b, .int .i64 l[i].w]) (n := 3) rfl rfl (by kernel_rfl) rfl rfl (by intro u hu; simp only [List.mem_cons, List.not_mem_nil, or_false] at hu; rcases hu with rfl | rfl | rfl <;> rfl) hx rfl) ?_
   rintro _ w6 ⟨rfl, hs, hx⟩
   refine ⟨trivial, ?_⟩
   replace hF := hF.st hs
   replace hT := hT.t hs; replace hl := hl.t hs; replace ho := ho.t hs
   replace hin := fun k hk => (hin k hk).st hs (by simp <;> omega) (by simp <;> omega)
   replace hout := hout.t hs; replace h41 := h41.t hs
   refine Sch.nil ?_
   refine run_sq ?_
   refine run_sq ?_
   refine run_draw (id := 12) (ops := F20.o12) [] (Cw5) [yy 0, yy 1, yy 2, yy 3, yy 4, yy 5, yy 6, yy 7, yy 8, yy 9] Try_mixed (by kernel_rfl) (by kernel_rfl) (by kernel_rfl) ?_
   intro w7 hs
   replace hF := hF.st hs
   replace hT := hT.t hs; replace hl := hl.t hs; replace ho := ho.t hs
   replace hin := fun k hk => (hin k hk).st hs (by simp <;> omega) (by simp <;> omega)
   replace hout := hout.t hs; replace h41 := h41.t hs; replace hx := hx.t hs
   refine yM 43 10 ?_
   refine yF 44 46 15 0 0 ?_
   refine yS (kq 45 (.load 3 (.tmp 44))) rfl rfl (fun w' hS => val_loadOwn (hx.sy hS) (by kernel_rfl) rfl rfl) ?_
   rw [ha0]
   refine oI (e' := 22) (kq 46 (.indexAddr 70 (.tmp 43) (.tmp 45))) rfl rfl ho rfl (by kernel_rfl) rfl (by omega) (by omega) ?_
   intro g46 hg46
   try simp only [Int.toNat_natCast]
   refine oS (I := []) (kq 47 (.load 22 (.tmp 46))) rfl rfl ho hg46 (fun w' hS => ho.sy hg46 hS) (by omega) (by kernel_rfl) rfl rfl ?_
   intro v47 g47
   try simp only [Int.toNat_natCast] at g47
   obtain ⟨e47, _⟩ := rv_sv.1 g47
   rw [svsF_get] at e47
   subst e47
   refine yF 48 46 15 1 1 ?_
   refine yS (kq 49 (.load 3 (.tmp 48))) rfl rfl (fun w' hS => val_loadOwn (hx.sy hS) (by kernel_rfl) rfl rfl) ?_
   rw [hb0]
   refine oI (e' := 3) (kq 50 (.indexAddr 22 (.tmp 47) (.tmp 49))) rfl rfl (hin a0 han) rfl (by kernel_rfl) rfl (by omega) (by omega) ?_
   intro g50 hg50
   try simp only [Int.toNat_natCast]
   refine oS (I := []) (kq 51 (.load 3 (.tmp 50))) rfl rfl (hin a0 han) hg50 (fun w' hS => (hin a0 han).stay hg50 hS (by first | decide | (simp <;> omega))) (by omega) (by kernel_rfl) rfl rfl ?_
   intro v51 g51
   try simp only [Int.toNat_natCast] at g51
   first | (obtain rfl := rv_nat.1 g51) | (obtain rfl := rv_int.1 g51)
   refine yV (kq 52 (.binOp .leq 3 (.tmp 51) (.const (.int .i64 0)) 3)) (fun _ => val_leq rfl rfl) ?_
   refine Sch.nil ?_
   refine run_i 52 rfl (fun h52 => ?_) (fun h52 => ?_)
   ·
    have hsk := hRf.skip hsp (by rw [hta, htb, hwk]; omega)
    refine run_ex 1 ?_
    refine run_pl [yy 0, yy 1, yy 2] ?_
    refine yM 37 14 ?_
    refine yV (kq 38 (.binOp .add 3 (.tmp 37) (.const (.int .i64 1)) 3)) (fun _ => val_addi rfl rfl (by omega) (by omega)) ?_
    refine yA 14 38 ?_
    refine Sch.nil ?_
    refine kp (sub_cons 0 rfl rfl (sub_cons 1 rfl rfl (sub_cons 2 rfl rfl (sub_cons 10 rfl rfl (sub_cons 11 rfl rfl (sub_cons 12 rfl rfl (sub_cons 13 rfl rfl (sub_cons 14 rfl (eq_int (by simp)) (sub_nil _))))))))) (next1 (i + 1, wl, vw, vf, f0, left, vo, Cw5) _ ⟨(by first | omega | (simp only; omega)), (by first | omega | (simp only; omega)), (by rw [htk]; exact hsk), hF, hT, hl, ho, hin, hout⟩ (by first | omega | (simp only; omega)))
   ·
    have hwp : 0 < wK wl l[i].a.toNat l[i].b.toNat := by rw [hta, htb, hwk]; omega
    refine run_sk ?_
    refine run_sq ?_
    refine run_pl [yy 0, yy 1, nn 2, yy 3, nn 4, nn 5, yy 6] ?_
    refine yM 53 10 ?_
    refine yF 54 46 15 0 0 ?_
    refine nS (kq 55 (.load 3 (.tmp 54))) rfl rfl trivial (val_loadOwn hx.at_ (by kernel_rfl) rfl rfl) ?_
    rw [ha0]
    refine yF 56 46 15 1 1 ?_
    refine nS (kq 57 (.load 3 (.tmp 56))) rfl rfl trivial (val_loadOwn hx.at_ (by kernel_rfl) rfl rfl) ?_
    rw [hb0]
    have hwv := mx_read hMx hn6 hm6 ho hin
    refine cS (kq 58 (.call { callee := .value (.func 38), args := #[(.tmp 53), (.tmp 55), (.tmp 57)], argTypes := #[70, 3, 3] })) rfl rfl (ent Try.call38 rfl) (without_ok (hF.frz 99) hwv hMx.n hMx.m hn6 hm6 han hbm) ?_
    rintro vr w8 ⟨C2, vf2, hs0, hF2, ho2, hin2⟩
    obtain ⟨Ck, hs, hFk, hor, hinr⟩ := give_frz hF hs0 hF2 ho2 hin2
    clear hwv hs0 ho2 hin2 hF2
    refine ⟨trivial, ?_⟩
    replace hT := hT.t hs; replace hl := hl.t hs; replace ho := ho.t hs
    replace hin := fun k hk => (hin k hk).st hs (by simp <;> omega) (by simp <;> omega)
    replace hout := hout.t hs; replace h41 := h41.t hs; replace hx := hx.t hs
    replace hF := hFk
    clear hFk
    have hMr := hMx.wmat a0 b0
    have htb2 := top_bnd hMr
    replace hinr : ∀ q, q < n0 → OwnL w8 Ck (100 + q) 3 (vf2 q) ((wmat wl a0 b0).getD q []) := fun q hq => by rw [wmat_getD (by rw [hMx.n]; exact hq)]; exact hinr q hq
    have hwr : ∀ i2 j2, i2 < n0 → j2 < m0 → wK (wmat wl a0 b0) i2 j2 = if i2 = l[i].a.toNat ∨ j2 = l[i].b.toNat then 0 else wK wl i2 j2 := fun i2 j2 h1 h2 => by rw [hta, htb]; exact wK_wmat hMx h1 h2
    refine yA 16 58 ?_
    refine Sch.nil ?_
    refine run_sq ?_
    refine run_draw (id := 14) (ops := F20.o14) [] (Ck) [yy 0, yy 1, yy 2, yy 3, yy 4, yy 7, nn 5, yy 6, yy 8] Try_mixed (by kernel_rfl) (by kernel_rfl) (by kernel_rfl) ?_
    intro w9 hs
    replace hF := hF.st hs
    replace hT := hT.t hs; replace hl := hl.t hs; replace ho := ho.t hs
    replace hin := fun k hk => (hin k hk).st hs (by simp <;> omega) (by simp <;> omega)
    replace hout := hout.t hs; replace h41 := h41.t hs; replace hx := hx.t hs; replace hor := hor.t hs
    replace hinr := fun k hk => (hinr k hk).st hs (by simp <;> omega) (by simp <;> omega)
    have hR := Stp.refl [] w9 (Ck)
    refine yF 59 46 15 2 2 ?_
    refine yS (kq 60 (.load 3 (.tmp 59))) rfl rfl (fun w' hS => val_loadOwn (hx.sy hS) (by kernel_rfl) rfl rfl) ?_
    refine yM 61 16 ?_
    refine yM 62 0 ?_
    refine yM 63 1 ?_
    refine yM 66 12 ?_
    have hwv := mx_read hMr hn6 hm6 hor hinr
    refine cS (kq 64 (.call { callee := .value (.func 37), args := #[(.tmp 61), (.tmp 62), (.tmp 63)], argTypes := #[70, 3, 3] })) rfl rfl (ent Try.call37 rfl) (rtotal_ok (hF.frz 99) hwv hMr.n hMr.m hMr.b hn6 hm6) ?_
    rintro vw10 w10 ⟨rfl, hs0⟩
    have hs := hs0.unfrz (Ck)
    clear hwv
    refine ⟨(hR.trans hs (by simp)).ext, ?_⟩
    replace hF := hF.st hs
    replace hT := hT.t hs; replace hl := hl.t hs; replace ho := ho.t hs
    replace hin := fun k hk => (hin k hk).st hs (by simp <;> omega) (by simp <;> omega)
    replace hout := hout.t hs; replace h41 := h41.t hs; replace hx := hx.t hs; replace hor := hor.t hs
    replace hinr := fun k hk => (hinr k hk).st hs (by simp <;> omega) (by simp <;> omega)
    replace hR := hR.t hs
    refine yV (kq 65 (.binOp .add 3 (.tmp 60) (.tmp 64) 3)) (fun _ => val_addi rfl rfl (by omega) (by omega)) ?_
    refine yV (kq 67 (.binOp .eql 3 (.tmp 65) (.tmp 66) 3)) (fun _ => val_eql rfl rfl) ?_
    refine Sch.nil ?_
    refine run_i 67 rfl (fun h67 => ?_) (fun h67 => ?_)
    ·
     have htake := hRf.take hsp hwp hwr h67
     refine run_sq ?_
     refine run_pl [yy 0, yy 1, nn 2, yy 3, nn 4, yy 5, nn 6, nn 7, yy 8] ?_
     refine yM 68 13 ?_
     refine yF 69 46 15 0 0 ?_
     refine nS (kq 70 (.load 3 (.tmp 69))) rfl rfl trivial (val_loadOwn hx.at_ (by kernel_rfl) rfl rfl) ?_
     refine yF 71 46 15 1 1 ?_
     refine nS (kq 72 (.load 3 (.tmp 71))) rfl rfl trivial (val_loadOwn hx.at_ (by kernel_rfl) rfl rfl) ?_
     refine yV (kq 73 (.build 53 #[(0, (.tmp 70)), (1, (.tmp 72))])) (fun _ => val_build (zs := [.int .i64 0, .int .i64 0]) (ps := [(0, 1), (1, 1)]) (qs := [(0, [.int .i64 (l[i]'hil).a]), (1, [.int .i64 (l[i]'hil).b])]) (cs := [.int .i64 (l[i]'hil).a, .int .i64 (l[i]'hil).b]) (by kernel_rfl) (by kernel_rfl) (by exact ⟨rfl, ⟨_, rfl, rfl⟩, rfl, ⟨_, rfl, rfl⟩, trivial⟩) rfl) ?_
     refine aS (kq 74 (.buildSlice 24 1 #[(0, (.tmp 73))])) rfl rfl (a_buildSlice (ys := ([⟨l[i].a, l[i].b⟩] : List Couple)) (e := 53) (bytes := 16) hF (by kernel_rfl) rfl (by decide) (by decide) ⟨rfl, ⟨_, rfl, rv_couple.2 rfl⟩, trivial⟩) ?_
     rintro v74 w11 ⟨hs, hn1, hF⟩
     refine ⟨trivial, ?_⟩
     replace hT := hT.t hs; replace hl := hl.t hs; replace ho := ho.t hs
     replace hin := fun k hk => (hin k hk).st hs (by simp <;> omega) (by simp <;> omega)
     replace hout := hout.t hs; replace h41 := h41.t hs; replace hx := hx.t hs; replace hor := hor.t hs
     replace hinr := fun k hk => (hinr k hk).st hs (by simp <;> omega) (by simp <;> omega)
     refine aS (kq 75 (.call { callee := .builtin .append, args := #[(.tmp 68), (.tmp 74)], argTypes := #[24, 24] })) rfl rfl (a_append (e := 53) (bytes := 16) hF (by decide) rfl rfl (by kernel_rfl) (by decide) hout hn1 (by simp only [List.length_cons, List.length_nil]; omega) (by simp only [List.length_cons, List.length_nil]; omega)) ?_
     rintro v75 w12 ⟨Cw12, hs, hout, hF⟩
     refine ⟨trivial, ?_⟩
     replace hT := hT.t hs; replace hl := hl.t hs; replace ho := ho.t hs
     replace hin := fun k hk => (hin k hk).st hs (by simp <;> omega) (by simp <;> omega)
     replace h41 := h41.t hs; replace hx := hx.t hs; replace hor := hor.t hs
     replace hinr := fun k hk => (hinr k hk).st hs (by simp <;> omega) (by simp <;> omega)
     replace hn1 := hn1.t hs
     refine yA 13 75 ?_
     refine Sch.nil ?_
     refine run_sq ?_
     refine run_pl [yy 0, yy 1, nn 2, yy 3, yy 4] ?_
     refine yM 76 12 ?_
     refine yF 77 46 15 2 2 ?_
     refine nS (kq 78 (.load 3 (.tmp 77))) rfl rfl trivial (val_loadOwn hx.at_ (by kernel_rfl) rfl rfl) ?_
     refine yV (kq 79 (.binOp .sub 3 (.tmp 76) (.tmp 78) 3)) (fun _ => val_subi rfl rfl (by omega) (by omega)) ?_
     refine yA 12 79 ?_
     refine Sch.nil ?_
     refine run_pl [yy 0, yy 1] ?_
     refine yM 80 16 ?_
     refine yA 10 80 ?_
     refine Sch.nil ?_
     refine run_inBlock ?_
     refine run_pl [yy 0, yy 1, yy 2] ?_
     refine yM 37 14 ?_
     refine yV (kq 38 (.binOp .add 3 (.tmp 37) (.const (.int .i64 1)) 3)) (fun _ => val_addi rfl rfl (by omega) (by omega)) ?_
     refine yA 14 38 ?_
     refine Sch.nil ?_
     refine kp (sub_cons 0 rfl rfl (sub_cons 1 rfl rfl (sub_cons 2 rfl rfl (sub_cons 10 rfl rfl (sub_cons 11 rfl rfl (sub_cons 12 rfl rfl (sub_cons 13 rfl rfl (sub_cons 14 rfl (eq_int (by simp)) (sub_nil _))))))))) (next1 (i + 1, wmat wl a0 b0, vr, vf2, updF f0 l[i].a.toNat l[i].b.toNat, left - l[i].w, v75, Cw12) _ ⟨(by first | omega | (simp only; omega)), hMr, (by rw [htk]; exact htake), hF, hT, hl, hor, hinr, (by rw [outS_next hsp hRf.wc.st ((hRf.cell hsp).1 hwp).2.1]; exact hout)⟩ (by first | omega | (simp only; omega)))
    ·
     have hleave := hRf.leave hsp hwp hwr h67 (wd := wK (zmat wl a0 b0)) (fun i2 j2 h1 h2 => by rw [hta, htb]; exact wK_zmat hMx han h1 h2 hbm)
     refine run_draw (id := 18) (ops := F20.o18) [100 + a0] (Ck) [yy 0, yy 1, yy 2, yy 3, yy 4, yy 5, yy 6, yy 7, nn 8] Try_mixed (by kernel_rfl) (by kernel_rfl) (by kernel_rfl) ?_
     intro w13 hs
     replace hF := hF.st hs
     replace hT := hT.t hs; replace hl := hl.t hs; replace ho := ho.t hs
     replace hin := fun k hk => (hin k hk).st hs (by simp <;> omega) (by simp <;> omega)
     replace hout := hout.t hs; replace h41 := h41.t hs; replace hx := hx.t hs; replace hor := hor.t hs
     replace hinr := fun k hk => (hinr k hk).st hs (by simp <;> omega) (by simp <;> omega)
     have hR := Stp.refl [100 + a0] w13 (Ck)
     refine yM 81 10 ?_
     refine yF 82 46 15 0 0 ?_
     refine yS (kq 83 (.load 3 (.tmp 82))) rfl rfl (fun w' hS => val_loadOwn (hx.sy hS) (by kernel_rfl) rfl rfl) ?_
     rw [ha0]
     refine oI (e' := 22) (kq 84 (.indexAddr 70 (.tmp 81) (.tmp 83))) rfl rfl ho rfl (by kernel_rfl) rfl (by omega) (by omega) ?_
     intro g84 hg84
     try simp only [Int.toNat_natCast]
     refine oS (I := [100 + a0]) (kq 85 (.load 22 (.tmp 84))) rfl rfl ho hg84 (fun w' hS => ho.sy hg84 hS) (by omega) (by kernel_rfl) rfl rfl ?_
     intro v85 g85
     try simp only [Int.toNat_natCast] at g85
     obtain ⟨e85, _⟩ := rv_sv.1 g85
     rw [svsF_get] at e85
     subst e85
     refine yF 86 46 15 1 1 ?_
     refine yS (kq 87 (.load 3 (.tmp 86))) rfl rfl (fun w' hS => val_loadOwn (hx.sy hS) (by kernel_rfl) rfl rfl) ?_
     rw [hb0]
     refine oI (e' := 3) (kq 88 (.indexAddr 22 (.tmp 85) (.tmp 87))) rfl rfl (hin a0 han) rfl (by kernel_rfl) rfl (by omega) (by omega) ?_
     intro g88 hg88
     try simp only [Int.toNat_natCast]
     refine Sch.free rfl ?_
     refine aN (k0 (.store 3 (.tmp 88) (.const (.int .i64 0)))) rfl (a_storeO (hin a0 han) hg88 (by omega) rfl rfl (by kernel_rfl) (rv_int.2 rfl)) ?_
     rintro _ w14 ⟨rfl, hs, hnew⟩
     refine ⟨trivial, ?_⟩
     clear hor
     clear hinr
     replace hF := hF.st hs
     replace hT := hT.trans hs (by simp <;> omega)
     replace hl := hl.t hs; replace ho := ho.t hs; replace hout := hout.t hs; replace h41 := h41.t hs; replace hx := hx.t hs
     replace hin := fun q hq (hne : q ≠ a0) => (hin q hq).st hs (by simp <;> omega) (by simp <;> omega)
     refine Sch.nil ?_
     refine run_inBlock ?_
     refine run_pl [yy 0, yy 1, yy 2] ?_
     refine yM 37 14 ?_
     refine yV (kq 38 (.binOp .add 3 (.tmp 37) (.const (.int .i64 1)) 3)) (fun _ => val_addi rfl rfl (by omega) (by omega)) ?_
     refine yA 14 38 ?_
     refine Sch.nil ?_
     refine kp (sub_cons 0 rfl rfl (sub_cons 1 rfl rfl (sub_cons 2 rfl rfl (sub_cons 10 rfl rfl (sub_cons 11 rfl rfl (sub_cons 12 rfl rfl (sub_cons 13 rfl rfl (sub_cons 14 rfl (eq_int (by simp)) (sub_nil _))))))))) (next1 (i + 1, zmat wl a0 b0, vw, vf, f0, left, vo, Ck) _ ⟨(by first | omega | (simp only; omega)), (hMx.zmat han b0), (by rw [htk]; exact hleave), hF, hT, hl, ho, (fun q hq => by
         simp only at hq ⊢
         rw [zmat_getD (by rw [hMx.n]; exact han)]
         by_cases e : q = a0
         · subst e; rw [if_pos rfl]; exact hnew
         · rw [if_neg e]; exact hin q hq e), hout⟩ (by first | omega | (simp only; omega)))
  ·
   have hil : i = l.length := by omega
   refine run_ex 0 ?_
   refine run_sq ?_
   refine run_pl [yy 0, yy 1, yy 2, yy 3, yy 4] ?_
   refine yM 89 13 ?_
   refine yM 90 11 ?_
   refine yA 6 89 ?_
   refine yA 7 90 ?_
   refine yAc 8 (.int .i64 0) ?_
   refine Sch.nil ?_
   refine run_ret3 (by kernel_rfl) Try.func20 Try.results20 rfl rfl rfl ?_
   rw [hil, List.take_length] at hRf
   have hfin := hRf.fin hV
   exact ⟨_, by rw [hz, solT_top hz, Int.toNat_natCast, Int.toNat_natCast], (hT.out1 (by intro c hc; simp at hc; omega)), by rw [← hfin]; exact hout.out hT hF0 (Mc_col1 C) (fun b _ => col1_lt C (by decide) b) (by omega)⟩
end Go.Proofs.Ytgooehopkmbkfaa
