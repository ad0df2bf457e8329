/- Steps through functions of the program. -/
import Derived.Test.YtgooehopkmbkfaaJD3
import Derived.Test.YtgooehopkmbkfaaL2
set_option linter.unusedVariables false
set_option linter.unusedSimpArgs false
set_option maxRecDepth 100000
set_option maxHeartbeats 4000000
namespace Go.Proofs.Ytgooehopkmbkfaa
open Go.K Go.K.Rep

namespace F42
noncomputable def c0 := bodyOf Try.f42
noncomputable def c8 := (cl (cl (cr (cr (cr c0)))))
noncomputable def c9 := (cr (cl (cr (cr (cr c0)))))
noncomputable def c19 := (cl (cl (cr (cl (cl c9)))))
noncomputable def c26 := (cl (cl (cl (cr (cr c19)))))
noncomputable def c31 := (cr (cl (cl (cr (cr c19)))))
noncomputable def o11 := rops (cl (cr (cl (cl c31))))
noncomputable def c41 := (cl (cr (cr (cr (cr c0)))))
end F42
/-- The reference's 'costs'. -/
theorem costs_ok {w₀ : World} {C : Nat → Nat} {n m : Nat} {wl : List (List Int)} {vw : Value} (hF : Lim w₀ C) (hw : RV w₀ (Mc C) wl vw) (hwn : wl.length = n) (hwr : ∀ r ∈ wl, r.length = m) (hwB : ∀ r ∈ wl, ∀ x ∈ r, 0 ≤ x ∧ x ≤ 65536) (hn : n ≤ 64) (hm : m ≤ 64) :
    Calls Try.prog 42 #[vw, .int .i64 n, .int .i64 m] w₀ (Ret fun v w' => Stp [] w₀ C w' C ∧ RV w' (Mc C) (sqL n m (wK wl)) v) := by
 have hF0 := hF
 have hT := Stp.refl [2, 3, 4, 5, 6, 7, 8, 9] w₀ (col1 C)
 replace hF := hF.col1
 replace hw : RV w₀ (Mc (col1 C)) wl vw := by rw [Mc_col1]; exact hw
 refine calls_start (c := F42.c0) (N := 54) [vw, .int .i64 n, .int .i64 m] Try.func42 (by kernel_rfl) (by kernel_rfl) (by kernel_rfl) ?_
 show Run _ _ _ _ [(0, vw), (1, .int .i64 n), (2, .int .i64 m)] _ _
 refine run_sq ?_
 refine run_pl [yy 0] ?_
 refine yV (kq 6 (.assign (.const (.slice none 0 0)))) (fun _ => val_assign rfl) ?_
 refine Sch.nil ?_
 refine run_sq ?_
 refine run_pl [yy 0, yy 1, yy 2, yy 3] ?_
 refine yM 11 1 ?_
 refine yM 12 2 ?_
 refine yV (kq 13 (.binOp .add 3 (.tmp 11) (.tmp 12) 3)) (fun _ => val_is (val_addi rfl rfl (by omega) (by omega)) (congrArg (Value.int .i64) (show (n : Int) + (m : Int) = ((n + m : Nat) : Int) from by omega))) ?_
 refine yA 7 13 ?_
 refine Sch.nil ?_
 refine run_sq ?_
 refine run_pl [yy 0, nn 1, yy 2] ?_
 refine yM 14 7 ?_
 refine aS (kq 15 (.makeSlice 70 (.tmp 14) (.tmp 14))) rfl rfl (a_make (e := 22) (bytes := 24) (x0 := (⟨.slice none 0 0⟩ : Sv)) (zs := [.slice none 0 0]) hF (j := 3) (by decide) (by kernel_rfl) (by kernel_rfl) rfl rfl (by omega) (by omega) (by omega) (fun h M => ⟨rfl, rfl⟩)) ?_
 rintro v15 w1 ⟨Cw1, hs, ho, hF⟩
 refine ⟨trivial, ?_⟩
 replace hT := hT.t hs; replace hw := hw.t hs
 rw [svsF_rep] at ho
 refine yA 8 15 ?_
 refine Sch.nil ?_
 refine run_sq ?_
 refine run_sq ?_
 refine run_pl [yy 0] ?_
 refine yAc 9 (.int .i64 0) ?_
 refine Sch.nil ?_
 refine run_bk 0 ?_
 
 refine run_lp (ι := Nat × (Nat → Value) × (Nat → Nat)) (I := fun x w => x.1 ≤ (n + m) ∧ Lim w x.2.2 ∧ Stp [2, 3, 4, 5, 6, 7, 8, 9] w₀ (col1 C) w x.2.2 ∧ RV w (Mc x.2.2) wl vw ∧ OwnL w x.2.2 3 22 v15 (svsF x.2.1 (n + m)) ∧ (∀ q, q < x.1 → RV w (Mc x.2.2) (sqRow n m (wK wl) q) (x.2.1 q))) (e := fun x => [(0, vw), (1, .int .i64 n), (2, .int .i64 m), (7, .int .i64 ((n + m) : Nat)), (8, v15), (9, .int .i64 x.1)]) (m := fun x => (n + m) - x.1) (x₀ := (0, fun _ => .slice none 0 0, Cw1)) (sr 0 (sr 1 (sr 2 (sr 7 (sr 8 (sr 9 (sub_nil _))))))) ?_ ?_
 · exact ⟨Nat.zero_le _, hF, hT, hw, ho, fun q hq => by simp only at hq; omega⟩
 intro ⟨i, vf, C1⟩ w2 hI next
 obtain ⟨hi, hF, hT, hw, ho, hrows⟩ := hI
 try simp only at hi hF hT hw ho hrows
 have next1 := next
 clear next
 show Run _ _ _ _ [(0, vw), (1, .int .i64 n), (2, .int .i64 m), (7, .int .i64 ((n + m) : Nat)), (8, v15), (9, .int .i64 i)] _ _
 have hsl := svsF_len vf (n + m)
 refine run_sq ?_
 refine run_sq ?_
 refine run_pl [yy 0, yy 1, yy 2] ?_
 refine yM 16 9 ?_
 refine yM 17 7 ?_
 refine yV (kq 18 (.binOp .lss 3 (.tmp 16) (.tmp 17) 3)) (fun _ => val_lss rfl rfl) ?_
 refine Sch.nil ?_
 refine run_i 18 rfl (fun h18 => ?_) (fun h18 => ?_)
 ·
  have hil : i < (n + m) := by omega
  refine run_sk ?_
  refine run_sq ?_
  refine run_bk 1 ?_
  refine run_sq ?_
  refine run_pl [yy 0, yy 1, yy 2, nn 3, yy 4, nn 5] ?_
  refine yM 21 8 ?_
  refine yM 22 9 ?_
  refine yM 23 7 ?_
  refine aS (kq 24 (.makeSlice 22 (.tmp 23) (.tmp 23))) rfl rfl (a_make (e := 3) (bytes := 8) (x0 := (0 : Int)) (zs := [.int .i64 0]) hF (j := 4) (by decide) (by kernel_rfl) (by kernel_rfl) rfl rfl (by omega) (by omega) (by omega) (fun h M => zero_int)) ?_
  rintro v24 w3 ⟨Cw3, hs, hin, hF⟩
  refine ⟨trivial, ?_⟩
  replace hT := hT.t hs; replace hw := hw.t hs; replace ho := ho.t hs
  replace hrows := fun k hk => (hrows k hk).st hs (by first | decide | (simp <;> omega))
  refine oI (e' := 22) (kq 25 (.indexAddr 70 (.tmp 21) (.tmp 22))) rfl rfl ho rfl (by kernel_rfl) rfl (by omega) (by omega) ?_
  intro g25 hg25
  try simp only [Int.toNat_natCast]
  refine aN (k0 (.store 22 (.tmp 25) (.tmp 24))) rfl (a_storeO ho hg25 (by omega) rfl rfl (by kernel_rfl) (rv_sv.2 ⟨rfl, hin.one.2⟩)) ?_
  rintro _ w4 ⟨rfl, hs, ho⟩
  refine ⟨trivial, ?_⟩
  replace hF := hF.st hs
  replace hT := hT.t hs; replace hw := hw.t hs
  replace hrows := fun k hk => (hrows k hk).st hs (by first | decide | (simp <;> omega))
  replace hin := hin.t hs
  refine Sch.nil ?_
  rw [svsF_set] at ho
  have hsl2 := svsF_len (updV vf i v24) (n + m)
  have hvi : updV vf i v24 i = v24 := by simp [updV]
  replace hrows : ∀ q, q < i → RV _ _ (sqRow n m (wK wl) q) (updV vf i v24 q) := fun q hq => by rw [show updV vf i v24 q = vf q from by simp [updV]; omega]; exact hrows q hq
  obtain ⟨vg, hvg⟩ : ∃ f, f = updV vf i v24 := ⟨_, rfl⟩
  rw [← hvg] at ho hrows hsl2 hvi
  refine run_sq ?_
  refine run_pl [yy 0] ?_
  refine yAc 10 (.int .i64 0) ?_
  refine Sch.nil ?_
  refine run_bk 2 ?_
  
  refine run_lp (ι := Nat × (List Int) × (Nat → Nat)) (I := fun x w => x.1 ≤ (n + m) ∧ x.2.1.length = (n + m) ∧ (∀ q (hq : q < x.2.1.length), x.2.1[q] = if q < x.1 then sqW n m (wK wl) i q else 0) ∧ Lim w x.2.2 ∧ Stp [2, 3, 4, 5, 6, 7, 8, 9] w₀ (col1 C) w x.2.2 ∧ RV w (Mc x.2.2) wl vw ∧ OwnL w x.2.2 3 22 v15 (svsF vg (n + m)) ∧ (∀ q, q < i → RV w (Mc x.2.2) (sqRow n m (wK wl) q) (vg q)) ∧ OwnL w x.2.2 4 3 v24 x.2.1) (e := fun x => [(0, vw), (1, .int .i64 n), (2, .int .i64 m), (7, .int .i64 ((n + m) : Nat)), (8, v15), (9, .int .i64 i), (10, .int .i64 x.1)]) (m := fun x => (n + m) - x.1) (x₀ := (0, List.replicate (n + m) 0, Cw3)) (sr 0 (sr 1 (sr 2 (sr 7 (sr 8 (sr 9 (sr 10 (sub_nil _)))))))) ?_ ?_
  · exact ⟨Nat.zero_le _, (by simp only; exact List.length_replicate), (fun q hq => by simp only at hq ⊢; rw [List.getElem_replicate, if_neg (by omega)]), hF, hT, hw, ho, hrows, by simpa using hin⟩
  intro ⟨j, ys, C2⟩ w5 hI next
  obtain ⟨hj, hyl, hyv, hF, hT, hw, ho, hrows, hin⟩ := hI
  try simp only at hj hyl hyv hF hT hw ho hrows hin
  have next2 := next
  clear next
  show Run _ _ _ _ [(0, vw), (1, .int .i64 n), (2, .int .i64 m), (7, .int .i64 ((n + m) : Nat)), (8, v15), (9, .int .i64 i), (10, .int .i64 j)] _ _
  refine run_sq ?_
  refine run_sq ?_
  refine run_cut 33 (decide (j < n + m ∧ i < n)) (C2) ?_ ?_
  ·
   intro hcut
   by_cases hA : j < n + m
   ·
    refine run_pl [yy 0, yy 1, yy 2, yy 3, yy 4, yy 5, yy 6, yy 7] ?_
    refine yM 26 10 ?_
    refine yM 27 7 ?_
    refine yV (kq 28 (.binOp .lss 3 (.tmp 26) (.tmp 27) 3)) (fun _ => val_T (val_lss rfl rfl) (by omega)) ?_
    refine yM 29 28 ?_
    refine yMg 30 9 3 true ?_
    refine yMg 31 1 3 true ?_
    refine yV (kg 32 (.binOp .lss 3 (.tmp 30) (.tmp 31) 3) 3 true) (fun _ => val_lss rfl rfl) ?_
    refine yAt 33 29 32 ?_
    exact Sch.nil (hcut _ _ _ (Stp.refl _ _ _) rfl (eq_bool (decide_eq_decide.2 (by omega))) (sk 8))
   ·
    refine run_pl [yy 0, yy 1, yy 2, yy 3, yy 4, yy 5, yy 6, yy 7] ?_
    refine yM 26 10 ?_
    refine yM 27 7 ?_
    refine yV (kq 28 (.binOp .lss 3 (.tmp 26) (.tmp 27) 3)) (fun _ => val_F (val_lss rfl rfl) (by omega)) ?_
    refine yM 29 28 ?_
    refine pX 30 3 true ?_
    refine pX 31 3 true ?_
    refine pX 32 3 true ?_
    refine yAf 33 29 32 ?_
    exact Sch.nil (hcut _ _ _ (Stp.refl _ _ _) rfl (eq_bool (decide_eq_false (fun e => hA e.1)).symm) (sk 8))
  intro w6 hs
  replace hF := hF.st hs
  replace hT := hT.t hs; replace hw := hw.t hs; replace ho := ho.t hs
  replace hrows := fun k hk => (hrows k hk).st hs (by first | decide | (simp <;> omega))
  replace hin := hin.t hs
  refine run_i 33 rfl (fun h33 => ?_) (fun h33 => ?_)
  ·
   obtain ⟨hjl, hin1⟩ := h33
   refine run_sk ?_
   refine run_sq ?_
   refine run_bk 3 ?_
   refine run_sq ?_
   refine run_pl [yy 0, yy 1, yy 2] ?_
   refine yM 36 10 ?_
   refine yM 37 2 ?_
   refine yV (kq 38 (.binOp .lss 3 (.tmp 36) (.tmp 37) 3)) (fun _ => val_lss rfl rfl) ?_
   refine Sch.nil ?_
   refine run_i 38 rfl (fun h38 => ?_) (fun h38 => ?_)
   ·
    have hjm : j < m := by omega
    have hiw : i < wl.length := by omega
    have hrm : (wl[i]'hiw).length = m := hwr _ (List.getElem_mem hiw)
    have hxb := hwB _ (List.getElem_mem hiw) ((wl[i]'hiw)[j]'(by omega)) (List.getElem_mem _)
    have hneg : -((wl[i]'hiw)[j]'(by omega)) = sqW n m (wK wl) i j := by unfold sqW; rw [if_pos ⟨hin1, hjm⟩, wK_at hiw (by omega)]
    refine run_draw (id := 11) (ops := F42.o11) [4] (C2) [yy 0, yy 1, yy 2, yy 3, yy 4, yy 5, yy 6, yy 7, yy 8, yy 9, yy 10, yy 11, yy 12, yy 13, nn 14] Try_mixed (by kernel_rfl) (by kernel_rfl) (by kernel_rfl) ?_
    intro w7 hs
    replace hF := hF.st hs
    replace hT := hT.t hs; replace hw := hw.t hs; replace ho := ho.t hs
    replace hrows := fun k hk => (hrows k hk).st hs (by first | decide | (simp <;> omega))
    replace hin := hin.t hs
    have hR := Stp.refl [4] w7 (C2)
    refine yM 39 8 ?_
    refine yM 40 9 ?_
    refine oI (e' := 22) (kq 41 (.indexAddr 70 (.tmp 39) (.tmp 40))) rfl rfl ho rfl (by kernel_rfl) rfl (by omega) (by omega) ?_
    intro g41 hg41
    try simp only [Int.toNat_natCast]
    refine oS (I := [4]) (kq 42 (.load 22 (.tmp 41))) rfl rfl ho hg41 (fun w' hS => ho.sy hg41 hS) (by omega) (by kernel_rfl) rfl rfl ?_
    intro v42 g42
    try simp only [Int.toNat_natCast] at g42
    obtain ⟨e42, _⟩ := rv_sv.1 g42
    rw [svsF_get, hvi] at e42
    subst e42
    refine yM 43 10 ?_
    refine yM 44 0 ?_
    refine yM 45 9 ?_
    refine iS (e := 22) (kq 46 (.indexAddr 70 (.tmp 44) (.tmp 45))) rfl rfl hw rfl (by kernel_rfl) rfl (by omega) (by omega) ?_
    intro b46 o46 h46
    try simp only [Int.toNat_natCast] at h46
    refine lS (kq 47 (.load 22 (.tmp 46))) rfl rfl (fun w' hS => h46.sy hS) h46 (by kernel_rfl) rfl rfl ?_
    intro v47 g47
    refine yM 48 10 ?_
    refine iS (e := 3) (kq 49 (.indexAddr 22 (.tmp 47) (.tmp 48))) rfl rfl g47 rfl (by kernel_rfl) rfl (by omega) (by omega) ?_
    intro b49 o49 h49
    try simp only [Int.toNat_natCast] at h49
    refine lS (kq 50 (.load 3 (.tmp 49))) rfl rfl (fun w' hS => h49.sy hS) h49 (by kernel_rfl) rfl rfl ?_
    intro v50 g50
    first | (obtain rfl := rv_nat.1 g50) | (obtain rfl := rv_int.1 g50)
    refine yV (kq 51 (.unOp .neg 3 (.tmp 50))) (fun _ => val_is (val_negi rfl (by omega) (by omega)) (congrArg (Value.int .i64) hneg)) ?_
    refine oI (e' := 3) (kq 52 (.indexAddr 22 (.tmp 42) (.tmp 43))) rfl rfl hin rfl (by kernel_rfl) rfl (by omega) (by omega) ?_
    intro g52 hg52
    try simp only [Int.toNat_natCast]
    refine Sch.free rfl ?_
    refine aN (k0 (.store 3 (.tmp 52) (.tmp 51))) rfl (a_storeO hin hg52 (by omega) rfl rfl (by kernel_rfl) (rv_int.2 rfl)) ?_
    rintro _ w8 ⟨rfl, hs, hin⟩
    refine ⟨trivial, ?_⟩
    replace hF := hF.st hs
    replace hT := hT.t hs; replace hw := hw.t hs; replace ho := ho.t hs
    replace hrows := fun k hk => (hrows k hk).st hs (by first | decide | (simp <;> omega))
    replace h46 := h46.t hs; replace g47 := g47.t hs; replace h49 := h49.t hs
    refine Sch.nil ?_
    refine run_inBlock ?_
    refine run_pl [yy 0, yy 1, yy 2] ?_
    refine yM 34 10 ?_
    refine yV (kq 35 (.binOp .add 3 (.tmp 34) (.const (.int .i64 1)) 3)) (fun _ => val_addi rfl rfl (by omega) (by omega)) ?_
    refine yA 10 35 ?_
    refine Sch.nil ?_
    refine kp (sub_cons 0 rfl rfl (sub_cons 1 rfl rfl (sub_cons 2 rfl rfl (sub_cons 7 rfl rfl (sub_cons 8 rfl rfl (sub_cons 9 rfl rfl (sub_cons 10 rfl (eq_int (by simp)) (sub_nil _)))))))) (next2 (j + 1, ys.set j (sqW n m (wK wl) i j), C2) _ ⟨(by first | omega | (simp only; omega)), (by simp only [List.length_set]; exact hyl), (fun q hq => by
        simp only at hq ⊢
        rw [List.getElem_set]
        by_cases e : j = q
        · subst e; rw [if_pos rfl, if_pos (by omega)]
        · rw [if_neg e, hyv q (by simpa using hq)]; simp only [show (q < j + 1) = (q < j) from propext (by omega)]), hF, hT, hw, ho, hrows, hin⟩ (by first | omega | (simp only; omega)))
   ·
    have hz : sqW n m (wK wl) i j = 0 := by unfold sqW; rw [if_neg (by omega)]
    refine run_sk ?_
    refine run_inBlock ?_
    refine run_pl [yy 0, yy 1, yy 2] ?_
    refine yM 34 10 ?_
    refine yV (kq 35 (.binOp .add 3 (.tmp 34) (.const (.int .i64 1)) 3)) (fun _ => val_addi rfl rfl (by omega) (by omega)) ?_
    refine yA 10 35 ?_
    refine Sch.nil ?_
    refine kp (sub_cons 0 rfl rfl (sub_cons 1 rfl rfl (sub_cons 2 rfl rfl (sub_cons 7 rfl rfl (sub_cons 8 rfl rfl (sub_cons 9 rfl rfl (sub_cons 10 rfl (eq_int (by simp)) (sub_nil _)))))))) (next2 (j + 1, ys, C2) _ ⟨(by first | omega | (simp only; omega)), (by first | omega | (simp only; omega)), (fun q hq => by
        simp only at hq ⊢
        rw [hyv q hq]
        by_cases e : j = q
        · subst e; rw [if_neg (by omega), if_pos (by omega), hz]
        · simp only [show (q < j + 1) = (q < j) from propext (by omega)]), hF, hT, hw, ho, hrows, hin⟩ (by first | omega | (simp only; omega)))
  ·
   obtain rfl : ys = sqRow n m (wK wl) i := List.ext_getElem (by rw [hyl, sqRow_len]) (fun q h1 h2 => by
     rw [hyv q h1, sqRow_get]
     split
     · rfl
     · unfold sqW; rw [if_neg (by omega)])
   have hrl := sqRow_len (n := n) (m := m) (wt := wK wl) i
   replace hF := hF.frz 4
   replace hT := hT.frz (n := 4) (fun b => Nat.lt_of_lt_of_le (col1_lt2 C b) (by decide))
   replace hw := hw.frz 4
   replace ho := ho.frzK (n := 4) (by decide)
   replace hrows := fun k hk => (hrows k hk).frz 4
   have hrow_ := hin.frz (n := 4) (by decide) (by omega)
   clear hin
   have hrow := hrow_
   clear hrow_
   refine run_ex 2 ?_
   refine run_inBlock ?_
   refine run_pl [yy 0, yy 1, yy 2] ?_
   refine yM 19 9 ?_
   refine yV (kq 20 (.binOp .add 3 (.tmp 19) (.const (.int .i64 1)) 3)) (fun _ => val_addi rfl rfl (by omega) (by omega)) ?_
   refine yA 9 20 ?_
   refine Sch.nil ?_
   refine kp (sub_cons 0 rfl rfl (sub_cons 1 rfl rfl (sub_cons 2 rfl rfl (sub_cons 7 rfl rfl (sub_cons 8 rfl rfl (sub_cons 9 rfl (eq_int (by simp)) (sub_nil _))))))) (next1 (i + 1, vg, K.frz 4 C2) _ ⟨(by first | omega | (simp only; omega)), hF, hT, hw, ho, (fun q hq => by
       simp only at hq ⊢
       by_cases e : q = i
       · subst e; rw [hvi]; exact hrow
       · exact hrows q (by omega))⟩ (by first | omega | (simp only; omega)))
 ·
  obtain rfl : i = (n + m) := by omega
  refine run_ex 0 ?_
  refine run_sq ?_
  refine run_pl [yy 0, yy 1] ?_
  refine yM 53 8 ?_
  refine yA 6 53 ?_
  refine Sch.nil ?_
  refine run_ret1 (by kernel_rfl) Try.func42 Try.results42 rfl ?_
  exact ⟨hT.out1 (by decide), rv_lists (vf := vf) (by rw [sqL_len]; exact ho.out hT hF0 (Mc_col1 C) (fun b _ => col1_lt C (by decide) b) (by rw [svsF_len]; omega)) (fun q hq => by rw [sqL_len] at hq; rw [sqL_getD hq]; exact (hrows q hq).out hT hF0 (Mc_col1 C))⟩
end Go.Proofs.Ytgooehopkmbkfaa
