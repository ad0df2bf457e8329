/- Steps through functions of the program. -/
import Derived.Test.YtdmgmlmlielfbaaGreatJT2
import Derived.Test.YtdmgmlmlielfbaaGreatL2
import Derived.Test.YtdmgmlmlielfbaaGreatL1
set_option linter.unusedVariables false
set_option linter.unusedSimpArgs false
set_option maxRecDepth 100000
set_option maxHeartbeats 4000000
namespace Go.Proofs.YtdmgmlmlielfbaaGreat
open Go.K Go.K.Rep
noncomputable section
namespace F135
def c0 := bodyOf Tryz.f135
end F135
theorem max_ok {w₀ : World} {M : Nat → Prop} {l : List Int} {vl : Value} (hl : RV w₀ M l vl) (h0 : 0 < l.length) : Calls Tryz.prog 135 #[vl] w₀ (Ret fun v w' => ∃ z : Int, v = .int .i64 z ∧ w' = w₀ ∧ (∀ q (hq : q < l.length), l[q] ≤ z) ∧ ∃ q, ∃ hq : q < l.length, l[q] = z) := by
 have hll := hl.le
 refine c_st F135.c0 25 [vl] Tryz.func135 ?_
 show Run _ _ _ _ [(0, vl)] _ _
 refine run_sq (run_pl [yy 0] ?_)
 refine yAc 2 (.int .i64 0) ?_
 refine Sch.nil (run_sq (run_sq (run_pl [yy 0, yy 1, yy 2] ?_)))
 refine yM 5 0 ?_
 refine yS (kq 6 (.call { callee := .builtin .len, args := #[(.tmp 5)], argTypes := #[22] })) rfl rfl (fun w' hS => hl.lenV rfl Tryz.underlying22 w' ) ?_
 refine yV (kq 7 (.binOp .lss 3 (.tmp 6) (.const (.int .i64 1)) 3)) (fun _ => val_lss rfl rfl) ?_
 refine Sch.nil ?_
 refine run_i 7 rfl (fun h7 => ?_) (fun h7 => ?_)
 ·
  omega
 refine run_sk (run_sq (run_pl [yy 0, yy 1, nn 2, yy 3] ?_))
 refine yM 9 0 ?_
 refine iS (e := 3) (kq 10 (.indexAddr 22 (.tmp 9) (.const (.int .i64 0)))) rfl rfl hl rfl (by kernel_rfl) rfl (by omega) (by omega) ?_
 intro b10 o10 h10
 try simp only [Int.toNat_natCast] at h10
 try simp only [show (0 : Int).toNat = 0 from rfl] at h10
 refine lN (kq 11 (.load 3 (.tmp 10))) rfl rfl trivial h10 (by kernel_rfl) rfl rfl ?_
 intro v11 g11
 first | (obtain rfl := rv_nat.1 g11) | (obtain rfl := rv_int.1 g11)
 refine yA 3 11 ?_
 refine Sch.nil (run_sq (run_sq (run_pl [yy 0] ?_)))
 refine yAc 4 (.int .i64 1) ?_
 refine Sch.nil (run_bk 0 ?_)
 refine run_lp (ι := Nat × Int) (I := fun x w => 1 ≤ x.1 ∧ x.1 ≤ l.length ∧ (∀ q, q < x.1 → ∀ hq : q < l.length, l[q] ≤ x.2) ∧ (∃ q, ∃ hq : q < l.length, l[q] = x.2) ∧ w = w₀ ∧ RV w M l vl) (e := fun x => [(0, vl), (3, .int .i64 x.2), (4, .int .i64 x.1)]) (m := fun x => l.length - x.1) (x₀ := (1, l[0]'(by omega))) (sr 0 (sr 3 (sr 4 (sub_nil _)))) ?_ ?_
 · exact ⟨Nat.le_refl _, (by simp only; omega), (fun q hq hl => by simp only at hq ⊢; obtain rfl : q = 0 := (by omega); exact Int.le_refl _), ⟨0, by omega, rfl⟩, rfl, hl⟩
 intro ⟨i, z⟩ w1 hI next1
 obtain ⟨hi1, hi, hz1, hz2, rfl, hl⟩ := hI
 try simp only at hi1 hi hz1 hz2 hl
 show Run _ _ _ _ [(0, vl), (3, .int .i64 z), (4, .int .i64 i)] _ _
 have hle := hl.le
 refine run_sq (run_sq (run_pl [yy 0, yy 1, yy 2, yy 3] ?_))
 refine yM 12 4 ?_
 refine yM 13 0 ?_
 refine yS (kq 14 (.call { callee := .builtin .len, args := #[(.tmp 13)], argTypes := #[22] })) rfl rfl (fun w' hS => hl.lenV rfl Tryz.underlying22 w' ) ?_
 refine yL 15 3 12 14 ?_
 refine Sch.nil ?_
 refine run_i 15 rfl (fun h15 => ?_) (fun h15 => ?_)
 ·
  have hil : i < l.length := by omega
  refine run_sk (run_sq (run_bk 1 (run_pl [yy 0, yy 1, yy 2, yy 3, nn 4, yy 5, yy 6] ?_)))
  refine yM 18 3 ?_
  refine yM 19 0 ?_
  refine yM 20 4 ?_
  refine iR 3 21 22 19 20 hl rfl (h := ?_)
  intro b21 o21 h21
  try simp only [Int.toNat_natCast] at h21
  refine lN (kq 22 (.load 3 (.tmp 21))) rfl rfl trivial h21 (by kernel_rfl) rfl rfl ?_
  intro v22 g22
  first | (obtain rfl := rv_nat.1 g22) | (obtain rfl := rv_int.1 g22)
  refine yV (kq 23 (.call { callee := .builtin .max, args := #[(.tmp 18), (.tmp 22)], argTypes := #[3, 3] })) (fun _ => val_max rfl rfl Tryz.underlying3) ?_
  refine yA 3 23 ?_
  refine Sch.nil (run_inBlock (run_pl [yy 0, yy 1, yy 2] ?_))
  refine yM 16 4 ?_
  refine yI 17 3 16 1 ?_
  refine yA 4 17 ?_
  refine Sch.nil ?_
  refine kp (sub_cons 0 rfl rfl (sub_cons 3 rfl rfl (sub_cons 4 rfl (eq_int (by simp)) (sub_nil _)))) (next1 (i + 1, max z l[i]) _ ⟨(by first | omega | (simp only; omega)), (by first | omega | (simp only; omega)), (fun q hq hl => by
       simp only at hq ⊢
       by_cases e : q = i
       · subst e; exact Int.le_max_right _ _
       · exact Int.le_trans (hz1 q (by omega) hl) (Int.le_max_left _ _)), (by
       obtain ⟨q, hq, e⟩ := hz2
       rcases Int.le_total z l[i] with h1 | h1
       · exact ⟨i, hil, (Int.max_eq_right h1).symm⟩
       · exact ⟨q, hq, e.trans (Int.max_eq_left h1).symm⟩), rfl, hl⟩ (by first | omega | (simp only; omega)))
 have hil : i = l.length := by omega
 subst hil
 refine run_ex 0 ?_
 refine run_sq (run_pl [yy 0, yy 1] ?_)
 refine yM 24 3 ?_
 refine yA 2 24 ?_
 refine Sch.nil ?_
 refine rt1 Tryz.func135 Tryz.results135 ?_
 exact ⟨z, rfl, rfl, fun q hq => hz1 q hq hq, hz2⟩
namespace F133
def c0 := bodyOf Tryz.f133
def c9 := (cr (cl (cr (cr (cr c0)))))
def c18 := (cl (cr (cr (cl (cl c9)))))
def c26 := (cl (cr (cr (cr (cl c18)))))
def c35 := (cl (cl (cr (cr (cl c26)))))
def o11 := rops (cl (cr (cr c35)))
end F133
theorem padded_ok {w₀ : World} {C : Nat → Nat} {n m fw : Nat} {cap : Array Value} {wt : Nat → Nat → Int} (hF : Lim w₀ C) (hn : n ≤ 100000) (hm : m ≤ 100000) (hcall : ∀ args w, (callFunc fw args).run Tryz.prog w = .ok (.enter fw args) w) (hwt : ∀ w1, Stp [] w₀ C w1 C → ∀ i j : Nat, i < n → j < m → Calls Tryz.prog fw ([Value.int .i64 i, Value.int .i64 j] ++ cap.toList).toArray w1 (Ret fun v w2 => v = .int .i64 (wt i j) ∧ Stp [] w1 C w2 C)) :
    Calls Tryz.prog 133 #[.int .i64 n, .int .i64 m, .func (.func fw) #[] cap] w₀ (Ret fun v w' => Stp [] w₀ C w' C ∧ RV w' (Mc C) (wmL n m wt) v) := by
 have hF0 := hF
 have hT := Stp.refl [2, 3, 4, 5, 6, 7, 8, 9] w₀ (col1 C)
 replace hF := hF.col1
 refine c_st F133.c0 52 [.int .i64 n, .int .i64 m, .func (.func fw) #[] cap] Tryz.func133 ?_
 show Run _ _ _ _ [(0, .int .i64 n), (1, .int .i64 m), (2, .func (.func fw) #[] cap)] _ _
 refine run_sq (run_pl [yy 0] ?_)
 refine yV (kq 6 (.assign (.const (.slice none 0 0)))) (fun _ => val_assign rfl) ?_
 refine Sch.nil (run_sq (run_pl [yy 0, yy 1, yy 2, yy 3] ?_))
 refine yM 11 0 ?_
 refine yM 12 1 ?_
 refine yV (kq 13 (.call { callee := .builtin .max, args := #[(.tmp 11), (.tmp 12)], argTypes := #[3, 3] })) (fun _ => val_is (val_max rfl rfl Tryz.underlying3) (congrArg (Value.int .i64) (show max (n : Int) (m : Int) = ((max n m : Nat) : Int) from by omega))) ?_
 refine yA 7 13 ?_
 refine Sch.nil (run_sq (run_pl [yy 0, nn 1, yy 2] ?_))
 refine yM 14 7 ?_
 refine aT (kq 15 (.makeSlice 158 (.tmp 14) (.tmp 14))) rfl rfl (a_make (e := 22) (bytes := 24) (x0 := (⟨.slice none 0 0⟩ : Sv)) (zs := [.slice none 0 0]) hF (j := 3) (by decide) (by kernel_rfl) (by kernel_rfl) rfl rfl (by omega) (by omega) (by omega) (fun h M => ⟨rfl, rfl⟩)) ?_
 rintro v15 w1 ⟨Cw1, s_1, ho, hF⟩
 rw [svsF_rep] at ho
 refine yA 8 15 ?_
 refine Sch.nil (run_sq (run_sq (run_pl [yy 0, yy 1, yy 2] ?_)))
 refine yM 16 8 ?_
 refine yS (kq 17 (.call { callee := .builtin .len, args := #[(.tmp 16)], argTypes := #[158] })) rfl rfl (fun w' hS => ho.lenV rfl Tryz.underlying158 w' ) ?_
 refine yC 18 (.int .i64 0) ?_
 refine Sch.nil (run_bk 0 ?_)
 refine run_lp (ι := Nat × (Nat → Value) × (Nat → Nat)) (I := fun x w => x.1 ≤ (max n m) ∧ Lim w x.2.2 ∧ Stp [2, 3, 4, 5, 6, 7, 8, 9] w₀ (col1 C) w x.2.2 ∧ OwnL w x.2.2 3 22 v15 (svsF x.2.1 (max n m)) ∧ (∀ q, q < x.1 → RV w (Mc x.2.2) (rowW n m wt q) (x.2.1 q))) (e := fun x => [(0, .int .i64 n), (1, .int .i64 m), (2, .func (.func fw) #[] cap), (7, .int .i64 ((max n m) : Nat)), (8, v15), (17, .int .i64 (svsF (fun _ => Value.slice none 0 0) (max n m)).length), (18, .int .i64 x.1)]) (m := fun x => (max n m) - x.1) (x₀ := (0, fun _ => .slice none 0 0, Cw1)) (sr 0 (sr 1 (sr 2 (sr 7 (sr 8 (sr 17 (sr 18 (sub_nil _)))))))) ?_ ?_
 ·
   replace hT := hT.t s_1
   exact ⟨Nat.zero_le _, hF, hT, ho, fun q hq => by simp only at hq; omega⟩
 intro ⟨i, vf, C1⟩ w2 hI next1
 obtain ⟨hi, hF, hT, ho, hrows⟩ := hI
 try simp only at hi hF hT ho hrows
 show Run _ _ _ _ [(0, .int .i64 n), (1, .int .i64 m), (2, .func (.func fw) #[] cap), (7, .int .i64 ((max n m) : Nat)), (8, v15), (17, .int .i64 (svsF (fun _ => Value.slice none 0 0) (max n m)).length), (18, .int .i64 i)] _ _
 have hsl := svsF_len vf (max n m)
 have hsl0 := svsF_len (fun _ => Value.slice none 0 0) (max n m)
 refine run_sq (run_pl [yy 0] ?_)
 refine yL 19 3 18 17 ?_
 refine Sch.nil (run_sq ?_)
 refine run_i 19 rfl (fun h19 => ?_) (fun h19 => ?_)
 ·
  have hil : i < (max n m) := by omega
  refine run_sk (run_sq (run_bk 1 (run_sq (run_pl [yy 0, yy 1] ?_))))
  refine yM 20 18 ?_
  refine yA 9 20 ?_
  refine Sch.nil (run_sq (run_pl [yy 0, yy 1, yy 2, nn 3, yy 4, nn 5] ?_))
  refine yM 21 8 ?_
  refine yM 22 9 ?_
  refine yM 23 7 ?_
  refine aT (kq 24 (.makeSlice 22 (.tmp 23) (.tmp 23))) rfl rfl (a_make (e := 3) (bytes := 8) (x0 := (0 : Int)) (zs := [.int .i64 0]) hF (j := 4) (by decide) (by kernel_rfl) (by kernel_rfl) rfl rfl (by omega) (by omega) (by omega) (fun h M => zero_int)) ?_
  rintro v24 w3 ⟨Cw3, s_2, hin, hF⟩
  replace hrows := fun k hk => (hrows k hk).st s_2 (by first | decide | (simp <;> omega))
  replace ho := ho.t s_2
  refine oR 22 25 158 21 22 ho rfl (by omega) (h := ?_)
  intro g25 hg25
  try simp only [Int.toNat_natCast]
  refine aU (k0 (.store 22 (.tmp 25) (.tmp 24))) rfl (a_storeO ho hg25 (by omega) rfl rfl (by kernel_rfl) (rv_sv.2 ⟨rfl, hin.one.2⟩)) ?_
  rintro _ w4 ⟨rfl, s_3, ho⟩
  replace hrows := fun k hk => (hrows k hk).st s_3 (by first | decide | (simp <;> omega))
  refine Sch.nil ?_
  rw [svsF_set] at ho
  have hsl2 := svsF_len (updV vf i v24) (max n m)
  have hvi : updV vf i v24 i = v24 := by simp [updV]
  replace hrows : ∀ q, q < i → RV _ _ (rowW n m wt q) (updV vf i v24 q) := fun q hq => by rw [show updV vf i v24 q = vf q from by simp [updV]; omega]; exact hrows q hq
  obtain ⟨vg, hvg⟩ : ∃ f, f = updV vf i v24 := ⟨_, rfl⟩
  rw [← hvg] at ho hrows hsl2 hvi
  refine run_sq (run_pl [yy 0, yy 1] ?_)
  refine yM 26 7 ?_
  refine yC 27 (.int .i64 0) ?_
  refine Sch.nil (run_bk 2 ?_)
  refine run_lp (ι := Nat × (List Int) × (Nat → Nat)) (I := fun x w => x.1 ≤ (max n m) ∧ x.2.1.length = (max n m) ∧ (∀ q (hq : q < x.2.1.length), x.2.1[q] = if q < x.1 then padW n m wt i q else 0) ∧ Lim w x.2.2 ∧ Stp [2, 3, 4, 5, 6, 7, 8, 9] w₀ (col1 C) w x.2.2 ∧ OwnL w x.2.2 3 22 v15 (svsF vg (max n m)) ∧ (∀ q, q < i → RV w (Mc x.2.2) (rowW n m wt q) (vg q)) ∧ OwnL w x.2.2 4 3 v24 x.2.1) (e := fun x => [(0, .int .i64 n), (1, .int .i64 m), (2, .func (.func fw) #[] cap), (7, .int .i64 ((max n m) : Nat)), (8, v15), (9, .int .i64 i), (17, .int .i64 (svsF (fun _ => Value.slice none 0 0) (max n m)).length), (18, .int .i64 i), (26, .int .i64 ((max n m) : Nat)), (27, .int .i64 x.1)]) (m := fun x => (max n m) - x.1) (x₀ := (0, List.replicate (max n m) 0, Cw3)) (sr 0 (sr 1 (sr 2 (sr 7 (sr 8 (sr 9 (sr 17 (sr 18 (sr 26 (sr 27 (sub_nil _))))))))))) ?_ ?_
  ·
    replace hT := (hT.t s_2).t s_3; replace hF := hF.st s_3; replace hin := hin.t s_3
    exact ⟨Nat.zero_le _, (by simp only; exact List.length_replicate), (fun q hq => by simp only at hq ⊢; rw [List.getElem_replicate, if_neg (by omega)]), hF, hT, ho, hrows, by simpa using hin⟩
  intro ⟨j, ys, C2⟩ w5 hI next2
  obtain ⟨hj, hyl, hyv, hF, hT, ho, hrows, hin⟩ := hI
  try simp only at hj hyl hyv hF hT ho hrows hin
  show Run _ _ _ _ [(0, .int .i64 n), (1, .int .i64 m), (2, .func (.func fw) #[] cap), (7, .int .i64 ((max n m) : Nat)), (8, v15), (9, .int .i64 i), (17, .int .i64 (svsF (fun _ => Value.slice none 0 0) (max n m)).length), (18, .int .i64 i), (26, .int .i64 ((max n m) : Nat)), (27, .int .i64 j)] _ _
  refine run_sq (run_pl [yy 0] ?_)
  refine yL 28 3 27 26 ?_
  refine Sch.nil (run_sq ?_)
  refine run_i 28 rfl (fun h28 => ?_) (fun h28 => ?_)
  ·
   have hjl : j < (max n m) := by omega
   refine run_sk (run_sq (run_bk 3 (run_sq (run_pl [yy 0, yy 1] ?_))))
   refine yM 29 27 ?_
   refine yA 10 29 ?_
   refine Sch.nil (run_sq ?_)
   refine run_cut 37 (decide (i < n ∧ j < m)) (C2) ?_ ?_
   ·
    intro hcut
    by_cases hA : (i : Int) < n
    ·
     refine run_pl [yy 0, yy 1, yy 2, yy 3, yy 4, yy 5, yy 6, yy 7] ?_
     refine yM 30 9 ?_
     refine yM 31 0 ?_
     refine yV (kq 32 (.binOp .lss 3 (.tmp 30) (.tmp 31) 3)) (fun _ => val_T (val_lss rfl rfl) hA) ?_
     refine yM 33 32 ?_
     refine yMg 34 10 3 true ?_
     refine yMg 35 1 3 true ?_
     refine yV (kg 36 (.binOp .lss 3 (.tmp 34) (.tmp 35) 3) 3 true) (fun _ => val_lss rfl rfl) ?_
     refine yAt 37 33 36 ?_
     exact Sch.nil (hcut _ _ _ (Stp.refl _ _ _) rfl (by congr 1; apply decide_eq_decide.2; omega) (sk 8))
    refine run_pl [yy 0, yy 1, yy 2, yy 3, yy 4, yy 5, yy 6, yy 7] ?_
    refine yM 30 9 ?_
    refine yM 31 0 ?_
    refine yV (kq 32 (.binOp .lss 3 (.tmp 30) (.tmp 31) 3)) (fun _ => val_F (val_lss rfl rfl) hA) ?_
    refine yM 33 32 ?_
    refine pX 34 3 true ?_
    refine pX 35 3 true ?_
    refine pX 36 3 true ?_
    refine yAf 37 33 36 ?_
    exact Sch.nil (hcut _ _ _ (Stp.refl _ _ _) rfl (by rw [decide_eq_false (by omega)]) (sk 8))
   intro w6 s_4
   replace hrows := fun k hk => (hrows k hk).st s_4 (by first | decide | (simp <;> omega))
   refine run_i 37 rfl (fun h37 => ?_) (fun h37 => ?_)
   ·
    have hpw : padW n m wt i j = max (wt i j) 0 := by unfold padW pos; rw [if_pos h37]
    refine run_draw (id := 11) (ops := F133.o11) [4] (C2) [yy 0, yy 1, yy 2, yy 3, yy 4, yy 5, yy 6, yy 7, nn 8, yy 9, yy 10, nn 11] Tryz_mixed (by kernel_rfl) (by kernel_rfl) (by kernel_rfl) ?_
    intro w7 s_5
    replace hrows := fun k hk => (hrows k hk).st s_5 (by first | decide | (simp <;> omega))
    have hR := Stp.refl [4] w7 (C2)
    refine yM 38 8 ?_
    refine yM 39 9 ?_
    replace ho := (ho.t s_4).t s_5
    refine oR 22 40 158 38 39 ho rfl (by omega) (h := ?_)
    intro g40 hg40
    try simp only [Int.toNat_natCast]
    refine oS (I := [4]) (kq 41 (.load 22 (.tmp 40))) rfl rfl ho hg40 (fun w' hS => ho.sy hg40 hS) (by omega) (by kernel_rfl) rfl rfl ?_
    intro v41 g41
    try simp only [Int.toNat_natCast] at g41
    obtain ⟨e41, _⟩ := rv_sv.1 g41
    rw [svsF_get, hvi] at e41
    subst e41
    refine yM 42 10 ?_
    refine yM 43 2 ?_
    refine yM 44 9 ?_
    refine yM 45 10 ?_
    replace hT := (hT.t s_4).t s_5
    refine cS (kq 46 (.call { callee := .value (.tmp 43), args := #[(.tmp 44), (.tmp 45)], argTypes := #[3, 3] })) rfl rfl (enters_func hcall rfl rfl) (hwt _ (hT.out1 (by decide)) i j h37.1 h37.2) ?_
    rintro vw8 w8 ⟨rfl, hs0⟩
    have s_6 := hs0.unfrz (C2)
    refine ⟨(hR.trans s_6 (by simp)).ext, ?_⟩
    replace hrows := fun k hk => (hrows k hk).st s_6 (by first | decide | (simp <;> omega))
    refine yV (kq 47 (.call { callee := .builtin .max, args := #[(.tmp 46), (.const (.int .i64 0))], argTypes := #[3, 3] })) (fun _ => val_is (val_max rfl rfl Tryz.underlying3) (congrArg (Value.int .i64) hpw.symm)) ?_
    replace hin := ((hin.t s_4).t s_5).t s_6
    refine oR 3 48 22 41 42 hin rfl (by omega) (h := ?_)
    intro g48 hg48
    try simp only [Int.toNat_natCast]
    refine Sch.free rfl ?_
    refine aU (k0 (.store 3 (.tmp 48) (.tmp 47))) rfl (a_storeO hin hg48 (by omega) rfl rfl (by kernel_rfl) (rv_int.2 rfl)) ?_
    rintro _ w9 ⟨rfl, s_7, hin⟩
    replace hrows := fun k hk => (hrows k hk).st s_7 (by first | decide | (simp <;> omega))
    refine Sch.nil (run_inBlock (run_pl [yy 0, yy 1] ?_))
    refine yI 49 3 27 1 ?_
    refine yM 27 49 ?_
    refine Sch.nil ?_
    replace hF := (((hF.st s_4).st s_5).st s_6).st s_7; replace hT := (hT.t s_6).t s_7; replace ho := (ho.t s_6).t s_7
    refine kp (sub_cons 0 rfl rfl (sub_cons 1 rfl rfl (sub_cons 2 rfl rfl (sub_cons 7 rfl rfl (sub_cons 8 rfl rfl (sub_cons 9 rfl rfl (sub_cons 17 rfl rfl (sub_cons 18 rfl rfl (sub_cons 26 rfl rfl (sub_cons 27 rfl (eq_int (by simp)) (sub_nil _))))))))))) (next2 (j + 1, ys.set j (padW n m wt i j), C2) _ ⟨(by first | omega | (simp only; omega)), (by simp only [List.length_set]; exact hyl), (fun q hq => by
        simp only at hq ⊢
        rw [List.getElem_set]
        by_cases e : j = q
        · subst e; rw [if_pos rfl, if_pos (by omega)]
        · rw [if_neg e, hyv q (by simpa using hq)]; simp only [show (q < j + 1) = (q < j) from propext (by omega)]), hF, hT, ho, hrows, hin⟩ (by first | omega | (simp only; omega)))
   have hpw : padW n m wt i j = 0 := by unfold padW; rw [if_neg h37]
   refine run_sk (run_inBlock (run_pl [yy 0, yy 1] ?_))
   refine yI 49 3 27 1 ?_
   refine yM 27 49 ?_
   refine Sch.nil ?_
   replace hF := hF.st s_4; replace hT := hT.t s_4; replace ho := ho.t s_4; replace hin := hin.t s_4
   refine kp (sub_cons 0 rfl rfl (sub_cons 1 rfl rfl (sub_cons 2 rfl rfl (sub_cons 7 rfl rfl (sub_cons 8 rfl rfl (sub_cons 9 rfl rfl (sub_cons 17 rfl rfl (sub_cons 18 rfl rfl (sub_cons 26 rfl rfl (sub_cons 27 rfl (eq_int (by simp)) (sub_nil _))))))))))) (next2 (j + 1, ys, C2) _ ⟨(by first | omega | (simp only; omega)), (by first | omega | (simp only; omega)), (fun q hq => by
        simp only at hq ⊢
        rw [hyv q hq]
        by_cases e : j = q
        · subst e; rw [if_neg (by omega), if_pos (by omega), hpw]
        · simp only [show (q < j + 1) = (q < j) from propext (by omega)]), hF, hT, ho, hrows, hin⟩ (by first | omega | (simp only; omega)))
  have hjl : j = (max n m) := by omega
  subst hjl
  obtain rfl : ys = rowW n m wt i := List.ext_getElem (by rw [hyl, rowW_len]) (fun q h1 h2 => by rw [hyv q h1, if_pos (by omega), rowW_get])
  have hrl := rowW_len (n := n) (m := m) (wt := wt) i
  replace hF := hF.frz 4
  replace hT := hT.frz (n := 4) (fun b => Nat.lt_of_lt_of_le (col1_lt2 C b) (by decide))
  replace ho := ho.frzK (n := 4) (by decide)
  replace hrows := fun k hk => (hrows k hk).frz 4
  have hrow_ := hin.frz (n := 4) (by decide) (by omega)
  clear hin
  have hrow := hrow_
  clear hrow_
  refine run_ex 2 ?_
  refine run_inBlock (run_pl [yy 0, yy 1] ?_)
  refine yI 50 3 18 1 ?_
  refine yM 18 50 ?_
  refine Sch.nil ?_
  refine kp (sub_cons 0 rfl rfl (sub_cons 1 rfl rfl (sub_cons 2 rfl rfl (sub_cons 7 rfl rfl (sub_cons 8 rfl rfl (sub_cons 17 rfl rfl (sub_cons 18 rfl (eq_int (by simp)) (sub_nil _)))))))) (next1 (i + 1, vg, K.frz 4 C2) _ ⟨(by first | omega | (simp only; omega)), hF, hT, ho, (fun q hq => by
       simp only at hq ⊢
       by_cases e : q = i
       · subst e; rw [hvi]; exact hrow
       · exact hrows q (by omega))⟩ (by first | omega | (simp only; omega)))
 have hil : i = (max n m) := by omega
 subst hil
 refine run_ex 0 ?_
 refine run_sq (run_pl [yy 0, yy 1] ?_)
 refine yM 51 8 ?_
 refine yA 6 51 ?_
 refine Sch.nil ?_
 refine rt1 Tryz.func133 Tryz.results133 ?_
 exact ⟨hT.out1 (by decide), rv_lists (vf := vf) (by rw [wmL_len]; exact ho.out hT hF0 (Mc_col1 C) (fun b _ => col1_lt C (by decide) b) (by rw [svsF_len]; omega)) (fun q hq => by rw [wmL_len] at hq; rw [wmL_getD hq]; exact (hrows q hq).out hT hF0 (Mc_col1 C))⟩
end
end Go.Proofs.YtdmgmlmlielfbaaGreat
