/- Steps through functions of the program. -/
import Derived.Test.YtdmgmlmlielfbaaGreatJC1
set_option linter.unusedVariables false
set_option linter.unusedSimpArgs false
set_option maxRecDepth 100000
set_option maxHeartbeats 4000000
namespace Go.Proofs.YtdmgmlmlielfbaaGreat
open Go.K Go.K.Rep
noncomputable section
namespace F92
def c0 := bodyOf Tryz.f92
def c14 := (cl (cr (cl (cr (cr c0)))))
def c23 := (cl (cl (cr (cr (cl c14)))))
def c34 := (cr (cr (cr (cl (cr c23)))))
def o10 := rops (cl (cr c34))
end F92
theorem check_ok {w₀ : World} {C : Nat → Nat} {l : List Bond} {vl : Value} (hF : Lim w₀ C) (hl : RV w₀ (Mc C) l vl) : Calls Tryz.prog 92 #[vl] w₀ (Ret fun v w' => v = .int .i64 (checkS l) ∧ Stp [] w₀ C w' C) := by
 have hF0 := hF
 have hT := Stp.refl [2, 3, 4, 5, 6, 7, 8, 9] w₀ (col1 C)
 replace hF := hF.col1
 replace hl := hl.c1
 refine c_st F92.c0 55 [vl] Tryz.func92 ?_
 show Run _ _ _ _ [(0, vl)] _ _
 refine run_sq (run_pl [yy 0] ?_)
 refine yAc 2 (.int .i64 0) ?_
 refine Sch.nil (run_sq (run_sq (run_pl [yy 0, yy 1, yy 2] ?_)))
 refine yM 5 0 ?_
 refine yS (kq 6 (.call { callee := .builtin .len, args := #[(.tmp 5)], argTypes := #[23] })) rfl rfl (fun w' hS => hl.lenV rfl Tryz.underlying23 w' ) ?_
 refine yV (kq 7 (.binOp .gtr 3 (.tmp 6) (.const (.int .i64 4096)) 3)) (fun _ => val_gtr rfl rfl) ?_
 refine Sch.nil ?_
 refine run_i 7 rfl (fun h7 => ?_) (fun h7 => ?_)
 ·
  refine run_sq (run_pl [yy 0] ?_)
  refine yAc 2 (.int .i64 1) ?_
  refine Sch.nil ?_
  refine rt1 Tryz.func92 Tryz.results92 ?_
  exact ⟨by rw [checkS_lim (by omega)], hT.out1 (by decide)⟩
 have hlim : l.length ≤ 4096 := by omega
 refine run_sk (run_sq (run_sq (run_pl [yy 0, yy 1, yy 2] ?_)))
 refine yM 8 0 ?_
 refine yS (kq 9 (.call { callee := .builtin .len, args := #[(.tmp 8)], argTypes := #[23] })) rfl rfl (fun w' hS => hl.lenV rfl Tryz.underlying23 w' ) ?_
 refine yC 10 (.int .i64 0) ?_
 refine Sch.nil (run_bk 0 ?_)
 refine run_lp (ι := Nat × (Nat → Nat)) (I := fun x w => x.1 ≤ l.length ∧ (∀ k, k < x.1 → errAt l k = 0) ∧ Lim w x.2 ∧ Stp [2, 3, 4, 5, 6, 7, 8, 9] w₀ (col1 C) w x.2 ∧ RV w (Mc x.2) l vl) (e := fun x => [(0, vl), (8, vl), (9, .int .i64 l.length), (10, .int .i64 x.1)]) (m := fun x => l.length - x.1) (x₀ := (0, col1 C)) (sr 0 (sr 8 (sr 9 (sr 10 (sub_nil _))))) ?_ ?_
 · exact ⟨Nat.zero_le _, fun k hk => by simp at hk, hF, hT, hl⟩
 intro ⟨i, C1⟩ w1 hI next1
 obtain ⟨hi, h0, hF, hT, hl⟩ := hI
 try simp only at hi h0 hF hT hl
 show Run _ _ _ _ [(0, vl), (8, vl), (9, .int .i64 l.length), (10, .int .i64 i)] _ _
 refine run_sq (run_pl [yy 0] ?_)
 refine yL 11 3 10 9 ?_
 refine Sch.nil (run_sq ?_)
 refine run_i 11 rfl (fun h11 => ?_) (fun h11 => ?_)
 ·
  have hil : i < l.length := by omega
  have hE := errAt_val hil
  refine run_sk (run_sq (run_bk 1 (run_sq (run_pl [yy 0, yy 1, nn 2, nn 3, yy 4, nn 5] ?_))))
  refine yM 12 10 ?_
  refine iR 49 13 23 8 10 hl rfl (h := ?_)
  intro b13 o13 h13
  try simp only [Int.toNat_natCast] at h13
  refine lNA (kq 14 (.load 49 (.tmp 13))) rfl rfl trivial h13 (by kernel_rfl) (by kernel_rfl) rfl rfl ?_
  intro v14 g14
  obtain rfl := rv_bond.1 g14
  refine aT (kq 4 (.alloc 49)) rfl rfl (a_alloc (cs := [.int .i64 0, .int .i64 0, .int .i64 0, .int .i64 0, .int .i64 0]) hF 4 (by kernel_rfl)) ?_
  rintro _ w2 ⟨Cw2, bw2, rfl, s_1, hx, hF⟩
  refine yA 3 12 ?_
  refine aU (k0 (.store 49 (.tmp 4) (.tmp 14))) rfl (a_storeAll (vs := encB (l[i]'hil)) (n := 5) rfl rfl (by kernel_rfl) rfl rfl (by intro u hu; simp only [encB, List.mem_cons, List.not_mem_nil, or_false] at hu; rcases hu with rfl | rfl | rfl | rfl | rfl <;> rfl) hx rfl) ?_
  rintro _ w3 ⟨rfl, s_2, hx⟩
  refine Sch.nil (run_bk 2 (run_sq (run_pl [yy 0, nn 1, yy 2, nn 3, nn 4, yy 5, yy 6] ?_)))
  refine yF 16 49 4 0 0 ?_
  refine nS (kq 17 (.load 47 (.tmp 16))) rfl rfl trivial (val_loadOwnAgg (n := 2) (vs := encR (l[i]'hil).A) hx.at_ (by kernel_rfl) (by kernel_rfl) rfl rfl rfl) ?_
  refine yF 18 49 4 1 2 ?_
  refine nS (kq 19 (.load 47 (.tmp 18))) rfl rfl trivial (val_loadOwnAgg (n := 2) (vs := encR (l[i]'hil).B) hx.at_ (by kernel_rfl) (by kernel_rfl) rfl rfl rfl) ?_
  replace hF := hF.st s_2
  refine cG 20 129 [17, 19] [47, 47] Tryz.call129 rfl (couple_ok (x := (l[i]'hil).A) (y := (l[i]'hil).B) hF) ?_
  rintro vw4 w4 ⟨rfl, s_3⟩
  refine yV (kq 21 (.unOp .not 4 (.tmp 20))) (fun _ => val_not rfl) ?_
  refine yA 15 21 ?_
  refine Sch.nil ?_
  refine run_c 15 rfl (fun h15 => ?_) (fun h15 => ?_)
  ·
   refine run_sq (run_pl [yy 0] ?_)
   refine yAc 2 (.int .i64 41) ?_
   refine Sch.nil ?_
   refine rt1 Tryz.func92 Tryz.results92 ?_
   rw [if_pos (by simpa using h15)] at hE
   replace hT := ((hT.t s_1).t s_2).t s_3
   exact ⟨by rw [checkS_at hlim hil h0 (by rw [hE]; decide), hE], hT.out1 (by decide)⟩
  refine run_sq ?_
  refine run_cut 22 (decide ((l[i]'hil).w < 1 ∨ 1048576 < (l[i]'hil).w)) (Cw2) ?_ ?_
  ·
   intro hcut
   by_cases hA : (l[i]'hil).w < 1
   ·
    refine run_pl [yy 0, nn 1, yy 2, yy 3, yy 4, nn 5, yy 6, yy 7, yy 8] ?_
    refine yF 23 49 4 2 4 ?_
    replace hx := hx.t s_3
    refine nO 24 3 23 hx.at_ rfl rfl ?_
    refine yV (kq 25 (.binOp .lss 3 (.tmp 24) (.const (.int .i64 1)) 3)) (fun _ => val_T (val_lss rfl rfl) hA) ?_
    refine yM 26 25 ?_
    refine pX 27 3 false ?_
    refine pW (kg 28 (.load 3 (.tmp 27)) 3 false) rfl rfl trivial ?_
    refine pX 29 3 false ?_
    refine yOt 30 26 29 ?_
    refine yA 22 30 ?_
    exact Sch.nil (hcut _ _ _ (Stp.refl _ _ _) rfl (by rw [decide_eq_true (Or.inl hA)]) (sk 9))
   refine run_pl [yy 0, nn 1, yy 2, yy 3, yy 4, nn 5, yy 6, yy 7, yy 8] ?_
   refine yF 23 49 4 2 4 ?_
   replace hx := hx.t s_3
   refine nO 24 3 23 hx.at_ rfl rfl ?_
   refine yV (kq 25 (.binOp .lss 3 (.tmp 24) (.const (.int .i64 1)) 3)) (fun _ => val_F (val_lss rfl rfl) hA) ?_
   refine yM 26 25 ?_
   refine yFg 27 49 4 2 4 3 false ?_
   refine nS (kg 28 (.load 3 (.tmp 27)) 3 false) rfl rfl trivial (val_loadOwn hx.at_ (by kernel_rfl) rfl rfl) ?_
   refine yV (kg 29 (.binOp .gtr 3 (.tmp 28) (.const (.int .i64 1048576)) 3) 3 false) (fun _ => val_gtr rfl rfl) ?_
   refine yOf 30 26 29 ?_
   refine yA 22 30 ?_
   exact Sch.nil (hcut _ _ _ (Stp.refl _ _ _) rfl (by congr 1; apply decide_eq_decide.2; omega) (sk 9))
  intro w5 s_4
  refine run_i 22 rfl (fun h22 => ?_) (fun h22 => ?_)
  ·
   refine run_sq (run_pl [yy 0] ?_)
   refine yAc 2 (.int .i64 40) ?_
   refine Sch.nil ?_
   refine rt1 Tryz.func92 Tryz.results92 ?_
   rw [if_neg (by simpa using h15), if_pos h22] at hE
   replace hT := (((hT.t s_1).t s_2).t s_3).t s_4
   exact ⟨by rw [checkS_at hlim hil h0 (by rw [hE]; decide), hE], hT.out1 (by decide)⟩
  refine run_sq ?_
  refine run_cut 31 (decide (0 < i ∧ ¬ lt2 (l[i-1]'(by omega)) (l[i]'hil))) (Cw2) ?_ ?_
  ·
   intro hcut
   by_cases hA : (0 : Int) < i
   ·
    refine run_draw (id := 10) (ops := F92.o10) [] (Cw2) [yy 0, yy 1, yy 2, yy 3, yy 4, yy 5, yy 6, yy 7, yy 8, yy 9, yy 10, yy 11, yy 12, yy 13, yy 14, yy 15, yy 16, yy 17, yy 18, nn 19, yy 20, yy 21, yy 22] Tryz_mixed (by kernel_rfl) (by kernel_rfl) (by kernel_rfl) ?_
    intro w6 s_5
    have hcs := s_5
    have hR := Stp.refl [] w6 (Cw2)
    refine yM 32 3 ?_
    refine yV (kq 33 (.binOp .gtr 3 (.tmp 32) (.const (.int .i64 0)) 3)) (fun _ => val_T (val_gtr rfl rfl) hA) ?_
    refine yM 34 33 ?_
    refine yMg 35 0 2 true ?_
    refine yMg 36 3 2 true ?_
    refine yV (kg 37 (.binOp .sub 3 (.tmp 36) (.const (.int .i64 1)) 3) 2 true) (fun _ => val_subi rfl rfl (by omega) (by omega)) ?_
    replace hl := ((((hl.t s_1).t s_2).t s_3).t s_4).t s_5
    refine iS (e := 49) (kg 38 (.indexAddr 23 (.tmp 35) (.tmp 37)) 2 true) rfl rfl hl rfl (by kernel_rfl) rfl (by omega) (by omega) ?_
    intro b38 o38 h38
    try simp only [Int.toNat_natCast] at h38
    have h39 := RA.bA h38
    refine yFg 39 49 38 0 0 2 true ?_
    refine lSA (kg 40 (.load 47 (.tmp 39)) 2 true) rfl rfl (fun w' hS => h39.sy hS) h39 (by kernel_rfl) (by kernel_rfl) rfl rfl ?_
    intro v40 g40
    obtain rfl := rv_couple.1 g40
    refine yMg 41 0 2 true ?_
    refine yMg 42 3 2 true ?_
    refine yV (kg 43 (.binOp .sub 3 (.tmp 42) (.const (.int .i64 1)) 3) 2 true) (fun _ => val_subi rfl rfl (by omega) (by omega)) ?_
    refine iS (e := 49) (kg 44 (.indexAddr 23 (.tmp 41) (.tmp 43)) 2 true) rfl rfl hl rfl (by kernel_rfl) rfl (by omega) (by omega) ?_
    intro b44 o44 h44
    try simp only [Int.toNat_natCast] at h44
    have h45 := RA.bB h44
    refine yFg 45 49 44 1 2 2 true ?_
    refine lSA (kg 46 (.load 47 (.tmp 45)) 2 true) rfl rfl (fun w' hS => h45.sy hS) h45 (by kernel_rfl) (by kernel_rfl) rfl rfl ?_
    intro v46 g46
    obtain rfl := rv_couple.1 g46
    refine yFg 47 49 4 0 0 2 true ?_
    replace hx := ((hx.t s_3).t s_4).t s_5
    refine yS (kg 48 (.load 47 (.tmp 47)) 2 true) rfl rfl (fun w' hS => val_loadOwnAgg (n := 2) (vs := encR (l[i]'hil).A) (hx.stay hS (by decide)) (by kernel_rfl) (by kernel_rfl) rfl rfl rfl) ?_
    refine yFg 49 49 4 1 2 2 true ?_
    refine yS (kg 50 (.load 47 (.tmp 49)) 2 true) rfl rfl (fun w' hS => val_loadOwnAgg (n := 2) (vs := encR (l[i]'hil).B) (hx.stay hS (by decide)) (by kernel_rfl) (by kernel_rfl) rfl rfl rfl) ?_
    replace hF := ((hF.st s_3).st s_4).st s_5
    refine cS (kg 51 (.call { callee := .value (.func 130), args := #[(.tmp 40), (.tmp 46), (.tmp 48), (.tmp 50)], argTypes := #[47, 47, 47, 47] }) 2 true) rfl rfl (ent Tryz.call130 rfl) (couples_ok (c := (l[i]'hil).A) (d := (l[i]'hil).B) hF) ?_
    rintro vw7 w7 ⟨rfl, s_6⟩
    refine ⟨(hR.trans s_6 (by simp)).ext, ?_⟩
    refine yV (kg 52 (.binOp .geq 3 (.tmp 51) (.const (.int .i64 0)) 3) 2 true) (fun _ => val_geq rfl rfl) ?_
    refine yAt 53 34 52 ?_
    refine yA 31 53 ?_
    replace hcs := hcs.t s_6
    exact Sch.nil (hcut _ _ _ hcs rfl (by
  have e1 : ((i : Int) - 1).toNat = i - 1 := by omega
  congr 1; apply decide_eq_decide.2; simp only [e1]; rw [cmp2_ge]; exact ⟨fun h => ⟨by omega, h⟩, fun h => h.2⟩) (sk 23))
   refine run_draw (id := 10) (ops := F92.o10) [] (Cw2) [yy 0, yy 1, yy 2, yy 3, yy 4, yy 5, yy 6, yy 7, yy 8, yy 9, yy 10, yy 11, yy 12, yy 13, yy 14, yy 15, yy 16, yy 17, yy 18, nn 19, yy 20, yy 21, yy 22] Tryz_mixed (by kernel_rfl) (by kernel_rfl) (by kernel_rfl) ?_
   intro w8 s_7
   have hcs := s_7
   have hR := Stp.refl [] w8 (Cw2)
   refine yM 32 3 ?_
   refine yV (kq 33 (.binOp .gtr 3 (.tmp 32) (.const (.int .i64 0)) 3)) (fun _ => val_F (val_gtr rfl rfl) hA) ?_
   refine yM 34 33 ?_
   refine pX 35 2 true ?_
   refine pX 36 2 true ?_
   refine pX 37 2 true ?_
   refine pX 38 2 true ?_
   refine pX 39 2 true ?_
   refine pX 40 2 true ?_
   refine pX 41 2 true ?_
   refine pX 42 2 true ?_
   refine pX 43 2 true ?_
   refine pX 44 2 true ?_
   refine pX 45 2 true ?_
   refine pX 46 2 true ?_
   refine pX 47 2 true ?_
   refine pX 48 2 true ?_
   refine pX 49 2 true ?_
   refine pX 50 2 true ?_
   refine pW (kg 51 (.call { callee := .value (.func 130), args := #[(.tmp 40), (.tmp 46), (.tmp 48), (.tmp 50)], argTypes := #[47, 47, 47, 47] }) 2 true) rfl rfl hR.ext ?_
   refine pX 52 2 true ?_
   refine yAf 53 34 52 ?_
   refine yA 31 53 ?_
   exact Sch.nil (hcut _ _ _ hcs rfl (by rw [decide_eq_false (fun e => hA (by omega))]) (sk 23))
  intro w9 s_8
  refine run_i 31 rfl (fun h31 => ?_) (fun h31 => ?_)
  ·
   refine run_sq (run_pl [yy 0] ?_)
   refine yAc 2 (.int .i64 12) ?_
   refine Sch.nil ?_
   refine rt1 Tryz.func92 Tryz.results92 ?_
   rw [if_neg (by simpa using h15), if_neg h22, if_pos h31] at hE
   replace hT := ((((hT.t s_1).t s_2).t s_3).t s_4).t s_8
   exact ⟨by rw [checkS_at hlim hil h0 (by rw [hE]; decide), hE], hT.out1 (by decide)⟩
  refine run_sk (run_inBlock (run_inBlock (run_pl [yy 0, yy 1] ?_)))
  refine yI 54 3 10 1 ?_
  refine yM 10 54 ?_
  refine Sch.nil ?_
  replace hT := ((((hT.t s_1).t s_2).t s_3).t s_4).t s_8; replace hl := ((((hl.t s_1).t s_2).t s_3).t s_4).t s_8; replace hF := ((hF.st s_3).st s_4).st s_8
  refine kp (sub_cons 0 rfl rfl (sub_cons 8 rfl rfl (sub_cons 9 rfl rfl (sub_cons 10 rfl (eq_int (by simp)) (sub_nil _))))) (next1 (i + 1, Cw2) _ ⟨(by first | omega | (simp only; omega)), (fun k hk => by
          simp only at hk
          by_cases e : k = i
          · subst e; rw [hE, if_neg (by simpa using h15), if_neg h22, if_neg h31]
          · exact h0 k (by omega)), hF, hT, hl⟩ (by first | omega | (simp only; omega)))
 have hil : i = l.length := by omega
 refine run_ex 0 ?_
 refine run_sq (run_pl [yy 0] ?_)
 refine yAc 2 (.int .i64 0) ?_
 refine Sch.nil ?_
 refine rt1 Tryz.func92 Tryz.results92 ?_
 subst hil
 exact ⟨by rw [checkS_ok hlim h0], hT.out1 (by decide)⟩
end
end Go.Proofs.YtdmgmlmlielfbaaGreat
