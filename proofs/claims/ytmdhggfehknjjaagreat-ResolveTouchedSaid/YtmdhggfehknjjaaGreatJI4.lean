/- Steps through functions of the program. -/
import Derived.Test.YtmdhggfehknjjaaGreatJI3
set_option linter.unusedVariables false
set_option linter.unusedSimpArgs false
set_option maxRecDepth 100000
set_option maxHeartbeats 4000000
namespace Go.Proofs.YtmdhggfehknjjaaGreat
open Go.K Go.K.Rep
noncomputable section
namespace F27
def c0 := bodyOf Tryz.f27
def c31 := (cr (cr (cr (cr (cr c0)))))
def c42 := (cr (cl (cl (cr (cl c31)))))
def c49 := (cl (cl (cr (cr (cl c42)))))
def o16 := rops (cl (cl (cl (cr c49))))
def c60 := (cl (cr (cl (cl (cr c49)))))
def o17 := rops c60
def c61 := (cr (cr (cl (cl (cr c49)))))
def o18 := rops (cl (cl c61))
end F27
theorem refOf_ok {w₀ : World} {C : Nat → Nat} {l : List Bond} {vl : Value} (hF : Lim w₀ C) (hl : RV w₀ (Mc C) l vl) (hlen : l.length ≤ 100000) :
    Calls Tryz.prog 27 #[vl] w₀ (Ret fun v w' => ∃ u, v = .tuple #[u, .int .i64 (checkS l)] ∧ Stp [] w₀ C w' C ∧ RV w' (Mc C) (if checkS l = 0 then partsS l else []) u) := by
 have hF0 := hF
 have hT := Stp.refl [2, 3, 4, 5, 6, 7, 8, 9] w₀ (col1 C)
 replace hF := hF.col1
 replace hl := hl.c1
 refine c_st F27.c0 120 [vl] Tryz.func27 ?_
 show Run _ _ _ _ [(0, vl)] _ _
 refine run_sq (run_pl [yy 0, yy 1] ?_)
 refine yV (kq 2 (.assign (.const (.slice none 0 0)))) (fun _ => val_assign rfl) ?_
 refine yAc 3 (.int .i64 0) ?_
 refine Sch.nil (run_sq (run_sq (run_pl [yy 0, nn 1, yy 2] ?_)))
 refine yM 17 0 ?_
 refine cG 18 58 [17] [23] Tryz.call58 rfl (refCheck_ok hF hl) ?_
 rintro vw1 w1 ⟨rfl, s_1⟩
 refine yA 4 18 ?_
 refine Sch.nil (run_sq (run_pl [yy 0, yy 1] ?_))
 refine yM 19 4 ?_
 refine yV (kq 20 (.binOp .neq 34 (.tmp 19) (.const (.int .i64 0)) 34)) (fun _ => val_neq rfl rfl) ?_
 refine Sch.nil ?_
 refine run_i 20 rfl (fun h20 => ?_) (fun h20 => ?_)
 ·
  refine run_sq (run_pl [yy 0, yy 1, yy 2] ?_)
  refine yM 21 4 ?_
  refine yV (kq 2 (.assign (.const (.slice none 0 0)))) (fun _ => val_assign rfl) ?_
  refine yA 3 21 ?_
  refine Sch.nil ?_
  refine run_ret2 (by kernel_rfl) Tryz.func27 Tryz.results27 rfl rfl ?_
  replace hT := hT.t s_1
  exact ⟨_, rfl, hT.out1 (by decide), by rw [if_neg h20]; exact rv_nil⟩
 have hck : checkS l = 0 := Classical.not_not.1 h20
 have hl4 := checkS_len hck
 have hrl2 := refsS_len l
 refine run_sk (run_sq (run_pl [yy 0, nn 1, yy 2] ?_))
 refine yM 22 0 ?_
 replace hF := hF.st s_1; replace hl := hl.t s_1
 refine cG 23 25 [22] [23] Tryz.call25 rfl (refRefs_ok hF hl hlen) ?_
 rintro vR w2 ⟨s_2, hrs⟩
 refine yA 5 23 ?_
 refine Sch.nil (run_sq (run_pl [yy 0, yy 1, nn 2, yy 3] ?_))
 refine yM 24 5 ?_
 refine yS (kq 25 (.call { callee := .builtin .len, args := #[(.tmp 24)], argTypes := #[52] })) rfl rfl (fun w' hS => hrs.lenV rfl Tryz.underlying52 w' ) ?_
 replace hF := hF.st s_2
 refine aT (kq 26 (.makeSlice 22 (.tmp 25) (.tmp 25))) rfl rfl (a_make (e := 3) (bytes := 8) (x0 := (0 : Nat)) (zs := [.int .i64 0]) hF (j := 3) (by decide) (by kernel_rfl) (by kernel_rfl) rfl rfl (by omega) (by omega) (by omega) (fun h M => rfl)) ?_
 rintro v26 w3 ⟨Cw3, s_3, hw, hF⟩
 refine yA 6 26 ?_
 refine Sch.nil ?_
 try simp only [Int.toNat_natCast] at hw
 refine run_sq (run_sq (run_pl [yy 0] ?_))
 refine yAc 7 (.int .i64 0) ?_
 refine Sch.nil (run_bk 0 ?_)
 refine run_lp (ι := Nat × (List Nat) × (Nat → Nat)) (I := fun x w => x.1 ≤ (refsS l).length ∧ x.2.1.length = (refsS l).length ∧ (∀ k (hk : k < x.2.1.length), k < x.1 → x.2.1[k] = k) ∧ Lim w x.2.2 ∧ Stp [2, 3, 4, 5, 6, 7, 8, 9] w₀ (col1 C) w x.2.2 ∧ RV w (Mc x.2.2) l vl ∧ RV w (Mc x.2.2) (refsS l) vR ∧ OwnL w x.2.2 3 3 v26 x.2.1) (e := fun x => [(0, vl), (5, vR), (6, v26), (7, .int .i64 x.1)]) (m := fun x => (refsS l).length - x.1) (x₀ := (0, List.replicate (refsS l).length 0, Cw3)) (sr 0 (sr 5 (sr 6 (sr 7 (sub_nil _))))) ?_ ?_
 ·
   replace hT := ((hT.t s_1).t s_2).t s_3; replace hl := (hl.t s_2).t s_3; replace hrs := hrs.t s_3
   exact ⟨Nat.zero_le _, (by simp only; exact List.length_replicate), (fun k hk h => by simp only at h; omega), hF, hT, hl, hrs, hw⟩
 intro ⟨i, low, C1⟩ w4 hI next1
 obtain ⟨hi, hll, hlv, hF, hT, hl, hrs, hw⟩ := hI
 try simp only at hi hll hlv hF hT hl hrs hw
 show Run _ _ _ _ [(0, vl), (5, vR), (6, v26), (7, .int .i64 i)] _ _
 refine run_sq (run_sq (run_pl [yy 0, yy 1, yy 2, yy 3] ?_))
 refine yM 27 7 ?_
 refine yM 28 6 ?_
 refine yS (kq 29 (.call { callee := .builtin .len, args := #[(.tmp 28)], argTypes := #[22] })) rfl rfl (fun w' hS => hw.lenV rfl Tryz.underlying22 w' ) ?_
 refine yL 30 3 27 29 ?_
 refine Sch.nil ?_
 refine run_i 30 rfl (fun h30 => ?_) (fun h30 => ?_)
 ·
  have hil : i < (refsS l).length := by omega
  refine run_sk (run_sq (run_bk 1 (run_pl [yy 0, yy 1, yy 2, yy 3, nn 4] ?_)))
  refine yM 33 6 ?_
  refine yM 34 7 ?_
  refine yM 35 7 ?_
  refine oR 3 36 22 33 34 hw rfl (by omega) (h := ?_)
  intro g36 hg36
  try simp only [Int.toNat_natCast]
  refine aU (k0 (.store 3 (.tmp 36) (.tmp 35))) rfl (a_storeO hw hg36 (by omega) rfl rfl (by kernel_rfl) (rv_nat.2 rfl)) ?_
  rintro _ w5 ⟨rfl, s_4, hw⟩
  refine Sch.nil (run_inBlock (run_pl [yy 0, yy 1, yy 2] ?_))
  refine yM 31 7 ?_
  refine yI 32 3 31 1 ?_
  refine yA 7 32 ?_
  refine Sch.nil ?_
  replace hF := hF.st s_4; replace hT := hT.t s_4; replace hl := hl.t s_4; replace hrs := hrs.t s_4
  refine kp (sub_cons 0 rfl rfl (sub_cons 5 rfl rfl (sub_cons 6 rfl rfl (sub_cons 7 rfl (eq_int (by simp)) (sub_nil _))))) (next1 (i + 1, low.set i i, C1) _ ⟨(by first | omega | (simp only; omega)), (by simp only [List.length_set]; exact hll), (fun k hk h => by
       simp only at h
       rw [List.getElem_set]
       split
       · assumption
       · simp only [List.length_set] at hk; exact hlv k hk (by omega)), hF, hT, hl, hrs, hw⟩ (by first | omega | (simp only; omega)))
 have hil : i = (refsS l).length := by omega
 obtain rfl : low = List.range (refsS l).length := List.ext_getElem (by simpa using hll) (fun k h1 h2 => by rw [hlv k h1 (by omega), List.getElem_range])
 clear hlv hll
 refine run_ex 0 ?_
 refine run_sq (run_sq (run_pl [yy 0] ?_))
 refine yAc 8 (.bool true) ?_
 refine Sch.nil (run_bk 2 ?_)
 refine run_lp (ι := (List Nat) × Bool × (Nat → Nat)) (I := fun x w => Lw l x.1 ∧ (x.2.1 = false → Fix l l x.1) ∧ Lim w x.2.2 ∧ Stp [2, 3, 4, 5, 6, 7, 8, 9] w₀ (col1 C) w x.2.2 ∧ RV w (Mc x.2.2) l vl ∧ RV w (Mc x.2.2) (refsS l) vR ∧ OwnL w x.2.2 3 3 v26 x.1) (e := fun x => [(0, vl), (5, vR), (6, v26), (8, .bool x.2.1)]) (m := fun x => 2 * x.1.sum + x.2.1.toNat) (x₀ := (List.range (refsS l).length, true, C1)) (sr 0 (sr 5 (sr 6 (sr 8 (sub_nil _))))) ?_ ?_
 · exact ⟨Lw.start l, (fun e => by cases e), hF, hT, hl, hrs, hw⟩
 intro ⟨low, ch, C1⟩ w6 hI next2
 obtain ⟨hW, hcl, hF, hT, hl, hrs, hw⟩ := hI
 try simp only at hW hcl hF hT hl hrs hw
 show Run _ _ _ _ [(0, vl), (5, vR), (6, v26), (8, .bool ch)] _ _
 refine run_sq (run_sq (run_pl [yy 0] ?_))
 refine yM 37 8 ?_
 refine Sch.nil ?_
 refine run_c 37 rfl (fun h37 => ?_) (fun h37 => ?_)
 ·
  subst h37
  refine run_sk (run_bk 3 (run_sq (run_pl [yy 0] ?_)))
  refine yAc 8 (.bool false) ?_
  refine Sch.nil (run_sq (run_pl [yy 0] ?_))
  refine yAc 9 (.int .i64 0) ?_
  refine Sch.nil (run_bk 4 ?_)
  refine run_lp (ι := Nat × (List Nat) × Bool × (Nat → Nat)) (I := fun x w => x.1 ≤ l.length ∧ Lw l x.2.1 ∧ x.2.1.sum ≤ low.sum ∧ (x.2.2.1 = true → x.2.1.sum < low.sum) ∧ (x.2.2.1 = false → x.2.1 = low ∧ Fix l (l.take x.1) x.2.1) ∧ Lim w x.2.2.2 ∧ Stp [2, 3, 4, 5, 6, 7, 8, 9] w₀ (col1 C) w x.2.2.2 ∧ RV w (Mc x.2.2.2) l vl ∧ RV w (Mc x.2.2.2) (refsS l) vR ∧ OwnL w x.2.2.2 3 3 v26 x.2.1) (e := fun x => [(0, vl), (5, vR), (6, v26), (8, .bool x.2.2.1), (9, .int .i64 x.1)]) (m := fun x => l.length - x.1) (x₀ := (0, low, false, C1)) (sr 0 (sr 5 (sr 6 (sr 8 (sr 9 (sub_nil _)))))) ?_ ?_
  · exact ⟨Nat.zero_le _, hW, Nat.le_refl _, (fun e => by cases e), (fun _ => ⟨rfl, fun y hy => by simp at hy⟩), hF, hT, hl, hrs, hw⟩
  intro ⟨k, lw, ch2, C1⟩ w7 hI next3
  obtain ⟨hk, hW2, hle, hlt, hsm, hF, hT, hl, hrs, hw⟩ := hI
  try simp only at hk hW2 hle hlt hsm hF hT hl hrs hw
  show Run _ _ _ _ [(0, vl), (5, vR), (6, v26), (8, .bool ch2), (9, .int .i64 k)] _ _
  have hwl := hW2.len
  refine run_sq (run_sq (run_pl [yy 0, yy 1, yy 2, yy 3] ?_))
  refine yM 38 9 ?_
  refine yM 39 0 ?_
  refine yS (kq 40 (.call { callee := .builtin .len, args := #[(.tmp 39)], argTypes := #[23] })) rfl rfl (fun w' hS => hl.lenV rfl Tryz.underlying23 w' ) ?_
  refine yL 41 3 38 40 ?_
  refine Sch.nil ?_
  refine run_i 41 rfl (fun h41 => ?_) (fun h41 => ?_)
  ·
   have hkl : k < l.length := by omega
   obtain ⟨ia, hia, hia2, ea⟩ := idxOf_mem (l := refsS l) (c := l[k].A) (mem_refsS.2 ⟨_, List.getElem_mem hkl, .inl rfl⟩)
   obtain ⟨ib, hib, hib2, eb⟩ := idxOf_mem (l := refsS l) (c := l[k].B) (mem_refsS.2 ⟨_, List.getElem_mem hkl, .inr rfl⟩)
   refine run_sk (run_sq (run_bk 5 (run_sq ?_)))
   refine run_draw (id := 16) (ops := F27.o16) [] (C1) [yy 0, yy 1, yy 2, yy 3, yy 4, yy 5, yy 7, yy 8, yy 9, yy 10, yy 11, yy 12, nn 6, nn 13, yy 14, yy 15] Tryz_mixed (by kernel_rfl) (by kernel_rfl) (by kernel_rfl) ?_
   intro w8 s_5
   have hR := Stp.refl [] w8 (C1)
   refine yM 44 5 ?_
   refine yM 45 0 ?_
   refine yM 46 9 ?_
   replace hl := hl.t s_5
   refine iR 58 47 23 45 46 hl rfl (h := ?_)
   intro b47 o47 h47
   try simp only [Int.toNat_natCast] at h47
   have h48 := RA.bA h47
   refine yF 48 58 47 0 0 ?_
   refine lSA (kq 49 (.load 55 (.tmp 48))) rfl rfl (fun w' hS => h48.sy hS) h48 (by kernel_rfl) (by kernel_rfl) rfl rfl ?_
   intro v49 g49
   obtain rfl := rv_couple.1 g49
   refine yM 51 5 ?_
   refine yM 52 0 ?_
   refine yM 53 9 ?_
   refine iR 58 54 23 52 53 hl rfl (h := ?_)
   intro b54 o54 h54
   try simp only [Int.toNat_natCast] at h54
   have h55 := RA.bB h54
   refine yF 55 58 54 1 2 ?_
   refine lSA (kq 56 (.load 55 (.tmp 55))) rfl rfl (fun w' hS => h55.sy hS) h55 (by kernel_rfl) (by kernel_rfl) rfl rfl ?_
   intro v56 g56
   obtain rfl := rv_couple.1 g56
   replace hF := hF.st s_5; replace hrs := hrs.t s_5
   refine cF 50 29 [44, 49] [52, 55] Tryz.call29 rfl (refIndex_ok (c := l[k].A) hF hrs) ?_
   rintro vw9 w9 ⟨rfl, s_6⟩
   rw [hia]
   refine ⟨(hR.trans s_6 (by simp)).ext, ?_⟩
   replace hF := hF.st s_6; replace hrs := hrs.t s_6
   refine cF 57 29 [51, 56] [52, 55] Tryz.call29 rfl (refIndex_ok (c := l[k].B) hF hrs) ?_
   rintro vw10 w10 ⟨rfl, s_7⟩
   rw [hib]
   replace hR := hR.t s_6
   refine ⟨(hR.trans s_7 (by simp)).ext, ?_⟩
   refine yA 10 50 ?_
   refine yA 11 57 ?_
   refine Sch.nil (run_sq ?_)
   refine run_draw (id := 17) (ops := F27.o17) [] (C1) [yy 0, yy 1, yy 2, yy 3, yy 4, yy 5, yy 6, yy 7, yy 8] Tryz_mixed (by kernel_rfl) (by kernel_rfl) (by kernel_rfl) ?_
   intro w11 s_8
   refine yM 58 6 ?_
   refine yM 59 10 ?_
   replace hw := (((hw.t s_5).t s_6).t s_7).t s_8
   refine oR 3 60 22 58 59 hw rfl (by omega) (h := ?_)
   intro g60 hg60
   try simp only [Int.toNat_natCast]
   refine oS (I := []) (kq 61 (.load 3 (.tmp 60))) rfl rfl hw hg60 (fun w' hS => hw.sy hg60 hS) (by omega) (by kernel_rfl) rfl rfl ?_
   intro v61 g61
   try simp only [Int.toNat_natCast] at g61
   first | (obtain rfl := rv_nat.1 g61) | (obtain rfl := rv_int.1 g61)
   refine yM 62 6 ?_
   refine yM 63 11 ?_
   refine oR 3 64 22 62 63 hw rfl (by omega) (h := ?_)
   intro g64 hg64
   try simp only [Int.toNat_natCast]
   refine oS (I := []) (kq 65 (.load 3 (.tmp 64))) rfl rfl hw hg64 (fun w' hS => hw.sy hg64 hS) (by omega) (by kernel_rfl) rfl rfl ?_
   intro v65 g65
   try simp only [Int.toNat_natCast] at g65
   first | (obtain rfl := rv_nat.1 g65) | (obtain rfl := rv_int.1 g65)
   refine yV (kq 66 (.binOp .neq 3 (.tmp 61) (.tmp 65) 3)) (fun _ => val_neq rfl rfl) ?_
   refine Sch.nil ?_
   refine run_i 66 rfl (fun h66 => ?_) (fun h66 => ?_)
   ·
    have hne : lw[ia] ≠ lw[ib] := fun e => h66 (by rw [e])
    obtain ⟨hW3, hlt3⟩ := hW2.put (List.getElem_mem hkl) hia2 hib2 ea eb (by omega) (by omega) hne
    refine run_sq ?_
    refine run_draw (id := 18) (ops := F27.o18) [] (C1) [yy 0, yy 1, yy 2, yy 3, yy 4, yy 5, yy 6, yy 7, yy 8, yy 9] Tryz_mixed (by kernel_rfl) (by kernel_rfl) (by kernel_rfl) ?_
    intro w12 s_9
    refine yM 67 6 ?_
    refine yM 68 10 ?_
    replace hw := hw.t s_9
    refine oR 3 69 22 67 68 hw rfl (by omega) (h := ?_)
    intro g69 hg69
    try simp only [Int.toNat_natCast]
    refine oS (I := []) (kq 70 (.load 3 (.tmp 69))) rfl rfl hw hg69 (fun w' hS => hw.sy hg69 hS) (by omega) (by kernel_rfl) rfl rfl ?_
    intro v70 g70
    try simp only [Int.toNat_natCast] at g70
    first | (obtain rfl := rv_nat.1 g70) | (obtain rfl := rv_int.1 g70)
    refine yM 71 6 ?_
    refine yM 72 11 ?_
    refine oR 3 73 22 71 72 hw rfl (by omega) (h := ?_)
    intro g73 hg73
    try simp only [Int.toNat_natCast]
    refine oS (I := []) (kq 74 (.load 3 (.tmp 73))) rfl rfl hw hg73 (fun w' hS => hw.sy hg73 hS) (by omega) (by kernel_rfl) rfl rfl ?_
    intro v74 g74
    try simp only [Int.toNat_natCast] at g74
    first | (obtain rfl := rv_nat.1 g74) | (obtain rfl := rv_int.1 g74)
    refine yV (kq 75 (.call { callee := .builtin .min, args := #[(.tmp 70), (.tmp 74)], argTypes := #[3, 3] })) (fun _ => val_is (val_min rfl rfl Tryz.underlying3) (congrArg (Value.int .i64) (show min ((lw[ia] : Nat) : Int) ((lw[ib] : Nat) : Int) = ((min lw[ia] lw[ib] : Nat) : Int) from by omega))) ?_
    refine yA 12 75 ?_
    refine Sch.nil (run_sq (run_pl [yy 0, yy 1, yy 2, yy 3, yy 4, yy 5, yy 6, nn 7, yy 8, nn 9] ?_))
    refine yM 76 6 ?_
    refine yM 77 10 ?_
    refine yM 78 6 ?_
    refine yM 79 11 ?_
    refine yM 80 12 ?_
    refine yM 81 12 ?_
    refine oR 3 82 22 76 77 hw rfl (by omega) (h := ?_)
    intro g82 hg82
    try simp only [Int.toNat_natCast]
    refine aU (k0 (.store 3 (.tmp 82) (.tmp 80))) rfl (a_storeO hw hg82 (by omega) rfl rfl (by kernel_rfl) (rv_nat.2 rfl)) ?_
    rintro _ w13 ⟨rfl, s_10, hw⟩
    have hs1 : (lw.set ia (min lw[ia] lw[ib])).length = lw.length := List.length_set
    refine oR 3 83 22 78 79 hw rfl (by omega) (h := ?_)
    intro g83 hg83
    try simp only [Int.toNat_natCast]
    refine aU (k0 (.store 3 (.tmp 83) (.tmp 81))) rfl (a_storeO hw hg83 (by omega) rfl rfl (by kernel_rfl) (rv_nat.2 rfl)) ?_
    rintro _ w14 ⟨rfl, s_11, hw⟩
    refine Sch.nil (run_pl [yy 0] ?_)
    refine yAc 8 (.bool true) ?_
    refine Sch.nil (run_inBlock (run_pl [yy 0, yy 1, yy 2] ?_))
    refine yM 42 9 ?_
    refine yI 43 3 42 1 ?_
    refine yA 9 43 ?_
    refine Sch.nil ?_
    replace hT := ((((((hT.t s_5).t s_6).t s_7).t s_8).t s_9).t s_10).t s_11; replace hl := (((((hl.t s_6).t s_7).t s_8).t s_9).t s_10).t s_11; replace hF := ((((hF.st s_7).st s_8).st s_9).st s_10).st s_11; replace hrs := ((((hrs.t s_7).t s_8).t s_9).t s_10).t s_11
    refine kp (sr 0 (sr 5 (sr 6 (sr 8 (sub_cons 9 rfl (eq_int (by simp)) (sub_nil _)))))) (next3 (k + 1, (lw.set ia (min lw[ia] lw[ib])).set ib (min lw[ia] lw[ib]), true, C1) _ ⟨(by first | omega | (simp only; omega)), hW3, (by simp only; omega), (fun _ => by simp only; omega), (fun e => by cases e), hF, hT, hl, hrs, hw⟩ (by first | omega | (simp only; omega)))
   have heq : lw[ia] = lw[ib] := by have := Classical.not_not.1 h66; exact_mod_cast this
   refine run_sk (run_inBlock (run_pl [yy 0, yy 1, yy 2] ?_))
   refine yM 42 9 ?_
   refine yI 43 3 42 1 ?_
   refine yA 9 43 ?_
   refine Sch.nil ?_
   replace hT := (((hT.t s_5).t s_6).t s_7).t s_8; replace hl := ((hl.t s_6).t s_7).t s_8; replace hF := (hF.st s_7).st s_8; replace hrs := (hrs.t s_7).t s_8
   refine kp (sub_cons 0 rfl rfl (sub_cons 5 rfl rfl (sub_cons 6 rfl rfl (sub_cons 8 rfl rfl (sub_cons 9 rfl (eq_int (by simp)) (sub_nil _)))))) (next3 (k + 1, lw, ch2, C1) _ ⟨(by first | omega | (simp only; omega)), hW2, hle, hlt, (fun e => by
          obtain ⟨e1, e2⟩ := hsm e
          refine ⟨e1, fun y hy a b ha hb ea' eb' => ?_⟩
          rw [List.take_succ_eq_append_getElem hkl] at hy
          rcases List.mem_append.1 hy with hy | hy
          · exact e2 y hy a b ha hb ea' eb'
          · simp only [List.mem_singleton] at hy; subst hy
            obtain rfl := nodup_inj (refsS_nodup l) ha hia2 (by rw [ea', ea])
            obtain rfl := nodup_inj (refsS_nodup l) hb hib2 (by rw [eb', eb])
            show lw.getD a 0 = lw.getD b 0
            rw [List.getD_eq_getElem?_getD, List.getD_eq_getElem?_getD, List.getElem?_eq_getElem (by omega), List.getElem?_eq_getElem (by omega)]; exact heq), hF, hT, hl, hrs, hw⟩ (by first | omega | (simp only; omega)))
  have hkl : k = l.length := by omega
  subst hkl
  rw [List.take_length] at hsm
  refine run_ex 4 ?_
  refine run_inBlock ?_
  refine kp (sub_cons 0 rfl rfl (sub_cons 5 rfl rfl (sub_cons 6 rfl rfl (sub_cons 8 rfl rfl (sub_nil _))))) (next2 (lw, ch2, C1) _ ⟨hW2, (fun e => (hsm e).2), hF, hT, hl, hrs, hw⟩ (by
         simp only
         cases ch2 with
         | true => have := hlt rfl; simp; omega
         | false => have := (hsm rfl).1; subst this; simp))
 have hfx := hcl h37
 refine run_ex 2 ?_
 refine run_sq (run_pl [yy 0] ?_)
 refine yV (kq 13 (.assign (.const (.slice none 0 0)))) (fun _ => val_assign rfl) ?_
 refine Sch.nil (run_sq (run_sq (run_pl [yy 0] ?_)))
 refine yAc 14 (.int .i64 0) ?_
 refine Sch.nil (run_bk 6 ?_)
 refine run_lp (ι := Nat × Value × (Nat → Nat)) (I := fun x w => x.1 ≤ (refsS l).length ∧ Lim w x.2.2 ∧ Stp [2, 3, 4, 5, 6, 7, 8, 9] w₀ (col1 C) w x.2.2 ∧ RV w (Mc x.2.2) l vl ∧ RV w (Mc x.2.2) (refsS l) vR ∧ OwnL w x.2.2 3 3 v26 low ∧ OwnL w x.2.2 4 52 x.2.1 (outS l x.1)) (e := fun x => [(0, vl), (5, vR), (6, v26), (13, x.2.1), (14, .int .i64 x.1)]) (m := fun x => (refsS l).length - x.1) (x₀ := (0, .slice none 0 0, C1)) (sr 0 (sr 5 (sr 6 (sr 13 (sr 14 (sub_nil _)))))) ?_ ?_
 · exact ⟨Nat.zero_le _, hF, hT, hl, hrs, hw, by rw [outS_zero]; exact OwnL.nil⟩
 intro ⟨i, vo, C1⟩ w15 hI next4
 obtain ⟨hi, hF, hT, hl, hrs, hw, ho⟩ := hI
 try simp only at hi hF hT hl hrs hw ho
 show Run _ _ _ _ [(0, vl), (5, vR), (6, v26), (13, vo), (14, .int .i64 i)] _ _
 have hwl := hW.len
 have hol := outS_len l i
 refine run_sq (run_sq (run_pl [yy 0, yy 1, yy 2, yy 3] ?_))
 refine yM 84 14 ?_
 refine yM 85 5 ?_
 refine yS (kq 86 (.call { callee := .builtin .len, args := #[(.tmp 85)], argTypes := #[52] })) rfl rfl (fun w' hS => hrs.lenV rfl Tryz.underlying52 w' ) ?_
 refine yL 87 3 84 86 ?_
 refine Sch.nil ?_
 refine run_i 87 rfl (fun h87 => ?_) (fun h87 => ?_)
 ·
  have hil : i < (refsS l).length := by omega
  have hst := outS_step hW hfx hil (by omega)
  refine run_sk (run_sq (run_bk 7 (run_sq (run_sq (run_pl [yy 0, yy 1, yy 2, nn 3, yy 4, yy 5] ?_)))))
  refine yM 90 6 ?_
  refine yM 91 14 ?_
  refine oR 3 92 22 90 91 hw rfl (by omega) (h := ?_)
  intro g92 hg92
  try simp only [Int.toNat_natCast]
  refine oN (kq 93 (.load 3 (.tmp 92))) rfl rfl trivial hw hg92 (by omega) (by kernel_rfl) rfl rfl ?_
  intro v93 g93
  try simp only [Int.toNat_natCast] at g93
  first | (obtain rfl := rv_nat.1 g93) | (obtain rfl := rv_int.1 g93)
  refine yM 94 14 ?_
  refine yV (kq 95 (.binOp .neq 3 (.tmp 93) (.tmp 94) 3)) (fun _ => val_neq rfl rfl) ?_
  refine Sch.nil ?_
  refine run_i 95 rfl (fun h95 => ?_) (fun h95 => ?_)
  ·
   have hne : ¬ low[i] = i := fun e => h95 (by exact_mod_cast e)
   rw [if_neg hne] at hst
   refine run_ex 7 ?_
   refine run_pl [yy 0, yy 1, yy 2] ?_
   refine yM 88 14 ?_
   refine yI 89 3 88 1 ?_
   refine yA 14 89 ?_
   refine Sch.nil ?_
   refine kp (sr 0 (sr 5 (sr 6 (sr 13 (sub_cons 14 rfl (eq_int (by simp)) (sub_nil _)))))) (next4 (i + 1, vo, C1) _ ⟨(by first | omega | (simp only; omega)), hF, hT, hl, hrs, hw, (by simp only; rw [hst]; exact ho)⟩ (by first | omega | (simp only; omega)))
  have heq : low[i] = i := by have := Classical.not_not.1 h95; exact_mod_cast this
  rw [if_pos heq] at hst
  obtain ⟨pr, hpr⟩ : ∃ p : Couple → Bool, p = fun r => decide (rhoS l r = rhoS l (refsS l)[i]) := ⟨_, rfl⟩
  rw [← hpr] at hst
  refine run_sk (run_sq (run_pl [yy 0] ?_))
  refine yV (kq 15 (.assign (.const (.slice none 0 0)))) (fun _ => val_assign rfl) ?_
  refine Sch.nil (run_sq (run_sq (run_pl [yy 0] ?_)))
  refine yAc 16 (.int .i64 0) ?_
  refine Sch.nil (run_bk 8 ?_)
  refine run_lp (ι := Nat × Value × (Nat → Nat)) (I := fun x w => x.1 ≤ (refsS l).length ∧ Lim w x.2.2 ∧ Stp [2, 3, 4, 5, 6, 7, 8, 9] w₀ (col1 C) w x.2.2 ∧ RV w (Mc x.2.2) l vl ∧ RV w (Mc x.2.2) (refsS l) vR ∧ OwnL w x.2.2 3 3 v26 low ∧ OwnL w x.2.2 4 52 vo (outS l i) ∧ OwnL w x.2.2 5 55 x.2.1 (((refsS l).take x.1).filter pr)) (e := fun x => [(0, vl), (5, vR), (6, v26), (13, vo), (14, .int .i64 i), (15, x.2.1), (16, .int .i64 x.1)]) (m := fun x => (refsS l).length - x.1) (x₀ := (0, .slice none 0 0, C1)) (sr 0 (sr 5 (sr 6 (sr 13 (sr 14 (sr 15 (sr 16 (sub_nil _)))))))) ?_ ?_
  · exact ⟨Nat.zero_le _, hF, hT, hl, hrs, hw, ho, OwnL.nil⟩
  intro ⟨k, vp, C1⟩ w16 hI next5
  obtain ⟨hk, hF, hT, hl, hrs, hw, ho, hp⟩ := hI
  try simp only at hk hF hT hl hrs hw ho hp
  show Run _ _ _ _ [(0, vl), (5, vR), (6, v26), (13, vo), (14, .int .i64 i), (15, vp), (16, .int .i64 k)] _ _
  have hpl := List.length_filter_le pr ((refsS l).take k)
  rw [List.length_take] at hpl
  refine run_sq (run_sq (run_pl [yy 0, yy 1, yy 2, yy 3] ?_))
  refine yM 96 16 ?_
  refine yM 97 5 ?_
  refine yS (kq 98 (.call { callee := .builtin .len, args := #[(.tmp 97)], argTypes := #[52] })) rfl rfl (fun w' hS => hrs.lenV rfl Tryz.underlying52 w' ) ?_
  refine yL 99 3 96 98 ?_
  refine Sch.nil ?_
  refine run_i 99 rfl (fun h99 => ?_) (fun h99 => ?_)
  ·
   have hkl : k < (refsS l).length := by omega
   have hft := filter_take pr hkl
   refine run_sk (run_sq (run_bk 9 (run_sq (run_pl [yy 0, yy 1, yy 2, nn 3, yy 4, yy 5] ?_))))
   refine yM 102 6 ?_
   refine yM 103 16 ?_
   refine oR 3 104 22 102 103 hw rfl (by omega) (h := ?_)
   intro g104 hg104
   try simp only [Int.toNat_natCast]
   refine oN (kq 105 (.load 3 (.tmp 104))) rfl rfl trivial hw hg104 (by omega) (by kernel_rfl) rfl rfl ?_
   intro v105 g105
   try simp only [Int.toNat_natCast] at g105
   first | (obtain rfl := rv_nat.1 g105) | (obtain rfl := rv_int.1 g105)
   refine yM 106 14 ?_
   refine yV (kq 107 (.binOp .eql 3 (.tmp 105) (.tmp 106) 3)) (fun _ => val_eql rfl rfl) ?_
   refine Sch.nil ?_
   refine run_i 107 rfl (fun h107 => ?_) (fun h107 => ?_)
   ·
    have hpk : pr (refsS l)[k] = true := by rw [hpr]; exact decide_eq_true ((low_is hW hfx hil hkl (by omega) (by omega) heq).1 (by exact_mod_cast h107))
    rw [if_pos hpk] at hft
    refine run_pl [yy 0, yy 1, yy 2, yy 3, nn 4, nn 5, nn 6, yy 7] ?_
    refine yM 108 15 ?_
    refine yM 109 5 ?_
    refine yM 110 16 ?_
    refine iR 55 111 52 109 110 hrs rfl (h := ?_)
    intro b111 o111 h111
    try simp only [Int.toNat_natCast] at h111
    refine lNA (kq 112 (.load 55 (.tmp 111))) rfl rfl trivial h111 (by kernel_rfl) (by kernel_rfl) rfl rfl ?_
    intro v112 g112
    obtain rfl := rv_couple.1 g112
    refine aT (kq 113 (.buildSlice 52 1 #[(0, (.tmp 112))])) rfl rfl (a_buildSlice (ys := ([(refsS l)[k]] : List Couple)) (e := 55) (bytes := 16) hF (by kernel_rfl) rfl (by decide) (by decide) ⟨rfl, ⟨_, rfl, rv_couple.2 rfl⟩, trivial⟩) ?_
    rintro v113 w17 ⟨s_12, g113, hF⟩
    replace hp := hp.t s_12
    refine aT (kq 114 (.call { callee := .builtin .append, args := #[(.tmp 108), (.tmp 113)], argTypes := #[52, 52] })) rfl rfl (a_append (e := 55) (bytes := 16) hF (by decide) rfl rfl (by kernel_rfl) (by decide) hp g113 (by simp only [List.length_cons, List.length_nil]; omega) (by simp only [List.length_cons, List.length_nil]; omega)) ?_
    rintro v114 w18 ⟨Cw18, s_13, hp, hF⟩
    refine yA 15 114 ?_
    refine Sch.nil (run_inBlock (run_pl [yy 0, yy 1, yy 2] ?_))
    refine yM 100 16 ?_
    refine yI 101 3 100 1 ?_
    refine yA 16 101 ?_
    refine Sch.nil ?_
    replace hT := (hT.t s_12).t s_13; replace hl := (hl.t s_12).t s_13; replace hrs := (hrs.t s_12).t s_13; replace hw := (hw.t s_12).t s_13; replace ho := (ho.t s_12).t s_13
    refine kp (sr 0 (sr 5 (sr 6 (sr 13 (sr 14 (sr 15 (sub_cons 16 rfl (eq_int (by simp)) (sub_nil _)))))))) (next5 (k + 1, v114, Cw18) _ ⟨(by first | omega | (simp only; omega)), hF, hT, hl, hrs, hw, ho, (by simp only; rw [hft]; exact hp)⟩ (by first | omega | (simp only; omega)))
   have hpk : ¬ pr (refsS l)[k] = true := by rw [hpr]; intro e; exact h107 (by have := (low_is hW hfx hil hkl (by omega) (by omega) heq).2 (of_decide_eq_true e); exact_mod_cast this)
   rw [if_neg hpk] at hft
   refine run_sk (run_inBlock (run_pl [yy 0, yy 1, yy 2] ?_))
   refine yM 100 16 ?_
   refine yI 101 3 100 1 ?_
   refine yA 16 101 ?_
   refine Sch.nil ?_
   refine kp (sr 0 (sr 5 (sr 6 (sr 13 (sr 14 (sr 15 (sub_cons 16 rfl (eq_int (by simp)) (sub_nil _)))))))) (next5 (k + 1, vp, C1) _ ⟨(by first | omega | (simp only; omega)), hF, hT, hl, hrs, hw, ho, (by simp only; rw [hft]; exact hp)⟩ (by first | omega | (simp only; omega)))
  have hkl : k = (refsS l).length := by omega
  subst hkl
  rw [List.take_length] at hp
  have hpl2 := List.length_filter_le pr (refsS l)
  replace hF := hF.frz 5
  replace hT := hT.frz (n := 5) (fun b => Nat.lt_of_lt_of_le (col1_lt2 C b) (by decide))
  replace hl := hl.frz 5
  replace hrs := hrs.frz 5
  replace hw := hw.frzK (n := 5) (by decide)
  replace ho := ho.frzK (n := 5) (by decide)
  have hpv := hp.frz (n := 5) (by decide) (by omega)
  refine run_ex 8 ?_
  refine run_pl [yy 0, yy 1, nn 2, nn 3, yy 4] ?_
  refine yM 115 13 ?_
  refine yM 116 15 ?_
  refine aT (kq 117 (.buildSlice 24 1 #[(0, (.tmp 116))])) rfl rfl (a_buildSlice (ys := ([(refsS l).filter pr] : List (List Couple))) (e := 52) (bytes := 24) hF (by kernel_rfl) rfl (by decide) (by decide) ⟨rfl, ⟨_, rfl, hpv⟩, trivial⟩) ?_
  rintro v117 w19 ⟨s_14, g117, hF⟩
  replace ho := ho.t s_14
  refine aT (kq 118 (.call { callee := .builtin .append, args := #[(.tmp 115), (.tmp 117)], argTypes := #[24, 24] })) rfl rfl (a_append (e := 52) (bytes := 24) hF (by decide) rfl rfl (by kernel_rfl) (by decide) ho g117 (by simp only [List.length_cons, List.length_nil]; omega) (by simp only [List.length_cons, List.length_nil]; omega)) ?_
  rintro v118 w20 ⟨Cw20, s_15, ho, hF⟩
  refine yA 13 118 ?_
  refine Sch.nil (run_inBlock (run_pl [yy 0, yy 1, yy 2] ?_))
  refine yM 88 14 ?_
  refine yI 89 3 88 1 ?_
  refine yA 14 89 ?_
  refine Sch.nil ?_
  replace hT := (hT.t s_14).t s_15; replace hl := (hl.t s_14).t s_15; replace hrs := (hrs.t s_14).t s_15; replace hw := (hw.t s_14).t s_15
  refine kp (sr 0 (sr 5 (sr 6 (sr 13 (sub_cons 14 rfl (eq_int (by simp)) (sub_nil _)))))) (next4 (i + 1, v118, Cw20) _ ⟨(by first | omega | (simp only; omega)), hF, hT, hl, hrs, hw, (by simp only; rw [hst]; exact ho)⟩ (by first | omega | (simp only; omega)))
 have hil : i = (refsS l).length := by omega
 subst hil
 rw [outS_all] at ho
 refine run_ex 6 ?_
 refine run_sq (run_pl [yy 0, yy 1, yy 2] ?_)
 refine yM 119 13 ?_
 refine yA 2 119 ?_
 refine yAc 3 (.int .i64 0) ?_
 refine Sch.nil ?_
 refine run_ret2 (by kernel_rfl) Tryz.func27 Tryz.results27 rfl rfl ?_
 rw [hck]
 exact ⟨_, rfl, hT.out1 (by decide), by rw [if_pos rfl]; exact ho.out hT hF0 (Mc_col1 C) (fun b _ => col1_lt C (by decide) b) (by have := partsS_len l; omega)⟩
end
end Go.Proofs.YtmdhggfehknjjaaGreat
