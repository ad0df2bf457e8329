/- Steps through functions of the program. -/
import Derived.Test.YtgooehopkmbkfaaJU5
import Derived.Test.YtgooehopkmbkfaaL2
set_option linter.unusedVariables false
set_option linter.unusedSimpArgs false
set_option maxRecDepth 100000
set_option maxHeartbeats 4000000
namespace Go.Proofs.Ytgooehopkmbkfaa
open Go.K Go.K.Rep

namespace F40
noncomputable def c0 := bodyOf Try.f40
noncomputable def c8 := (cl (cl (cr (cr (cr c0)))))
noncomputable def c9 := (cr (cl (cr (cr (cr c0)))))
noncomputable def c18 := (cl (cr (cr (cl (cl c9)))))
noncomputable def c25 := (cl (cl (cr (cr (cl c18)))))
noncomputable def o7 := rops c25
noncomputable def c26 := (cr (cl (cr (cr (cl c18)))))
noncomputable def c32 := (cl (cr (cr (cr (cl c18)))))
noncomputable def c33 := (cr (cr (cr (cr (cl c18)))))
noncomputable def c34 := (cr (cr (cr (cl (cl c9)))))
noncomputable def c36 := (cl (cr (cr (cr (cr c0)))))
end F40
/-- 'chosen'. -/
theorem chosen_ok {w₀ : World} {C : Nat → Nat} {n m : Int} {l : List K.Edge} {cs : List Couple} {vl vc : Value} (hF : Lim w₀ C) (hV : VE n m l) (hl : RV w₀ (Mc C) l vl) (hc : RV w₀ (Mc C) cs vc) (hcl : cs.length ≤ 1000000) :
    Calls Try.prog 40 #[vl, vc] w₀ (Ret fun v w' => ∃ (t : Int) (b : Bool), v = .tuple #[.int .i64 t, .bool b] ∧ Stp [] w₀ C w' C ∧ (b = true ↔ ChO l cs) ∧ (b = true → t = totL l cs cs.length)) := by
 have hF0 := hF
 have hT := Stp.refl [2, 3, 4, 5, 6, 7, 8, 9] w₀ (col1 C)
 replace hF := hF.col1
 replace hl : RV w₀ (Mc (col1 C)) l vl := by rw [Mc_col1]; exact hl
 replace hc : RV w₀ (Mc (col1 C)) cs vc := by rw [Mc_col1]; exact hc
 refine calls_start (c := F40.c0) (N := 73) [vl, vc] Try.func40 (by kernel_rfl) (by kernel_rfl) (by kernel_rfl) ?_
 show Run _ _ _ _ [(0, vl), (1, vc)] _ _
 refine run_sq ?_
 refine run_pl [yy 0, yy 1] ?_
 refine yAc 4 (.int .i64 0) ?_
 refine yAc 5 (.bool false) ?_
 refine Sch.nil ?_
 refine run_sq ?_
 refine run_pl [yy 0] ?_
 refine yAc 6 (.int .i64 0) ?_
 refine Sch.nil ?_
 refine run_sq ?_
 refine run_pl [nn 0, yy 1] ?_
 refine aS (kq 12 (.makeMap 87 none)) rfl rfl (a_makeMap hF 3 kvI vvB) ?_
 rintro _ wm ⟨Cm, bm, rfl, hs, hm, hF⟩
 refine ⟨trivial, ?_⟩
 replace hT := hT.t hs; replace hl := hl.t hs; replace hc := hc.t hs
 refine yA 7 12 ?_
 refine Sch.nil ?_
 refine run_sq ?_
 refine run_sq ?_
 refine run_pl [yy 0, yy 1, yy 2] ?_
 refine yM 13 1 ?_
 refine yS (kq 14 (.call { callee := .builtin .len, args := #[(.tmp 13)], argTypes := #[24] })) rfl rfl (fun w' hS => hc.lenV rfl Try.underlying24 w' ) ?_
 refine yV (kq 15 (.move (.const (.int .i64 0)))) (fun _ => val_move rfl) ?_
 refine Sch.nil ?_
 refine run_bk 0 ?_
 
 refine run_lp (ι := Nat × (List (Int × Bool)) × (Nat → Nat)) (I := fun x w => x.1 ≤ cs.length ∧ (∀ q, q < x.1 → okC l cs q) ∧ UsM x.2.1 cs x.1 ∧ 0 ≤ totL l cs x.1 ∧ totL l cs x.1 ≤ 65536 * x.1 ∧ Lim w x.2.2 ∧ Stp [2, 3, 4, 5, 6, 7, 8, 9] w₀ (col1 C) w x.2.2 ∧ RV w (Mc x.2.2) l vl ∧ RV w (Mc x.2.2) cs vc ∧ OwnM w x.2.2 3 bm kvI vvB x.2.1) (e := fun x => [(0, vl), (1, vc), (6, .int .i64 (totL l cs x.1)), (7, .map (some bm)), (13, vc), (14, .int .i64 cs.length), (15, .int .i64 x.1)]) (m := fun x => cs.length - x.1) (x₀ := (0, [], Cm)) (sr 0 (sr 1 (sr 6 (sr 7 (sr 13 (sr 14 (sr 15 (sub_nil _)))))))) ?_ ?_
 · exact ⟨Nat.zero_le _, (fun q hq => by simp only at hq; omega), UsM.start, (Int.le_refl 0), (Int.le_refl 0), hF, hT, hl, hc, hm⟩
 intro ⟨k, um, C1⟩ w1 hI next
 obtain ⟨hk, h0, hu, ht1, ht2, hF, hT, hl, hc, hm⟩ := hI
 try simp only at hk h0 hu ht1 ht2 hF hT hl hc hm
 have next1 := next
 clear next
 show Run _ _ _ _ [(0, vl), (1, vc), (6, .int .i64 (totL l cs k)), (7, .map (some bm)), (13, vc), (14, .int .i64 cs.length), (15, .int .i64 k)] _ _
 have hlen := hV.len
 have hle := hc.le
 refine run_sq ?_
 refine run_pl [yy 0] ?_
 refine yV (kq 16 (.binOp .lss 3 (.tmp 15) (.tmp 14) 3)) (fun _ => val_lss rfl rfl) ?_
 refine Sch.nil ?_
 refine run_sq ?_
 refine run_i 16 rfl (fun h16 => ?_) (fun h16 => ?_)
 ·
  have hkl : k < cs.length := by omega
  have hcx : cs[k]! = cs[k]'hkl := getElem!_pos _ _ _
  refine run_sk ?_
  refine run_sq ?_
  refine run_bk 1 ?_
  refine run_sq ?_
  refine run_pl [yy 0, yy 1, nn 2, nn 3, yy 4, nn 5] ?_
  refine yM 17 15 ?_
  refine iS (e := 53) (kq 18 (.indexAddr 24 (.tmp 13) (.tmp 15))) rfl rfl hc rfl (by kernel_rfl) rfl (by omega) (by omega) ?_
  intro b18 o18 h18
  try simp only [Int.toNat_natCast] at h18
  refine lNA (kq 19 (.load 53 (.tmp 18))) rfl rfl trivial h18 (by kernel_rfl) (by kernel_rfl) rfl rfl ?_
  intro v19 g19
  obtain rfl := rv_couple.1 g19
  refine aS (kq 9 (.alloc 53)) rfl rfl (a_alloc (cs := [.int .i64 0, .int .i64 0]) hF 4 (by kernel_rfl)) ?_
  rintro _ w2 ⟨Cw2, bw2, rfl, hs, hx, hF⟩
  refine ⟨trivial, ?_⟩
  replace hT := hT.t hs; replace hl := hl.t hs; replace hc := hc.t hs; replace hm := hm.t hs; replace h18 := h18.t hs
  refine yA 8 17 ?_
  refine aN (k0 (.store 53 (.tmp 9) (.tmp 19))) rfl (a_storeAll (vs := encR (cs[k]'hkl)) (n := 2) rfl rfl (by kernel_rfl) rfl rfl (by intro u hu; simp only [encR, List.mem_cons, List.not_mem_nil, or_false] at hu; rcases hu with rfl | rfl <;> rfl) hx rfl) ?_
  rintro _ w3 ⟨rfl, hs, hx⟩
  refine ⟨trivial, ?_⟩
  replace hF := hF.st hs
  replace hT := hT.t hs; replace hl := hl.t hs; replace hc := hc.t hs; replace hm := hm.t hs; replace h18 := h18.t hs
  refine Sch.nil ?_
  refine run_sq ?_
  refine run_pl [yy 0, yy 1, nn 2, yy 3, nn 4, yy 5, nn 6, yy 7, yy 8, yy 9, yy 10, yy 11] ?_
  refine yM 21 0 ?_
  refine yF 22 53 9 0 0 ?_
  refine nS (kq 23 (.load 3 (.tmp 22))) rfl rfl trivial (val_loadOwn hx.at_ (by kernel_rfl) rfl rfl) ?_
  refine yF 24 53 9 1 1 ?_
  refine nS (kq 25 (.load 3 (.tmp 24))) rfl rfl trivial (val_loadOwn hx.at_ (by kernel_rfl) rfl rfl) ?_
  refine yV (kq 26 (.build 46 #[(0, (.tmp 23)), (1, (.tmp 25))])) (fun _ => val_build (zs := [.int .i64 0, .int .i64 0, .int .i64 0]) (ps := [(0, 1), (1, 1), (2, 1)]) (qs := [(0, [.int .i64 (cs[k]'hkl).a]), (1, [.int .i64 (cs[k]'hkl).b])]) (cs := [.int .i64 (cs[k]'hkl).a, .int .i64 (cs[k]'hkl).b, .int .i64 0]) (by kernel_rfl) (by kernel_rfl) (by exact ⟨rfl, ⟨_, rfl, rfl⟩, rfl, ⟨_, rfl, rfl⟩, trivial⟩) rfl) ?_
  refine cS (kq 27 (.call { callee := .value (.func 53), args := #[(.tmp 21), (.tmp 26), (.func 31)], argTypes := #[23, 46, 61] })) rfl rfl (ent Try.call53 rfl) (bsearch_ok (y := ⟨(cs[k]'hkl).a, (cs[k]'hkl).b, 0⟩) hF hl hV.ord (by omega)) ?_
  rintro vw4 w4 ⟨kk, bb, rfl, hs, hb1, hb2⟩
  refine ⟨trivial, ?_⟩
  replace hF := hF.st hs
  replace hT := hT.t hs; replace hl := hl.t hs; replace hc := hc.t hs; replace hm := hm.t hs; replace h18 := h18.t hs; replace hx := hx.t hs
  refine yM 20 27 ?_
  refine yV (kq 28 (.extract (.tmp 20) 0)) (fun _ => val_extract rfl rfl) ?_
  refine yV (kq 29 (.extract (.tmp 20) 1)) (fun _ => val_extract rfl rfl) ?_
  refine yA 10 28 ?_
  refine yA 11 29 ?_
  refine Sch.nil ?_
  refine run_sq ?_
  refine run_sq ?_
  refine run_cut 60 (decide (¬ okC l cs k)) (Cw2) ?_ ?_
  ·
   intro hcut
   by_cases hA : bb = true
   ·
    obtain ⟨hkk, hke⟩ := hb1 hA
    by_cases hB : (l[kk]'hkk).w ≤ 0
    ·
     refine run_draw (id := 7) (ops := F40.o7) [] (Cw2) [yy 0, yy 1, yy 2, yy 3, yy 4, yy 5, yy 6, yy 7, yy 8, yy 9, yy 10, yy 11, yy 12, yy 13, yy 14, yy 15, yy 16, yy 17, yy 18, yy 19, yy 20, yy 21, yy 22, yy 23, yy 24, yy 25, yy 26, yy 27, yy 28, yy 29, yy 30] Try_mixed (by kernel_rfl) (by kernel_rfl) (by kernel_rfl) ?_
     intro w5 hs
     replace hF := hF.st hs
     replace hT := hT.t hs; replace hl := hl.t hs; replace hc := hc.t hs; replace hm := hm.t hs; replace h18 := h18.t hs; replace hx := hx.t hs
     have hcs := hs
     refine yV (kq 30 (.move (.tmp 11))) (fun _ => val_is (val_move rfl) (show _ = Value.bool true from congrArg Value.bool (hA))) ?_
     refine yV (kq 31 (.unOp .not 4 (.tmp 30))) (fun _ => val_not rfl) ?_
     refine yM 32 31 ?_
     refine yMg 33 0 2 false ?_
     refine yMg 34 10 2 false ?_
     refine iS (e := 46) (kg 35 (.indexAddr 23 (.tmp 33) (.tmp 34)) 2 false) rfl rfl hl rfl (by kernel_rfl) rfl (by omega) (by omega) ?_
     intro b35 o35 h35
     try simp only [Int.toNat_natCast] at h35
     have h36 := RA.ew h35
     refine yFg 36 46 35 2 2 2 false ?_
     refine lS (kg 37 (.load 3 (.tmp 36)) 2 false) rfl rfl (fun w' hS => h36.sy hS) h36 (by kernel_rfl) rfl rfl ?_
     intro v37 g37
     first | (obtain rfl := rv_nat.1 g37) | (obtain rfl := rv_int.1 g37)
     refine yV (kg 38 (.binOp .leq 3 (.tmp 37) (.const (.int .i64 0)) 3) 2 false) (fun _ => val_T (val_leq rfl rfl) hB) ?_
     refine yOf 39 32 38 ?_
     refine yM 40 39 ?_
     refine pX 41 10 false ?_
     refine pX 42 10 false ?_
     refine pX 43 10 false ?_
     refine pX 44 10 false ?_
     refine yOt 45 40 44 ?_
     refine yM 46 45 ?_
     refine pX 47 16 false ?_
     refine pX 48 16 false ?_
     refine pX 49 16 false ?_
     refine pX 50 19 true ?_
     refine pX 51 19 true ?_
     refine pX 52 19 true ?_
     refine pX 53 19 true ?_
     refine pX 54 19 true ?_
     refine pX 55 19 true ?_
     refine pX 56 19 true ?_
     refine pX 57 19 true ?_
     refine pX 58 19 true ?_
     refine pX 59 16 false ?_
     refine yOt 60 46 59 ?_
     exact Sch.nil (hcut _ _ _ hcs rfl (by rw [decide_eq_true (show ¬ okC l cs k from okC.no2 hV.ord hcx (List.getElem_mem hkk) hke hB)]) (sk 31))
    ·
     by_cases hC : (mget um (cs[k]'hkl).b).getD false = true
     ·
      refine run_draw (id := 7) (ops := F40.o7) [] (Cw2) [yy 0, yy 1, yy 2, yy 3, yy 4, yy 5, yy 6, yy 7, yy 8, yy 9, yy 10, yy 11, yy 12, yy 13, yy 14, yy 15, yy 16, yy 17, yy 18, yy 19, yy 20, yy 21, yy 22, yy 23, yy 24, yy 25, yy 26, yy 27, yy 28, yy 29, yy 30] Try_mixed (by kernel_rfl) (by kernel_rfl) (by kernel_rfl) ?_
      intro w6 hs
      replace hF := hF.st hs
      replace hT := hT.t hs; replace hl := hl.t hs; replace hc := hc.t hs; replace hm := hm.t hs; replace h18 := h18.t hs; replace hx := hx.t hs
      have hcs := hs
      refine yV (kq 30 (.move (.tmp 11))) (fun _ => val_is (val_move rfl) (show _ = Value.bool true from congrArg Value.bool (hA))) ?_
      refine yV (kq 31 (.unOp .not 4 (.tmp 30))) (fun _ => val_not rfl) ?_
      refine yM 32 31 ?_
      refine yMg 33 0 2 false ?_
      refine yMg 34 10 2 false ?_
      refine iS (e := 46) (kg 35 (.indexAddr 23 (.tmp 33) (.tmp 34)) 2 false) rfl rfl hl rfl (by kernel_rfl) rfl (by omega) (by omega) ?_
      intro b35 o35 h35
      try simp only [Int.toNat_natCast] at h35
      have h36 := RA.ew h35
      refine yFg 36 46 35 2 2 2 false ?_
      refine lS (kg 37 (.load 3 (.tmp 36)) 2 false) rfl rfl (fun w' hS => h36.sy hS) h36 (by kernel_rfl) rfl rfl ?_
      intro v37 g37
      first | (obtain rfl := rv_nat.1 g37) | (obtain rfl := rv_int.1 g37)
      refine yV (kg 38 (.binOp .leq 3 (.tmp 37) (.const (.int .i64 0)) 3) 2 false) (fun _ => val_F (val_leq rfl rfl) hB) ?_
      refine yOf 39 32 38 ?_
      refine yM 40 39 ?_
      refine yMg 41 7 10 false ?_
      refine yFg 42 53 9 1 1 10 false ?_
      refine yS (kg 43 (.load 3 (.tmp 42)) 10 false) rfl rfl (fun w' hS => val_loadOwn (hx.sy hS) (by kernel_rfl) rfl rfl) ?_
      refine yS (kg 44 (.lookup 87 (.tmp 41) (.tmp 43) false) 10 false) rfl rfl (fun w' hS => (hm.stay hS (by decide)).lookup (z0 := false) (k := (cs[k]'hkl).b) Try.underlying87 (keyOK_int Try.underlying3) Try.zeroValue4 rfl rfl) ?_
      rw [hC]
      refine yOf 45 40 44 ?_
      refine yM 46 45 ?_
      refine pX 47 16 false ?_
      refine pX 48 16 false ?_
      refine pX 49 16 false ?_
      refine pX 50 19 true ?_
      refine pX 51 19 true ?_
      refine pX 52 19 true ?_
      refine pX 53 19 true ?_
      refine pX 54 19 true ?_
      refine pX 55 19 true ?_
      refine pX 56 19 true ?_
      refine pX 57 19 true ?_
      refine pX 58 19 true ?_
      refine pX 59 16 false ?_
      refine yOt 60 46 59 ?_
      exact Sch.nil (hcut _ _ _ hcs rfl (by rw [decide_eq_true (show ¬ okC l cs k from okC.no3 hcx hu hC)]) (sk 31))
     ·
      have hlast := okC.last hcx (List.getElem_mem hkk) hke hB hu (Bool.eq_false_iff.2 hC)
      by_cases hD : (0 : Int) < k
      ·
       refine run_draw (id := 7) (ops := F40.o7) [] (Cw2) [yy 0, yy 1, yy 2, yy 3, yy 4, yy 5, yy 6, yy 7, yy 8, yy 9, yy 10, yy 11, yy 12, yy 13, yy 14, yy 15, yy 16, yy 17, yy 18, yy 19, yy 20, yy 21, yy 22, yy 23, yy 24, yy 25, yy 26, yy 27, yy 28, yy 29, yy 30] Try_mixed (by kernel_rfl) (by kernel_rfl) (by kernel_rfl) ?_
       intro w7 hs
       replace hF := hF.st hs
       replace hT := hT.t hs; replace hl := hl.t hs; replace hc := hc.t hs; replace hm := hm.t hs; replace h18 := h18.t hs; replace hx := hx.t hs
       have hcs := hs
       refine yV (kq 30 (.move (.tmp 11))) (fun _ => val_is (val_move rfl) (show _ = Value.bool true from congrArg Value.bool (hA))) ?_
       refine yV (kq 31 (.unOp .not 4 (.tmp 30))) (fun _ => val_not rfl) ?_
       refine yM 32 31 ?_
       refine yMg 33 0 2 false ?_
       refine yMg 34 10 2 false ?_
       refine iS (e := 46) (kg 35 (.indexAddr 23 (.tmp 33) (.tmp 34)) 2 false) rfl rfl hl rfl (by kernel_rfl) rfl (by omega) (by omega) ?_
       intro b35 o35 h35
       try simp only [Int.toNat_natCast] at h35
       have h36 := RA.ew h35
       refine yFg 36 46 35 2 2 2 false ?_
       refine lS (kg 37 (.load 3 (.tmp 36)) 2 false) rfl rfl (fun w' hS => h36.sy hS) h36 (by kernel_rfl) rfl rfl ?_
       intro v37 g37
       first | (obtain rfl := rv_nat.1 g37) | (obtain rfl := rv_int.1 g37)
       refine yV (kg 38 (.binOp .leq 3 (.tmp 37) (.const (.int .i64 0)) 3) 2 false) (fun _ => val_F (val_leq rfl rfl) hB) ?_
       refine yOf 39 32 38 ?_
       refine yM 40 39 ?_
       refine yMg 41 7 10 false ?_
       refine yFg 42 53 9 1 1 10 false ?_
       refine yS (kg 43 (.load 3 (.tmp 42)) 10 false) rfl rfl (fun w' hS => val_loadOwn (hx.sy hS) (by kernel_rfl) rfl rfl) ?_
       refine yS (kg 44 (.lookup 87 (.tmp 41) (.tmp 43) false) 10 false) rfl rfl (fun w' hS => (hm.stay hS (by decide)).lookup (z0 := false) (k := (cs[k]'hkl).b) Try.underlying87 (keyOK_int Try.underlying3) Try.zeroValue4 rfl rfl) ?_
       rw [Bool.eq_false_iff.2 hC]
       refine yOf 45 40 44 ?_
       refine yM 46 45 ?_
       refine yMg 47 8 16 false ?_
       refine yV (kg 48 (.binOp .gtr 3 (.tmp 47) (.const (.int .i64 0)) 3) 16 false) (fun _ => val_T (val_gtr rfl rfl) hD) ?_
       refine yMg 49 48 16 false ?_
       refine yMg 50 1 19 true ?_
       refine yMg 51 8 19 true ?_
       refine yV (kg 52 (.binOp .sub 3 (.tmp 51) (.const (.int .i64 1)) 3) 19 true) (fun _ => val_subi rfl rfl (by omega) (by omega)) ?_
       refine iS (e := 53) (kg 53 (.indexAddr 24 (.tmp 50) (.tmp 52)) 19 true) rfl rfl hc rfl (by kernel_rfl) rfl (by omega) (by omega) ?_
       intro b53 o53 h53
       try simp only [Int.toNat_natCast] at h53
       have h54 := RA.ca h53
       refine yFg 54 53 53 0 0 19 true ?_
       refine lS (kg 55 (.load 3 (.tmp 54)) 19 true) rfl rfl (fun w' hS => h54.sy hS) h54 (by kernel_rfl) rfl rfl ?_
       intro v55 g55
       first | (obtain rfl := rv_nat.1 g55) | (obtain rfl := rv_int.1 g55)
       refine yFg 56 53 9 0 0 19 true ?_
       refine yS (kg 57 (.load 3 (.tmp 56)) 19 true) rfl rfl (fun w' hS => val_loadOwn (hx.sy hS) (by kernel_rfl) rfl rfl) ?_
       refine yV (kg 58 (.binOp .geq 3 (.tmp 55) (.tmp 57) 3) 19 true) (fun _ => val_geq rfl rfl) ?_
       refine yV (kg 59 (.pick (.tmp 49) (.tmp 58) (.const (.bool false))) 16 false) (fun _ => val_pick_t rfl rfl) ?_
       refine yOf 60 46 59 ?_
       exact Sch.nil (hcut _ _ _ hcs rfl (by
  congr 1; apply decide_eq_decide.2; rw [hlast, getElem!_pos cs (k - 1) (by omega)]
  have e1 : ((k : Int) - 1).toNat = k - 1 := by omega
  simp only [e1]; omega) (sk 31))
      ·
       refine run_draw (id := 7) (ops := F40.o7) [] (Cw2) [yy 0, yy 1, yy 2, yy 3, yy 4, yy 5, yy 6, yy 7, yy 8, yy 9, yy 10, yy 11, yy 12, yy 13, yy 14, yy 15, yy 16, yy 17, yy 18, yy 19, yy 20, yy 21, yy 22, yy 23, yy 24, yy 25, yy 26, yy 27, yy 28, yy 29, yy 30] Try_mixed (by kernel_rfl) (by kernel_rfl) (by kernel_rfl) ?_
       intro w8 hs
       replace hF := hF.st hs
       replace hT := hT.t hs; replace hl := hl.t hs; replace hc := hc.t hs; replace hm := hm.t hs; replace h18 := h18.t hs; replace hx := hx.t hs
       have hcs := hs
       refine yV (kq 30 (.move (.tmp 11))) (fun _ => val_is (val_move rfl) (show _ = Value.bool true from congrArg Value.bool (hA))) ?_
       refine yV (kq 31 (.unOp .not 4 (.tmp 30))) (fun _ => val_not rfl) ?_
       refine yM 32 31 ?_
       refine yMg 33 0 2 false ?_
       refine yMg 34 10 2 false ?_
       refine iS (e := 46) (kg 35 (.indexAddr 23 (.tmp 33) (.tmp 34)) 2 false) rfl rfl hl rfl (by kernel_rfl) rfl (by omega) (by omega) ?_
       intro b35 o35 h35
       try simp only [Int.toNat_natCast] at h35
       have h36 := RA.ew h35
       refine yFg 36 46 35 2 2 2 false ?_
       refine lS (kg 37 (.load 3 (.tmp 36)) 2 false) rfl rfl (fun w' hS => h36.sy hS) h36 (by kernel_rfl) rfl rfl ?_
       intro v37 g37
       first | (obtain rfl := rv_nat.1 g37) | (obtain rfl := rv_int.1 g37)
       refine yV (kg 38 (.binOp .leq 3 (.tmp 37) (.const (.int .i64 0)) 3) 2 false) (fun _ => val_F (val_leq rfl rfl) hB) ?_
       refine yOf 39 32 38 ?_
       refine yM 40 39 ?_
       refine yMg 41 7 10 false ?_
       refine yFg 42 53 9 1 1 10 false ?_
       refine yS (kg 43 (.load 3 (.tmp 42)) 10 false) rfl rfl (fun w' hS => val_loadOwn (hx.sy hS) (by kernel_rfl) rfl rfl) ?_
       refine yS (kg 44 (.lookup 87 (.tmp 41) (.tmp 43) false) 10 false) rfl rfl (fun w' hS => (hm.stay hS (by decide)).lookup (z0 := false) (k := (cs[k]'hkl).b) Try.underlying87 (keyOK_int Try.underlying3) Try.zeroValue4 rfl rfl) ?_
       rw [Bool.eq_false_iff.2 hC]
       refine yOf 45 40 44 ?_
       refine yM 46 45 ?_
       refine yMg 47 8 16 false ?_
       refine yV (kg 48 (.binOp .gtr 3 (.tmp 47) (.const (.int .i64 0)) 3) 16 false) (fun _ => val_F (val_gtr rfl rfl) hD) ?_
       refine yMg 49 48 16 false ?_
       refine pX 50 19 true ?_
       refine pX 51 19 true ?_
       refine pX 52 19 true ?_
       refine pX 53 19 true ?_
       refine pX 54 19 true ?_
       refine pX 55 19 true ?_
       refine pX 56 19 true ?_
       refine pX 57 19 true ?_
       refine pX 58 19 true ?_
       refine yV (kg 59 (.pick (.tmp 49) (.tmp 58) (.const (.bool false))) 16 false) (fun _ => val_pick_f rfl rfl) ?_
       refine yOf 60 46 59 ?_
       exact Sch.nil (hcut _ _ _ hcs rfl (by rw [decide_eq_false (fun e => e (hlast.2 (fun h => by omega)))]) (sk 31))
   ·
    refine run_draw (id := 7) (ops := F40.o7) [] (Cw2) [yy 0, yy 1, yy 2, yy 3, yy 4, yy 5, yy 6, yy 7, yy 8, yy 9, yy 10, yy 11, yy 12, yy 13, yy 14, yy 15, yy 16, yy 17, yy 18, yy 19, yy 20, yy 21, yy 22, yy 23, yy 24, yy 25, yy 26, yy 27, yy 28, yy 29, yy 30] Try_mixed (by kernel_rfl) (by kernel_rfl) (by kernel_rfl) ?_
    intro w9 hs
    replace hF := hF.st hs
    replace hT := hT.t hs; replace hl := hl.t hs; replace hc := hc.t hs; replace hm := hm.t hs; replace h18 := h18.t hs; replace hx := hx.t hs
    have hcs := hs
    refine yV (kq 30 (.move (.tmp 11))) (fun _ => val_is (val_move rfl) (show _ = Value.bool false from congrArg Value.bool (Bool.eq_false_iff.2 hA))) ?_
    refine yV (kq 31 (.unOp .not 4 (.tmp 30))) (fun _ => val_not rfl) ?_
    refine yM 32 31 ?_
    refine pX 33 2 false ?_
    refine pX 34 2 false ?_
    refine pX 35 2 false ?_
    refine pX 36 2 false ?_
    refine pX 37 2 false ?_
    refine pX 38 2 false ?_
    refine yOt 39 32 38 ?_
    refine yM 40 39 ?_
    refine pX 41 10 false ?_
    refine pX 42 10 false ?_
    refine pX 43 10 false ?_
    refine pX 44 10 false ?_
    refine yOt 45 40 44 ?_
    refine yM 46 45 ?_
    refine pX 47 16 false ?_
    refine pX 48 16 false ?_
    refine pX 49 16 false ?_
    refine pX 50 19 true ?_
    refine pX 51 19 true ?_
    refine pX 52 19 true ?_
    refine pX 53 19 true ?_
    refine pX 54 19 true ?_
    refine pX 55 19 true ?_
    refine pX 56 19 true ?_
    refine pX 57 19 true ?_
    refine pX 58 19 true ?_
    refine pX 59 16 false ?_
    refine yOt 60 46 59 ?_
    exact Sch.nil (hcut _ _ _ hcs rfl (by rw [decide_eq_true (show ¬ okC l cs k from okC.no1 hcx (hb2 (Bool.eq_false_iff.2 hA)))]) (sk 31))
  intro w10 hs
  replace hF := hF.st hs
  replace hT := hT.t hs; replace hl := hl.t hs; replace hc := hc.t hs; replace hm := hm.t hs; replace h18 := h18.t hs; replace hx := hx.t hs
  refine run_i 60 rfl (fun h60 => ?_) (fun h60 => ?_)
  ·
   refine run_sq ?_
   refine run_pl [yy 0, yy 1] ?_
   refine yAc 4 (.int .i64 0) ?_
   refine yAc 5 (.bool false) ?_
   refine Sch.nil ?_
   refine run_ret2 (by kernel_rfl) Try.func40 Try.results40 rfl rfl ?_
   exact ⟨_, false, rfl, hT.out1 (by decide), ⟨fun e => (by cases e), fun e => absurd (e k hkl) h60⟩, fun e => (by cases e)⟩
  ·
   have hok : okC l cs k := Classical.not_not.1 h60
   have hbt : bb = true := by
     cases e : bb with
     | true => rfl
     | false => exact absurd hok (okC.no1 hcx (hb2 e))
   obtain ⟨hkk, hke⟩ := hb1 hbt
   have hwp : 0 < (l[kk]'hkk).w := by
     rcases Int.lt_or_le 0 (l[kk]'hkk).w with h | h
     · exact h
     · exact absurd hok (okC.no2 hV.ord hcx (List.getElem_mem hkk) hke h)
   have hwo := (hV.ok _ (List.getElem_mem hkk)).2
   have hts : totL l cs (k + 1) = totL l cs k + (l[kk]'hkk).w := by
     show totL l cs k + edW l cs[k]!.a.toNat cs[k]!.b.toNat = _
     rw [hcx, show (cs[k]'hkl).a = (l[kk]'hkk).a from by have := congrArg Couple.a hke; exact this.symm, show (cs[k]'hkl).b = (l[kk]'hkk).b from by have := congrArg Couple.b hke; exact this.symm, hV.at_ (List.getElem_mem hkk)]
   refine run_sk ?_
   refine run_sq ?_
   refine run_pl [yy 0, yy 1, nn 2, nn 3] ?_
   refine yM 61 7 ?_
   refine yF 62 53 9 1 1 ?_
   refine nS (kq 63 (.load 3 (.tmp 62))) rfl rfl trivial (val_loadOwn hx.at_ (by kernel_rfl) rfl rfl) ?_
   refine aN (k0 (.mapUpdate 87 (.tmp 61) (.tmp 63) (.const (.bool true)))) rfl (a_mapUpdate (k := (cs[k]'hkl).b) (u := true) hm Try.underlying87 (keyOK_int Try.underlying3) rfl rfl rfl) ?_
   rintro _ w11 ⟨rfl, hs, hm⟩
   refine ⟨trivial, ?_⟩
   replace hF := hF.st hs
   replace hT := hT.t hs; replace hl := hl.t hs; replace hc := hc.t hs; replace h18 := h18.t hs; replace hx := hx.t hs
   refine Sch.nil ?_
   refine run_pl [yy 0, yy 1, yy 2, yy 3, yy 4, nn 5, yy 6, yy 7] ?_
   refine yM 64 6 ?_
   refine yM 65 0 ?_
   refine yM 66 10 ?_
   refine iS (e := 46) (kq 67 (.indexAddr 23 (.tmp 65) (.tmp 66))) rfl rfl hl rfl (by kernel_rfl) rfl (by omega) (by omega) ?_
   intro b67 o67 h67
   try simp only [Int.toNat_natCast] at h67
   have h68 := RA.ew h67
   refine yF 68 46 67 2 2 ?_
   refine lN (kq 69 (.load 3 (.tmp 68))) rfl rfl trivial h68 (by kernel_rfl) rfl rfl ?_
   intro v69 g69
   first | (obtain rfl := rv_nat.1 g69) | (obtain rfl := rv_int.1 g69)
   refine yV (kq 70 (.binOp .add 3 (.tmp 64) (.tmp 69) 3)) (fun _ => val_addi rfl rfl (by omega) (by omega)) ?_
   refine yA 6 70 ?_
   refine Sch.nil ?_
   rw [← hts]
   refine run_inBlock ?_
   refine run_pl [yy 0, yy 1] ?_
   refine yV (kq 71 (.binOp .add 3 (.tmp 15) (.const (.int .i64 1)) 3)) (fun _ => val_addi rfl rfl (by omega) (by omega)) ?_
   refine yM 15 71 ?_
   refine Sch.nil ?_
   refine kp (sub_cons 0 rfl rfl (sub_cons 1 rfl rfl (sub_cons 6 rfl rfl (sub_cons 7 rfl rfl (sub_cons 13 rfl rfl (sub_cons 14 rfl rfl (sub_cons 15 rfl (eq_int (by simp)) (sub_nil _)))))))) (next1 (k + 1, mput um (cs[k]'hkl).b true, Cw2) _ ⟨(by first | omega | (simp only; omega)), (fun q hq => by
       simp only at hq
       by_cases e : q = k
       · subst e; exact hok
       · exact h0 q (by omega)), (hu.put (by rw [hcx])), (by simp only; omega), (by simp only; omega), hF, hT, hl, hc, hm⟩ (by first | omega | (simp only; omega)))
 ·
  have hkl : k = cs.length := by omega
  rw [hkl]
  rw [hkl] at h0
  refine run_ex 0 ?_
  refine run_sq ?_
  refine run_pl [yy 0, yy 1, yy 2] ?_
  refine yM 72 6 ?_
  refine yA 4 72 ?_
  refine yAc 5 (.bool true) ?_
  refine Sch.nil ?_
  refine run_ret2 (by kernel_rfl) Try.func40 Try.results40 rfl rfl ?_
  exact ⟨_, true, rfl, hT.out1 (by decide), ⟨fun _ => h0, fun _ => rfl⟩, fun _ => rfl⟩
end Go.Proofs.Ytgooehopkmbkfaa
