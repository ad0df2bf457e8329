/- Steps through functions of the program. -/
import Derived.Test.YtdmgmlmlielfbaaGreatJG4
import Derived.Test.YtdmgmlmlielfbaaGreatL3
set_option linter.unusedVariables false
set_option linter.unusedSimpArgs false
set_option maxRecDepth 100000
set_option maxHeartbeats 4000000
namespace Go.Proofs.YtdmgmlmlielfbaaGreat
open Go.K Go.K.Rep
noncomputable section
theorem solveY_ok {w₀ : World} {C : Nat → Nat} {l : List Bond} {ds : List Dcs} {vl vz : Value} (hF : Lim w₀ C) (hl : RV w₀ (Mc C) l vl) (hz : RV w₀ (Mc C) ds vz) (hv : Vld l) (h8 : (refsS l).length ≤ 8) (hm4 : ds.length ≤ 4096) (hO : ∀ i (h : i < ds.length), dcsOK ds[i]) (hA1 : ∀ i (h : i + 1 < ds.length), cmpD ds[i] ds[i + 1] < 0) : Calls Tryz.prog 23 #[vl, vz] w₀ (Ret fun v w' => Stp [] w₀ C w' C ∧ ∃ zs vp, StS cmpH (allW (wayX ds) (splitS l)) zs ∧ v = .tuple #[vp, .int .i64 (valueB l zs), .int .i64 0] ∧ RV w' (Mc C) zs vp) :=
  (solveX_ok hF hl hz hv (by omega) hm4 hO hA1).mono (Ret.mono fun v w' h => ⟨h.1, by
    rcases h.2 with ⟨k, hk, h2, _⟩ | ⟨_, h2⟩
    · have := split_refsl hk; omega
    · exact h2⟩)
namespace F11
def c0 := bodyOf Tryz.f11
def c10 := (cr (cr (cr (cr (cr c0)))))
def o6 := rops (cl (cr c10))
end F11
theorem awake_ok {w₀ : World} {C : Nat → Nat} (hF : Lim w₀ C) : Calls Tryz.prog 11 #[] w₀ (Ret fun v w' => v = .bool true ∧ Stp [] w₀ C w' C) := by
 have hF0 := hF
 have hT := Stp.refl [2, 3, 4, 5, 6, 7, 8, 9] w₀ (col1 C)
 replace hF := hF.col1
 refine c_st F11.c0 103 [] Tryz.func11 ?_
 show Run _ _ _ _ [] _ _
 refine run_sq (run_pl [yy 0] ?_)
 refine yAc 0 (.bool false) ?_
 refine Sch.nil (run_sq (run_pl [yy 0, yy 1, yy 2, yy 3, nn 4, nn 5, nn 6, nn 7, nn 8, nn 9, nn 10, nn 11] ?_))
 refine yV (kq 15 (.build 47 #[(1, (.const (.int .i64 1)))])) (fun _ => val_build (zs := [.int .i64 0, .int .i64 0]) (ps := [(0, 1), (1, 1)]) (qs := [(1, [.int .i64 1])]) (cs := [.int .i64 0, .int .i64 1]) (by kernel_rfl) (by kernel_rfl) ⟨rfl, ⟨_, rfl, rfl⟩, trivial⟩ rfl) ?_
 refine yV (kq 16 (.build 47 #[(0, (.const (.int .i64 1))), (1, (.const (.int .i64 5)))])) (fun _ => val_build (zs := [.int .i64 0, .int .i64 0]) (ps := [(0, 1), (1, 1)]) (qs := [(0, [.int .i64 1]), (1, [.int .i64 5])]) (cs := [.int .i64 1, .int .i64 5]) (by kernel_rfl) (by kernel_rfl) ⟨rfl, ⟨_, rfl, rfl⟩, rfl, ⟨_, rfl, rfl⟩, trivial⟩ rfl) ?_
 refine yV (kq 17 (.build 47 #[(0, (.const (.int .i64 1))), (1, (.const (.int .i64 6)))])) (fun _ => val_build (zs := [.int .i64 0, .int .i64 0]) (ps := [(0, 1), (1, 1)]) (qs := [(0, [.int .i64 1]), (1, [.int .i64 6])]) (cs := [.int .i64 1, .int .i64 6]) (by kernel_rfl) (by kernel_rfl) ⟨rfl, ⟨_, rfl, rfl⟩, rfl, ⟨_, rfl, rfl⟩, trivial⟩ rfl) ?_
 refine yV (kq 18 (.build 47 #[(0, (.const (.int .i64 2))), (1, (.const (.int .i64 7)))])) (fun _ => val_build (zs := [.int .i64 0, .int .i64 0]) (ps := [(0, 1), (1, 1)]) (qs := [(0, [.int .i64 2]), (1, [.int .i64 7])]) (cs := [.int .i64 2, .int .i64 7]) (by kernel_rfl) (by kernel_rfl) ⟨rfl, ⟨_, rfl, rfl⟩, rfl, ⟨_, rfl, rfl⟩, trivial⟩ rfl) ?_
 refine aT (kq 1 (.alloc 47)) rfl rfl (a_alloc (cs := [.int .i64 0, .int .i64 0]) hF 3 (by kernel_rfl)) ?_
 rintro _ w1 ⟨Cw1, bw1, rfl, s_1, hA, hF⟩
 refine aT (kq 2 (.alloc 47)) rfl rfl (a_alloc (cs := [.int .i64 0, .int .i64 0]) hF 4 (by kernel_rfl)) ?_
 rintro _ w2 ⟨Cw2, bw2, rfl, s_2, hB, hF⟩
 refine aT (kq 3 (.alloc 47)) rfl rfl (a_alloc (cs := [.int .i64 0, .int .i64 0]) hF 5 (by kernel_rfl)) ?_
 rintro _ w3 ⟨Cw3, bw3, rfl, s_3, hC, hF⟩
 refine aT (kq 4 (.alloc 47)) rfl rfl (a_alloc (cs := [.int .i64 0, .int .i64 0]) hF 6 (by kernel_rfl)) ?_
 rintro _ w4 ⟨Cw4, bw4, rfl, s_4, hX, hF⟩
 replace hA := ((hA.t s_2).t s_3).t s_4
 refine aU (k0 (.store 47 (.tmp 1) (.tmp 15))) rfl (a_storeAll (vs := encR (⟨0, 1⟩ : Couple)) (n := 2) rfl rfl (by kernel_rfl) rfl rfl (by intro u hu; simp only [encR, List.mem_cons, List.not_mem_nil, or_false] at hu; rcases hu with rfl | rfl <;> rfl) hA rfl) ?_
 rintro _ w5 ⟨rfl, s_5, hA⟩
 replace hB := ((hB.t s_3).t s_4).t s_5
 refine aU (k0 (.store 47 (.tmp 2) (.tmp 16))) rfl (a_storeAll (vs := encR (⟨1, 5⟩ : Couple)) (n := 2) rfl rfl (by kernel_rfl) rfl rfl (by intro u hu; simp only [encR, List.mem_cons, List.not_mem_nil, or_false] at hu; rcases hu with rfl | rfl <;> rfl) hB rfl) ?_
 rintro _ w6 ⟨rfl, s_6, hB⟩
 replace hC := ((hC.t s_4).t s_5).t s_6
 refine aU (k0 (.store 47 (.tmp 3) (.tmp 17))) rfl (a_storeAll (vs := encR (⟨1, 6⟩ : Couple)) (n := 2) rfl rfl (by kernel_rfl) rfl rfl (by intro u hu; simp only [encR, List.mem_cons, List.not_mem_nil, or_false] at hu; rcases hu with rfl | rfl <;> rfl) hC rfl) ?_
 rintro _ w7 ⟨rfl, s_7, hC⟩
 replace hX := ((hX.t s_5).t s_6).t s_7
 refine aU (k0 (.store 47 (.tmp 4) (.tmp 18))) rfl (a_storeAll (vs := encR (⟨2, 7⟩ : Couple)) (n := 2) rfl rfl (by kernel_rfl) rfl rfl (by intro u hu; simp only [encR, List.mem_cons, List.not_mem_nil, or_false] at hu; rcases hu with rfl | rfl <;> rfl) hX rfl) ?_
 rintro _ w8 ⟨rfl, s_8, hX⟩
 refine Sch.nil (run_sq (run_pl [nn 0, nn 1, yy 2, nn 3, nn 4, yy 5, nn 6, nn 7, yy 8, nn 9, nn 10, yy 11, nn 12, yy 13] ?_))
 replace hA := ((hA.t s_6).t s_7).t s_8
 refine nS (kq 19 (.load 47 (.tmp 1))) rfl rfl trivial (val_loadOwnAgg (n := 2) (vs := encR (⟨0, 1⟩ : Couple)) hA.at_ (by kernel_rfl) (by kernel_rfl) rfl rfl rfl) ?_
 replace hB := (hB.t s_7).t s_8
 refine nS (kq 20 (.load 47 (.tmp 2))) rfl rfl trivial (val_loadOwnAgg (n := 2) (vs := encR (⟨1, 5⟩ : Couple)) hB.at_ (by kernel_rfl) (by kernel_rfl) rfl rfl rfl) ?_
 refine yV (kq 21 (.build 49 #[(0, (.tmp 19)), (1, (.tmp 20)), (2, (.const (.int .i64 10)))])) (fun _ => val_build (zs := [.int .i64 0, .int .i64 0, .int .i64 0, .int .i64 0, .int .i64 0]) (ps := [(0, 2), (2, 2), (4, 1)]) (qs := [(0, encR (⟨0, 1⟩ : Couple)), (1, encR (⟨1, 5⟩ : Couple)), (2, [.int .i64 10])]) (cs := encB (⟨⟨0, 1⟩, ⟨1, 5⟩, 10⟩ : Bond)) (by kernel_rfl) (by kernel_rfl) ⟨rfl, ⟨_, rfl, rfl⟩, rfl, ⟨_, rfl, rfl⟩, rfl, ⟨_, rfl, rfl⟩, trivial⟩ rfl) ?_
 refine nS (kq 22 (.load 47 (.tmp 1))) rfl rfl trivial (val_loadOwnAgg (n := 2) (vs := encR (⟨0, 1⟩ : Couple)) hA.at_ (by kernel_rfl) (by kernel_rfl) rfl rfl rfl) ?_
 replace hC := hC.t s_8
 refine nS (kq 23 (.load 47 (.tmp 3))) rfl rfl trivial (val_loadOwnAgg (n := 2) (vs := encR (⟨1, 6⟩ : Couple)) hC.at_ (by kernel_rfl) (by kernel_rfl) rfl rfl rfl) ?_
 refine yV (kq 24 (.build 49 #[(0, (.tmp 22)), (1, (.tmp 23)), (2, (.const (.int .i64 12)))])) (fun _ => val_build (zs := [.int .i64 0, .int .i64 0, .int .i64 0, .int .i64 0, .int .i64 0]) (ps := [(0, 2), (2, 2), (4, 1)]) (qs := [(0, encR (⟨0, 1⟩ : Couple)), (1, encR (⟨1, 6⟩ : Couple)), (2, [.int .i64 12])]) (cs := encB (⟨⟨0, 1⟩, ⟨1, 6⟩, 12⟩ : Bond)) (by kernel_rfl) (by kernel_rfl) ⟨rfl, ⟨_, rfl, rfl⟩, rfl, ⟨_, rfl, rfl⟩, rfl, ⟨_, rfl, rfl⟩, trivial⟩ rfl) ?_
 refine nS (kq 25 (.load 47 (.tmp 2))) rfl rfl trivial (val_loadOwnAgg (n := 2) (vs := encR (⟨1, 5⟩ : Couple)) hB.at_ (by kernel_rfl) (by kernel_rfl) rfl rfl rfl) ?_
 refine nS (kq 26 (.load 47 (.tmp 4))) rfl rfl trivial (val_loadOwnAgg (n := 2) (vs := encR (⟨2, 7⟩ : Couple)) hX.at_ (by kernel_rfl) (by kernel_rfl) rfl rfl rfl) ?_
 refine yV (kq 27 (.build 49 #[(0, (.tmp 25)), (1, (.tmp 26)), (2, (.const (.int .i64 9)))])) (fun _ => val_build (zs := [.int .i64 0, .int .i64 0, .int .i64 0, .int .i64 0, .int .i64 0]) (ps := [(0, 2), (2, 2), (4, 1)]) (qs := [(0, encR (⟨1, 5⟩ : Couple)), (1, encR (⟨2, 7⟩ : Couple)), (2, [.int .i64 9])]) (cs := encB (⟨⟨1, 5⟩, ⟨2, 7⟩, 9⟩ : Bond)) (by kernel_rfl) (by kernel_rfl) ⟨rfl, ⟨_, rfl, rfl⟩, rfl, ⟨_, rfl, rfl⟩, rfl, ⟨_, rfl, rfl⟩, trivial⟩ rfl) ?_
 refine nS (kq 28 (.load 47 (.tmp 3))) rfl rfl trivial (val_loadOwnAgg (n := 2) (vs := encR (⟨1, 6⟩ : Couple)) hC.at_ (by kernel_rfl) (by kernel_rfl) rfl rfl rfl) ?_
 refine nS (kq 29 (.load 47 (.tmp 4))) rfl rfl trivial (val_loadOwnAgg (n := 2) (vs := encR (⟨2, 7⟩ : Couple)) hX.at_ (by kernel_rfl) (by kernel_rfl) rfl rfl rfl) ?_
 refine yV (kq 30 (.build 49 #[(0, (.tmp 28)), (1, (.tmp 29)), (2, (.const (.int .i64 3)))])) (fun _ => val_build (zs := [.int .i64 0, .int .i64 0, .int .i64 0, .int .i64 0, .int .i64 0]) (ps := [(0, 2), (2, 2), (4, 1)]) (qs := [(0, encR (⟨1, 6⟩ : Couple)), (1, encR (⟨2, 7⟩ : Couple)), (2, [.int .i64 3])]) (cs := encB (⟨⟨1, 6⟩, ⟨2, 7⟩, 3⟩ : Bond)) (by kernel_rfl) (by kernel_rfl) ⟨rfl, ⟨_, rfl, rfl⟩, rfl, ⟨_, rfl, rfl⟩, rfl, ⟨_, rfl, rfl⟩, trivial⟩ rfl) ?_
 replace hF := (((hF.st s_5).st s_6).st s_7).st s_8
 refine aT (kq 31 (.buildSlice 23 4 #[(0, (.tmp 21)), (1, (.tmp 24)), (2, (.tmp 27)), (3, (.tmp 30))])) rfl rfl (a_buildSlice (ys := (awL : List Bond)) (e := 49) (bytes := 40) hF (by kernel_rfl) rfl (by decide) (by decide) ⟨rfl, ⟨_, rfl, rv_bond.2 rfl⟩, rfl, ⟨_, rfl, rv_bond.2 rfl⟩, rfl, ⟨_, rfl, rv_bond.2 rfl⟩, rfl, ⟨_, rfl, rv_bond.2 rfl⟩, trivial⟩) ?_
 rintro v31 w9 ⟨s_9, g31, hF⟩
 refine yA 5 31 ?_
 refine Sch.nil (run_sq (run_pl [yy 0, nn 1, yy 2, yy 3, yy 4, yy 5, yy 6, yy 7, yy 8] ?_))
 refine yM 33 5 ?_
 refine cT (kq 34 (.call { callee := .value (.func 21), args := #[(.tmp 33), (.const (.slice none 0 0))], argTypes := #[23, 24] })) rfl rfl (ent Tryz.call21 rfl) (solveS_ok (l := awL) (ds := []) hF g31 rv_nil aw_vld (by rw [aw_refs]; decide) (by decide) (fun i h => by cases h) (fun i h => by cases h) (by decide)) ?_
 rintro _ w10 ⟨s_10, zs, vhp, hSt, rfl, hp⟩
 rw [aw_wayS] at hSt
 obtain rfl := aw_zs hSt
 clear hSt
 rw [aw_value]
 refine yM 32 34 ?_
 refine yE 35 32 0 ?_
 refine yE 36 32 1 ?_
 refine yE 37 32 2 ?_
 refine yA 6 35 ?_
 refine yA 7 36 ?_
 refine yA 8 37 ?_
 refine Sch.nil (run_sq (run_pl [yy 0, nn 1, yy 2, yy 3, yy 4, yy 5, yy 6, yy 7, yy 8] ?_))
 refine yM 39 5 ?_
 replace hF := hF.st s_10; replace g31 := g31.t s_10
 refine cT (kq 40 (.call { callee := .value (.func 23), args := #[(.tmp 39), (.const (.slice none 0 0))], argTypes := #[23, 24] })) rfl rfl (ent Tryz.call23 rfl) (solveY_ok (l := awL) (ds := []) hF g31 rv_nil aw_vld (by rw [aw_refs]; decide) (by decide) (fun i h => by cases h) (fun i h => by cases h)) ?_
 rintro _ w11 ⟨s_11, zs, vhq, hSt, rfl, hq⟩
 rw [aw_wayX] at hSt
 obtain rfl := aw_zs hSt
 clear hSt
 rw [aw_value]
 refine yM 38 40 ?_
 refine yE 41 38 0 ?_
 refine yE 42 38 1 ?_
 refine yE 43 38 2 ?_
 refine yA 9 41 ?_
 refine yA 10 42 ?_
 refine yA 11 43 ?_
 refine Sch.nil (run_sq (run_pl [yy 0, nn 1, yy 2, yy 3, yy 4, yy 5, yy 6, yy 7, yy 8] ?_))
 refine yM 45 5 ?_
 replace hF := hF.st s_11; replace g31 := g31.t s_11
 refine cT (kq 46 (.call { callee := .value (.func 18), args := #[(.tmp 45), (.const (.slice none 0 0))], argTypes := #[23, 24] })) rfl rfl (ent Tryz.call18 rfl) (solveG_ok (l := awL) (ds := []) hF g31 rv_nil aw_vld (by rw [aw_refs]; decide) (by decide) (fun i h => by cases h) (fun i h => by cases h) (by decide)) ?_
 rintro _ w12 ⟨s_12, zs, vhr, hSt, rfl, hr⟩
 rw [aw_wayG] at hSt
 obtain rfl := aw_zs hSt
 clear hSt
 rw [aw_value]
 refine yM 44 46 ?_
 refine yE 47 44 0 ?_
 refine yE 48 44 1 ?_
 refine yE 49 44 2 ?_
 refine yA 12 47 ?_
 refine yA 13 48 ?_
 refine yA 14 49 ?_
 refine Sch.nil (run_sq ?_)
 refine run_draw (id := 6) (ops := F11.o6) [] (Cw4) [yy 0, yy 1, yy 2, yy 3, yy 4, yy 5, yy 6, yy 7, yy 8, yy 9, yy 10, yy 11, yy 12, yy 13, yy 14, yy 15, yy 16, yy 17, yy 18, yy 19, yy 20, yy 21, yy 22, yy 23, yy 24, yy 25, yy 26, yy 27, yy 28, yy 29, yy 30, yy 31, yy 32, yy 33, yy 34, yy 35, yy 36, yy 37, yy 38, yy 39, yy 40, yy 41, yy 42, yy 43, nn 44, yy 45, yy 46, yy 47, yy 48, yy 49, nn 50, yy 51, yy 52, yy 53] Tryz_mixed (by kernel_rfl) (by kernel_rfl) (by kernel_rfl) ?_
 intro w13 s_13
 have hR := Stp.refl [] w13 (Cw4)
 replace hB := ((((hB.t s_9).t s_10).t s_11).t s_12).t s_13
 have hB0 := hB
 have hawl : awP.length = 2 := rfl
 have hawb : awB.length = 2 := rfl
 refine yM 50 8 ?_
 refine yV (kq 51 (.binOp .eql 36 (.tmp 50) (.const (.int .i64 0)) 36)) (fun _ => val_T (val_eql rfl rfl) rfl) ?_
 refine yM 52 51 ?_
 refine yMg 53 11 2 true ?_
 refine yV (kg 54 (.binOp .eql 36 (.tmp 53) (.const (.int .i64 0)) 36) 2 true) (fun _ => val_T (val_eql rfl rfl) rfl) ?_
 refine yAt 55 52 54 ?_
 refine yM 56 55 ?_
 refine yMg 57 14 6 true ?_
 refine yV (kg 58 (.binOp .eql 36 (.tmp 57) (.const (.int .i64 0)) 36) 6 true) (fun _ => val_T (val_eql rfl rfl) rfl) ?_
 refine yAt 59 56 58 ?_
 refine yM 60 59 ?_
 refine yMg 61 7 10 true ?_
 refine yV (kg 62 (.binOp .eql 3 (.tmp 61) (.const (.int .i64 21)) 3) 10 true) (fun _ => val_T (val_eql rfl rfl) rfl) ?_
 refine yAt 63 60 62 ?_
 refine yM 64 63 ?_
 refine yMg 65 10 14 true ?_
 refine yV (kg 66 (.binOp .eql 3 (.tmp 65) (.const (.int .i64 21)) 3) 14 true) (fun _ => val_T (val_eql rfl rfl) rfl) ?_
 refine yAt 67 64 66 ?_
 refine yM 68 67 ?_
 refine yMg 69 13 18 true ?_
 refine yV (kg 70 (.binOp .eql 3 (.tmp 69) (.const (.int .i64 21)) 3) 18 true) (fun _ => val_T (val_eql rfl rfl) rfl) ?_
 refine yAt 71 68 70 ?_
 refine yM 72 71 ?_
 refine yMg 73 6 22 true ?_
 replace hp := ((hp.t s_11).t s_12).t s_13
 refine yS (kg 74 (.call { callee := .builtin .len, args := #[(.tmp 73)], argTypes := #[25] }) 22 true) rfl rfl (fun w' hS => hp.lenV rfl Tryz.underlying25 w' ) ?_
 refine yV (kg 75 (.binOp .eql 3 (.tmp 74) (.const (.int .i64 2)) 3) 22 true) (fun _ => val_T (val_eql rfl rfl) rfl) ?_
 refine yAt 76 72 75 ?_
 refine yM 77 76 ?_
 refine yMg 78 9 27 true ?_
 replace hq := (hq.t s_12).t s_13
 refine yS (kg 79 (.call { callee := .builtin .len, args := #[(.tmp 78)], argTypes := #[25] }) 27 true) rfl rfl (fun w' hS => hq.lenV rfl Tryz.underlying25 w' ) ?_
 refine yV (kg 80 (.binOp .eql 3 (.tmp 79) (.const (.int .i64 2)) 3) 27 true) (fun _ => val_T (val_eql rfl rfl) rfl) ?_
 refine yAt 81 77 80 ?_
 refine yM 82 81 ?_
 refine yMg 83 6 32 true ?_
 refine iS (e := 53) (kg 84 (.indexAddr 25 (.tmp 83) (.const (.int .i64 1))) 32 true) rfl rfl hp rfl (by kernel_rfl) rfl (by omega) (by omega) ?_
 intro b84 o84 h84
 try simp only [Int.toNat_natCast] at h84
 refine lS (kg 85 (.load 53 (.tmp 84)) 32 true) rfl rfl (fun w' hS => h84.sy hS) h84 (by kernel_rfl) rfl rfl ?_
 intro v85 g85
 replace g85 : RV _ _ awB v85 := g85
 refine iS (e := 47) (kg 86 (.indexAddr 53 (.tmp 85) (.const (.int .i64 0))) 32 true) rfl rfl g85 rfl (by kernel_rfl) rfl (by omega) (by omega) ?_
 intro b86 o86 h86
 try simp only [Int.toNat_natCast] at h86
 refine lSA (kg 87 (.load 47 (.tmp 86)) 32 true) rfl rfl (fun w' hS => h86.sy hS) h86 (by kernel_rfl) (by kernel_rfl) rfl rfl ?_
 intro v87 g87
 obtain rfl := rv_couple.1 g87
 refine yS (kg 88 (.load 47 (.tmp 2)) 32 true) rfl rfl (fun w' hS => val_loadOwnAgg (n := 2) (vs := encR (⟨1, 5⟩ : Couple)) (hB0.stay hS (by decide)) (by kernel_rfl) (by kernel_rfl) rfl rfl rfl) ?_
 refine yV (kg 89 (.binOp .eql 47 (.tmp 87) (.tmp 88) 47) 32 true) (fun _ => val_T (val_eqC (a := awB[((0 : Int)).toNat]) (b := (⟨1, 5⟩ : Couple)) Tryz.underlying47 (by decide) (by decide) (by kernel_rfl) Tryz.underlying3 rfl rfl) (by rfl)) ?_
 refine yAt 90 82 89 ?_
 refine yM 91 90 ?_
 refine yMg 92 5 41 true ?_
 refine yMg 93 6 41 true ?_
 replace hF := (hF.st s_12).st s_13; replace g31 := (g31.t s_12).t s_13
 refine cS (kg 94 (.call { callee := .value (.func 28), args := #[(.tmp 92), (.tmp 93)], argTypes := #[23, 25] }) 41 true) rfl rfl (ent Tryz.call28 rfl) (value_ok hF g31 hp (okB_w aw_vld) (by decide)) ?_
 rintro vw14 w14 ⟨rfl, s_14⟩
 rw [aw_value]
 refine ⟨(hR.trans s_14 (by simp)).ext, ?_⟩
 refine yV (kg 95 (.binOp .eql 3 (.tmp 94) (.const (.int .i64 21)) 3) 41 true) (fun _ => val_T (val_eql rfl rfl) rfl) ?_
 refine yAt 96 91 95 ?_
 refine yM 97 96 ?_
 refine yMg 98 5 47 true ?_
 refine yMg 99 6 47 true ?_
 replace hF := hF.st s_14; replace g31 := g31.t s_14; replace hp := hp.t s_14
 refine cS (kg 100 (.call { callee := .value (.func 26), args := #[(.tmp 98), (.const (.slice none 0 0)), (.tmp 99)], argTypes := #[23, 24, 25] }) 47 true) rfl rfl (ent Tryz.call26 rfl) (valid_ok (ds := []) hF g31 rv_nil hp aw_vld.check (by decide) (by decide) (fun i h => by cases h) (fun i h => by cases h) aw_PV) ?_
 rintro vw15 w15 ⟨rfl, s_15⟩
 replace hR := hR.t s_14
 refine ⟨(hR.trans s_15 (by simp)).ext, ?_⟩
 refine yV (kg 101 (.binOp .eql 36 (.tmp 100) (.const (.int .i64 0)) 36) 47 true) (fun _ => val_T (val_eql rfl rfl) rfl) ?_
 refine yAt 102 97 101 ?_
 refine yA 0 102 ?_
 refine Sch.nil ?_
 refine rt1 Tryz.func11 Tryz.results11 ?_
 replace hT := ((((((((((((((hT.t s_1).t s_2).t s_3).t s_4).t s_5).t s_6).t s_7).t s_8).t s_9).t s_10).t s_11).t s_12).t s_13).t s_14).t s_15
 exact ⟨rfl, hT.out1 (by decide)⟩
end
end Go.Proofs.YtdmgmlmlielfbaaGreat
