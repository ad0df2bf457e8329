/- Steps through functions of the program. -/
import Derived.Test.YtgooehopkmbkfaaJX1
set_option linter.unusedVariables false
set_option linter.unusedSimpArgs false
set_option maxRecDepth 100000
set_option maxHeartbeats 4000000
namespace Go.Proofs.Ytgooehopkmbkfaa
open Go.K Go.K.Rep

section
variable {w : World} {M : Nat → Prop} {b o : Nat} {n : Int} {c : List (List Int)} {u v : List Int} {r : List Nat}
theorem ra_sN (h : RA w M (⟨n, c, u, v, r⟩ : Sol) b o) : RA w M n b o := RA.sN h
theorem ra_sC (h : RA w M (⟨n, c, u, v, r⟩ : Sol) b o) : RA w M c b (o + 1) := RA.sC h
theorem ra_sU (h : RA w M (⟨n, c, u, v, r⟩ : Sol) b o) : RA w M u b (o + 2) := RA.sU h
theorem ra_sV (h : RA w M (⟨n, c, u, v, r⟩ : Sol) b o) : RA w M v b (o + 3) := RA.sV h
theorem ra_sR (h : RA w M (⟨n, c, u, v, r⟩ : Sol) b o) : RA w M r b (o + 4) := RA.sR h
end
namespace F41
noncomputable def c0 := bodyOf Try.f41
noncomputable def o1 := rops (cl (cr c0))
noncomputable def c8 := (cl (cr (cl (cr (cr c0)))))
end F41
/-- The reference's 'solve'. -/
theorem ssolve_ok {w₀ : World} {C : Nat → Nat} {k : Nat} {xk : Value} {kl : List (List Int)} {W : Int} (hF : Lim w₀ C) (hW : RV w₀ (Mc C) kl xk) (hk : kl.length = k) (hrows : ∀ r ∈ kl, r.length = k) (hc : ∀ r j, 1 ≤ r → r ≤ k → 1 ≤ j → j ≤ k → -W ≤ cK kl r j ∧ cK kl r j ≤ 0) (hW0 : 0 ≤ W) (hW1 : W ≤ 65536) (hWk : (k + 1) * W ≤ 288230376151711744) (hkb : k ≤ 1000000) :
    Calls Try.prog 41 #[.int .i64 k, xk] w₀ (Ret fun v w' => ∃ (b : Nat) (ul vl : List Int) (rl : List Nat), v = .pointer (some ⟨b, 0, none⟩) ∧ Stp [] w₀ C w' C ∧ RA w' (Mc C) (⟨k, kl, ul, vl, rl⟩ : Sol) b 0 ∧ ul.length = k + 1 ∧ vl.length = k + 1 ∧ rl.length = k + 1 ∧ HI k (cK kl) W k (gI ul) (gI vl) (gN rl)) := by
 have hF0 := hF
 have hT := Stp.refl [2, 3, 4, 5, 6, 7, 8, 9] w₀ (col1 C)
 replace hF := hF.col1
 replace hW : RV w₀ (Mc (col1 C)) kl xk := by rw [Mc_col1]; exact hW
 refine calls_start (c := F41.c0) (N := 29) [.int .i64 k, xk] Try.func41 (by kernel_rfl) (by kernel_rfl) (by kernel_rfl) ?_
 show Run _ _ _ _ [(0, .int .i64 k), (1, xk)] _ _
 refine run_sq ?_
 refine run_pl [yy 0] ?_
 refine yV (kq 4 (.assign (.const (.pointer none)))) (fun _ => val_assign rfl) ?_
 refine Sch.nil ?_
 refine run_sq ?_
 refine run_many (id := 1) (ops := F41.o1) (C := col1 C) [0, 1, 2, 3, 5, 6, 8, 9] [⟨4, 11, .makeSlice 22 (.tmp 10) (.tmp 10), fun v w C => OwnL w C 4 3 v (List.replicate (k + 1) (0 : Int))⟩, ⟨7, 14, .makeSlice 22 (.tmp 13) (.tmp 13), fun v w C => OwnL w C 5 3 v (List.replicate (k + 1) (0 : Int))⟩, ⟨10, 17, .makeSlice 22 (.tmp 16) (.tmp 16), fun v w C => OwnL w C 6 3 v (List.replicate (k + 1) (0 : Nat))⟩] [yy 11, nn 12, yy 13] Try_mixed (by kernel_rfl) (by kernel_rfl) (by kernel_rfl) hF ?_
 refine ⟨_, _, _, (by kernel_rfl : opAt F41.o1 0 = some (some 7, .move (.tmp 0), none)), rfl, fun w' => val_move rfl, ?_⟩
 refine ⟨_, _, _, (by kernel_rfl : opAt F41.o1 1 = some (some 8, .move (.tmp 1), none)), rfl, fun w' => val_move rfl, ?_⟩
 refine ⟨_, _, _, (by kernel_rfl : opAt F41.o1 2 = some (some 9, .move (.tmp 0), none)), rfl, fun w' => val_move rfl, ?_⟩
 refine ⟨_, _, _, (by kernel_rfl : opAt F41.o1 3 = some (some 10, .binOp .add 3 (.tmp 9) (.const (.int .i64 1)) 3, none)), rfl, fun w' => val_is (val_addi rfl rfl (by omega) (by omega)) (congrArg (Value.int .i64) (show (k : Int) + 1 = ((k + 1 : Nat) : Int) from by omega)), ?_⟩
 refine ⟨_, _, _, (by kernel_rfl : opAt F41.o1 5 = some (some 12, .move (.tmp 0), none)), rfl, fun w' => val_move rfl, ?_⟩
 refine ⟨_, _, _, (by kernel_rfl : opAt F41.o1 6 = some (some 13, .binOp .add 3 (.tmp 12) (.const (.int .i64 1)) 3, none)), rfl, fun w' => val_is (val_addi rfl rfl (by omega) (by omega)) (congrArg (Value.int .i64) (show (k : Int) + 1 = ((k + 1 : Nat) : Int) from by omega)), ?_⟩
 refine ⟨_, _, _, (by kernel_rfl : opAt F41.o1 8 = some (some 15, .move (.tmp 0), none)), rfl, fun w' => val_move rfl, ?_⟩
 refine ⟨_, _, _, (by kernel_rfl : opAt F41.o1 9 = some (some 16, .binOp .add 3 (.tmp 15) (.const (.int .i64 1)) 3, none)), rfl, fun w' => val_is (val_addi rfl rfl (by omega) (by omega)) (congrArg (Value.int .i64) (show (k : Int) + 1 = ((k + 1 : Nat) : Int) from by omega)), ?_⟩
 refine ⟨?_, (by show List.Nodup [4, 7, 10]; decide), (by show List.Nodup [11, 14, 17]; decide), ?_⟩
 ·
  intro m hm
  simp only [List.mem_cons, List.not_mem_nil, or_false] at hm
  rcases hm with rfl | rfl | rfl
  · exact ⟨by kernel_rfl, rfl, rfl, fun w1 C1 hs1 hF1 => a_make (e := 3) (bytes := 8) (x0 := (0 : Int)) (zs := [.int .i64 0]) hF1 (j := 4) (by decide) (by kernel_rfl) (by kernel_rfl) (l := k + 1) (c := k + 1) rfl rfl (by omega) (by omega) (by omega) (fun h M => zero_int), fun v w1 C1 w2 C2 h hs => h.st hs (by decide) (by decide)⟩
  · exact ⟨by kernel_rfl, rfl, rfl, fun w1 C1 hs1 hF1 => a_make (e := 3) (bytes := 8) (x0 := (0 : Int)) (zs := [.int .i64 0]) hF1 (j := 5) (by decide) (by kernel_rfl) (by kernel_rfl) (l := k + 1) (c := k + 1) rfl rfl (by omega) (by omega) (by omega) (fun h M => zero_int), fun v w1 C1 w2 C2 h hs => h.st hs (by decide) (by decide)⟩
  · exact ⟨by kernel_rfl, rfl, rfl, fun w1 C1 hs1 hF1 => a_make (e := 3) (bytes := 8) (x0 := (0 : Nat)) (zs := [.int .i64 0]) hF1 (j := 6) (by decide) (by kernel_rfl) (by kernel_rfl) (l := k + 1) (c := k + 1) rfl rfl (by omega) (by omega) (by omega) (fun h M => rfl), fun v w1 C1 w2 C2 h hs => h.st hs (by decide) (by decide)⟩
 intro val w1 Cw1 hs hF hM
 obtain ⟨hu, hv, hr, _⟩ := hM
 replace hT := hT.t hs; replace hW := hW.t hs
 replace hu : OwnL w1 Cw1 4 3 (val 4) (List.replicate (k + 1) (0 : Int)) := hu
 replace hv : OwnL w1 Cw1 5 3 (val 7) (List.replicate (k + 1) (0 : Int)) := hv
 replace hr : OwnL w1 Cw1 6 3 (val 10) (List.replicate (k + 1) (0 : Nat)) := hr
 show Sch _ _ _ _ _ _ _ [yy 11, nn 12, yy 13] ((11, val 4) :: (14, val 7) :: (17, val 10) :: _) _
 refine yV (kq 18 (.build 80 #[(0, (.tmp 7)), (1, (.tmp 8)), (2, (.tmp 11)), (3, (.tmp 14)), (4, (.tmp 17))])) (fun _ => val_build (zs := [.int .i64 0, .slice none 0 0, .slice none 0 0, .slice none 0 0, .slice none 0 0]) (ps := [(0, 1), (1, 1), (2, 1), (3, 1), (4, 1)]) (qs := [(0, [.int .i64 k]), (1, [xk]), (2, [val 4]), (3, [val 7]), (4, [val 10])]) (cs := [.int .i64 k, xk, val 4, val 7, val 10]) (by kernel_rfl) (by kernel_rfl) ⟨rfl, ⟨_, rfl, rfl⟩, rfl, ⟨_, rfl, (hW.one rfl).1⟩, rfl, ⟨_, rfl, hu.one.1⟩, rfl, ⟨_, rfl, hv.one.1⟩, rfl, ⟨_, rfl, hr.one.1⟩, trivial⟩ rfl) ?_
 refine aS (kq 19 (.box 80 (.tmp 18))) rfl rfl (a_box (cs := [.int .i64 k, xk, val 4, val 7, val 10]) hF 3 rfl rfl) ?_
 rintro _ w2 ⟨Cw2, bw2, rfl, hs, hsb, hF⟩
 refine ⟨trivial, ?_⟩
 replace hT := hT.t hs; replace hW := hW.t hs; replace hu := hu.t hs; replace hv := hv.t hs; replace hr := hr.t hs
 refine yA 5 19 ?_
 refine Sch.nil ?_
 obtain ⟨xu, h_xu⟩ : ∃ x, x = val 4 := ⟨_, rfl⟩
 rw [← h_xu] at hu hsb
 clear h_xu
 obtain ⟨xv, h_xv⟩ : ∃ x, x = val 7 := ⟨_, rfl⟩
 rw [← h_xv] at hv hsb
 clear h_xv
 obtain ⟨xr, h_xr⟩ : ∃ x, x = val 10 := ⟨_, rfl⟩
 rw [← h_xr] at hr hsb
 clear h_xr
 have z1 : gI (List.replicate (k + 1) 0) = fun _ => 0 := funext fun _ => getD_rep
 have z2 : gN (List.replicate (k + 1) 0) = fun _ => 0 := funext fun _ => getD_rep
 refine run_sq ?_
 refine run_sq ?_
 refine run_pl [yy 0] ?_
 refine yAc 6 (.int .i64 1) ?_
 refine Sch.nil ?_
 refine run_bk 0 ?_
 
 refine run_lp (ι := Nat × (List Int) × (List Int) × (List Nat) × (Nat → Nat)) (I := fun x w => x.1 ≤ k ∧ (x.2.1.length = k + 1 ∧ x.2.2.1.length = k + 1 ∧ x.2.2.2.1.length = k + 1) ∧ HI k (cK kl) W x.1 (gI x.2.1) (gI x.2.2.1) (gN x.2.2.2.1) ∧ Lim w x.2.2.2.2 ∧ Stp [2, 3, 4, 5, 6, 7, 8, 9] w₀ (col1 C) w x.2.2.2.2 ∧ OwnB w x.2.2.2.2 3 bw2 (.cells [.int .i64 k, xk, xu, xv, xr].toArray 80) ∧ RV w (Mc x.2.2.2.2) kl xk ∧ OwnL w x.2.2.2.2 4 3 xu x.2.1 ∧ OwnL w x.2.2.2.2 5 3 xv x.2.2.1 ∧ OwnL w x.2.2.2.2 6 3 xr x.2.2.2.1) (e := fun x => [(0, .int .i64 k), (5, .pointer (some ⟨bw2, 0, none⟩)), (6, .int .i64 ((x.1 + 1 : Nat) : Int))]) (m := fun x => k - x.1) (x₀ := (0, List.replicate (k + 1) 0, List.replicate (k + 1) 0, List.replicate (k + 1) 0, Cw2)) (sr 0 (sr 5 (sr 6 (sub_nil _)))) ?_ ?_
 · exact ⟨Nat.zero_le _, (by simp only [List.length_replicate, and_self]), (by simp only [z1, z2]; exact HI.start hW0 _ _), hF, hT, hsb, hW, hu, hv, hr⟩
 intro ⟨i, ul, vl, rl, C1⟩ w3 hI next
 obtain ⟨hi, hls, hI, hF, hT, hsb, hW, hu, hv, hr⟩ := hI
 try simp only at hi hls hI hF hT hsb hW hu hv hr
 have next1 := next
 clear next
 show Run _ _ _ _ [(0, .int .i64 k), (5, .pointer (some ⟨bw2, 0, none⟩)), (6, .int .i64 ((i + 1 : Nat) : Int))] _ _
 obtain ⟨e1, e2, e3⟩ := hls
 refine run_sq ?_
 refine run_sq ?_
 refine run_pl [yy 0, yy 1, yy 2] ?_
 refine yM 20 6 ?_
 refine yM 21 0 ?_
 refine yV (kq 22 (.binOp .leq 3 (.tmp 20) (.tmp 21) 3)) (fun _ => val_leq rfl rfl) ?_
 refine Sch.nil ?_
 refine run_i 22 rfl (fun h22 => ?_) (fun h22 => ?_)
 ·
  have hil : i < k := by omega
  refine run_sk ?_
  refine run_sq ?_
  refine run_bk 1 ?_
  refine run_pl [yy 0, yy 1, nn 2] ?_
  refine yM 25 5 ?_
  refine yM 26 6 ?_
  refine cS (kq 27 (.call { callee := .value (.func 54), args := #[(.tmp 25), (.tmp 26)], argTypes := #[77, 3] })) rfl rfl (ent Try.call54 rfl) (sadd_ok hF ⟨hsb, hW, hu, hv, hr, e1, e2, e3⟩ hk hrows hI hil hc hW0 hW1 hWk hkb) ?_
  rintro vw4 w4 ⟨ul2, vl2, rl2, rfl, hs, ⟨hsb, hW, hu, hv, hr, q1, q2, q3⟩, hI2⟩
  refine ⟨trivial, ?_⟩
  replace hF := hF.st hs
  replace hT := hT.t hs
  refine Sch.nil ?_
  refine run_inBlock ?_
  refine run_pl [yy 0, yy 1, yy 2] ?_
  refine yM 23 6 ?_
  refine yV (kq 24 (.binOp .add 3 (.tmp 23) (.const (.int .i64 1)) 3)) (fun _ => val_addi rfl rfl (by omega) (by omega)) ?_
  refine yA 6 24 ?_
  refine Sch.nil ?_
  refine kp (sub_cons 0 rfl rfl (sub_cons 5 rfl rfl (sub_cons 6 rfl (eq_int (by omega)) (sub_nil _)))) (next1 (i + 1, ul2, vl2, rl2, C1) _ ⟨(by first | omega | (simp only; omega)), ⟨q1, q2, q3⟩, hI2, hF, hT, hsb, hW, hu, hv, hr⟩ (by first | omega | (simp only; omega)))
 ·
  have hik : i = k := by omega
  rw [hik] at hI
  refine run_ex 0 ?_
  refine run_sq ?_
  refine run_pl [yy 0, yy 1] ?_
  refine yM 28 5 ?_
  refine yA 4 28 ?_
  refine Sch.nil ?_
  refine run_ret1 (by kernel_rfl) Try.func41 Try.results41 rfl ?_
  have hu' := hu.out hT hF0 (Mc_col1 C) (fun b _ => col1_lt C (by decide) b) (by omega)
  have hv' := hv.out hT hF0 (Mc_col1 C) (fun b _ => col1_lt C (by decide) b) (by omega)
  have hr' := hr.out hT hF0 (Mc_col1 C) (fun b _ => col1_lt C (by decide) b) (by omega)
  have hW' := hW.out hT hF0 (Mc_col1 C)
  exact ⟨_, ul, vl, rl, rfl, hT.out1 (by decide), hsb.outA (x := ⟨_, kl, ul, vl, rl⟩) hT hF0 (fun b _ => col1_lt C (by decide) b) (rep_sol (rv_int.2 rfl) hW' hu' hv' hr'), e1, e2, e3, hI⟩
end Go.Proofs.Ytgooehopkmbkfaa
