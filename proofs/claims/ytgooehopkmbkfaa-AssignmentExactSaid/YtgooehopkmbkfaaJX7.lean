/- Steps through functions of the program. -/
import Derived.Test.YtgooehopkmbkfaaJX6
import Derived.Test.YtgooehopkmbkfaaL2
set_option linter.unusedVariables false
set_option linter.unusedSimpArgs false
set_option maxRecDepth 100000
set_option maxHeartbeats 4000000
namespace Go.Proofs.Ytgooehopkmbkfaa
open Go.K Go.K.Rep

namespace F38
noncomputable def c0 := bodyOf Try.f38
noncomputable def c8 := (cl (cr (cl (cr (cr c0)))))
noncomputable def c18 := (cl (cl (cl (cr (cl c8)))))
noncomputable def c19 := (cr (cl (cl (cr (cl c8)))))
end F38
/-- The reference's 'without'. -/
theorem without_ok {w₀ : World} {C : Nat → Nat} {n m a b : Nat} {wl : List (List Int)} {vw : Value} (hF : Lim w₀ C) (hw : RV w₀ (Mc C) wl vw) (hwn : wl.length = n) (hwr : ∀ r ∈ wl, r.length = m) (hn : n ≤ 64) (hm : m ≤ 64) (ha : a < n) (hb : b < m) : Calls Try.prog 38 #[vw, .int .i64 a, .int .i64 b] w₀ (Ret fun v w' => ∃ (C' : Nat → Nat) (vf : Nat → Value), Stp [] w₀ C w' C' ∧ Lim w' C' ∧ OwnL w' C' 99 22 v (svsF vf n) ∧ ∀ q, q < n → OwnL w' C' (100 + q) 3 (vf q) (wrow wl a b q)) := by
 have hF0 := hF
 have hT := Stp.refl [2, 3, 4, 5, 6, 7, 8, 9] w₀ (col1 C)
 replace hF := hF.col1
 replace hw : RV w₀ (Mc (col1 C)) wl vw := by rw [Mc_col1]; exact hw
 refine calls_start (c := F38.c0) (N := 45) [vw, .int .i64 a, .int .i64 b] Try.func38 (by kernel_rfl) (by kernel_rfl) (by kernel_rfl) ?_
 show Run _ _ _ _ [(0, vw), (1, .int .i64 a), (2, .int .i64 b)] _ _
 refine run_sq ?_
 refine run_pl [yy 0] ?_
 refine yV (kq 6 (.assign (.const (.slice none 0 0)))) (fun _ => val_assign rfl) ?_
 refine Sch.nil ?_
 refine run_sq ?_
 refine run_pl [yy 0, yy 1, nn 2, yy 3] ?_
 refine yM 9 0 ?_
 refine yS (kq 10 (.call { callee := .builtin .len, args := #[(.tmp 9)], argTypes := #[70] })) rfl rfl (fun w' hS => hw.lenV rfl Try.underlying70 w' ) ?_
 refine aS (kq 11 (.makeSlice 70 (.tmp 10) (.tmp 10))) rfl rfl (a_make (e := 22) (bytes := 24) (x0 := (⟨.slice none 0 0⟩ : Sv)) (zs := [.slice none 0 0]) hF (j := 99) (by decide) (by kernel_rfl) (by kernel_rfl) rfl rfl (by omega) (by omega) (by omega) (fun h M => ⟨rfl, rfl⟩)) ?_
 rintro v11 w1 ⟨Cw1, hs, ho, hF⟩
 refine ⟨trivial, ?_⟩
 replace hT := hT.t hs; replace hw := hw.t hs
 rw [svsF_rep, hwn] at ho
 refine yA 7 11 ?_
 refine Sch.nil ?_
 refine run_sq ?_
 refine run_sq ?_
 refine run_pl [yy 0] ?_
 refine yAc 8 (.int .i64 0) ?_
 refine Sch.nil ?_
 refine run_bk 0 ?_
 replace hT : Stp ([2, 3, 4, 5, 6, 7, 8, 9] ++ List.range' 99 (n + 1)) w₀ (col1 C) _ _ := hT.mono (by intro c hc; exact List.mem_append_left _ hc)
 refine run_lp (ι := Nat × (Nat → Value) × (Nat → Nat)) (I := fun x w => x.1 ≤ n ∧ Lim w x.2.2 ∧ Stp ([2, 3, 4, 5, 6, 7, 8, 9] ++ List.range' 99 (n + 1)) w₀ (col1 C) w x.2.2 ∧ RV w (Mc x.2.2) wl vw ∧ OwnL w x.2.2 99 22 v11 (svsF x.2.1 n) ∧ (∀ q, q < x.1 → OwnL w x.2.2 (100 + q) 3 (x.2.1 q) (wrow wl a b q))) (e := fun x => [(0, vw), (1, .int .i64 a), (2, .int .i64 b), (7, v11), (8, .int .i64 x.1)]) (m := fun x => n - x.1) (x₀ := (0, fun _ => .slice none 0 0, Cw1)) (sr 0 (sr 1 (sr 2 (sr 7 (sr 8 (sub_nil _)))))) ?_ ?_
 · exact ⟨Nat.zero_le _, hF, hT, hw, ho, fun q hq => by simp only at hq; omega⟩
 intro ⟨i, vf, C1⟩ w2 hI next
 obtain ⟨hi, hF, hT, hw, ho, hin⟩ := hI
 try simp only at hi hF hT hw ho hin
 have next1 := next
 clear next
 show Run _ _ _ _ [(0, vw), (1, .int .i64 a), (2, .int .i64 b), (7, v11), (8, .int .i64 i)] _ _
 have hsl := svsF_len vf n
 refine run_sq ?_
 refine run_sq ?_
 refine run_pl [yy 0, yy 1, yy 2, yy 3] ?_
 refine yM 12 8 ?_
 refine yM 13 0 ?_
 refine yS (kq 14 (.call { callee := .builtin .len, args := #[(.tmp 13)], argTypes := #[70] })) rfl rfl (fun w' hS => hw.lenV rfl Try.underlying70 w' ) ?_
 refine yV (kq 15 (.binOp .lss 3 (.tmp 12) (.tmp 14) 3)) (fun _ => val_lss rfl rfl) ?_
 refine Sch.nil ?_
 refine run_i 15 rfl (fun h15 => ?_) (fun h15 => ?_)
 ·
  have hil : i < n := by omega
  have hiw : i < wl.length := by omega
  have hrm : (wl[i]'hiw).length = m := hwr _ (List.getElem_mem hiw)
  have hgd : wl.getD i [] = wl[i]'hiw := getD_in hiw
  refine run_sk ?_
  refine run_sq ?_
  refine run_bk 1 ?_
  refine run_sq ?_
  refine run_pl [yy 0, yy 1, yy 2, yy 3, yy 4, nn 5, nn 6, yy 7, nn 8] ?_
  refine yM 18 7 ?_
  refine yM 19 8 ?_
  refine yM 20 0 ?_
  refine yM 21 8 ?_
  refine iS (e := 22) (kq 22 (.indexAddr 70 (.tmp 20) (.tmp 21))) rfl rfl hw rfl (by kernel_rfl) rfl (by omega) (by omega) ?_
  intro b22 o22 h22
  try simp only [Int.toNat_natCast] at h22
  refine lN (kq 23 (.load 22 (.tmp 22))) rfl rfl trivial h22 (by kernel_rfl) rfl rfl ?_
  intro v23 g23
  refine aS (kq 24 (.call { callee := .builtin .append, args := #[(.const (.slice none 0 0)), (.tmp 23)], argTypes := #[22, 22] })) rfl rfl (a_append (e := 3) (bytes := 8) hF (by omega) rfl rfl (by kernel_rfl) (by decide) (OwnL.nil (α := Int) (j := 100 + i)) g23 (by simp only [List.length_nil]; omega) (by simp only [List.length_nil]; omega)) ?_
  rintro v24 w3 ⟨Cw3, hs, hrow, hF⟩
  refine ⟨trivial, ?_⟩
  replace hT := hT.trans hs (by simp <;> omega)
  replace hw := hw.t hs; replace ho := ho.t hs
  replace hin := fun k hk => (hin k hk).st hs (by simp <;> omega) (by simp <;> omega)
  replace h22 := h22.t hs; replace g23 := g23.t hs
  refine oI (e' := 22) (kq 25 (.indexAddr 70 (.tmp 18) (.tmp 19))) rfl rfl ho rfl (by kernel_rfl) rfl (by omega) (by omega) ?_
  intro g25 hg25
  try simp only [Int.toNat_natCast]
  refine aN (k0 (.store 22 (.tmp 25) (.tmp 24))) rfl (a_storeO ho hg25 (by omega) rfl rfl (by kernel_rfl) (rv_sv.2 ⟨rfl, hrow.one.2⟩)) ?_
  rintro _ w4 ⟨rfl, hs, ho⟩
  refine ⟨trivial, ?_⟩
  replace hF := hF.st hs
  replace hT := hT.trans hs (by simp <;> omega)
  replace hw := hw.t hs
  replace hin := fun k hk => (hin k hk).st hs (by simp <;> omega) (by simp <;> omega)
  replace h22 := h22.t hs; replace g23 := g23.t hs; replace hrow := hrow.t hs
  refine Sch.nil ?_
  rw [svsF_set] at ho
  rw [List.nil_append] at hrow
  have hsl2 := svsF_len (updV vf i v24) n
  have hvi : updV vf i v24 i = v24 := by simp [updV]
  refine run_sq ?_
  refine run_sq ?_
  refine run_pl [yy 0, yy 1, yy 2] ?_
  refine yM 26 8 ?_
  refine yM 27 1 ?_
  refine yV (kq 28 (.binOp .eql 3 (.tmp 26) (.tmp 27) 3)) (fun _ => val_eql rfl rfl) ?_
  refine Sch.nil ?_
  refine run_i 28 rfl (fun h28 => ?_) (fun h28 => ?_)
  ·
   refine run_pl [yy 0, yy 1, yy 2, yy 3, yy 4, nn 5, yy 6, nn 7, yy 8, nn 9] ?_
   refine yM 29 7 ?_
   refine yM 30 8 ?_
   refine yM 31 0 ?_
   refine yM 32 8 ?_
   refine iS (e := 22) (kq 33 (.indexAddr 70 (.tmp 31) (.tmp 32))) rfl rfl hw rfl (by kernel_rfl) rfl (by omega) (by omega) ?_
   intro b33 o33 h33
   try simp only [Int.toNat_natCast] at h33
   refine lN (kq 34 (.load 22 (.tmp 33))) rfl rfl trivial h33 (by kernel_rfl) rfl rfl ?_
   intro v34 g34
   refine yS (kq 35 (.call { callee := .builtin .len, args := #[(.tmp 34)], argTypes := #[22] })) rfl rfl (fun w' hS => g34.lenV rfl Try.underlying22 w' ) ?_
   clear hrow
   refine aS (kq 36 (.makeSlice 22 (.tmp 35) (.tmp 35))) rfl rfl (a_make (e := 3) (bytes := 8) (x0 := (0 : Int)) (zs := [.int .i64 0]) hF (j := 100 + i) (by omega) (by kernel_rfl) (by kernel_rfl) rfl rfl (by omega) (by omega) (by omega) (fun h M => zero_int)) ?_
   rintro v36 w5 ⟨Cw5, hs, hrow, hF⟩
   refine ⟨trivial, ?_⟩
   replace hT := hT.t hs; replace hw := hw.t hs; replace ho := ho.t hs
   replace hin := fun k hk => (hin k hk).st hs (by simp <;> omega) (by simp <;> omega)
   replace h22 := h22.t hs; replace h33 := h33.t hs; replace g34 := g34.t hs
   refine oI (e' := 22) (kq 37 (.indexAddr 70 (.tmp 29) (.tmp 30))) rfl rfl ho rfl (by kernel_rfl) rfl (by omega) (by omega) ?_
   intro g37 hg37
   try simp only [Int.toNat_natCast]
   refine aN (k0 (.store 22 (.tmp 37) (.tmp 36))) rfl (a_storeO ho hg37 (by omega) rfl rfl (by kernel_rfl) (rv_sv.2 ⟨rfl, hrow.one.2⟩)) ?_
   rintro _ w6 ⟨rfl, hs, ho⟩
   refine ⟨trivial, ?_⟩
   replace hF := hF.st hs
   replace hT := hT.trans hs (by simp <;> omega)
   replace hw := hw.t hs
   replace hin := fun k hk => (hin k hk).st hs (by simp <;> omega) (by simp <;> omega)
   replace h22 := h22.t hs; replace h33 := h33.t hs; replace g34 := g34.t hs; replace hrow := hrow.t hs
   refine Sch.nil ?_
   rw [svsF_set] at ho
   have hsl3 := svsF_len (updV (updV vf i v24) i v36) n
   have hvi2 : updV (updV vf i v24) i v36 i = v36 := by simp [updV]
   refine run_pl [yy 0, yy 1, yy 2, nn 3, yy 4, yy 5, nn 6] ?_
   refine yM 38 7 ?_
   refine yM 39 8 ?_
   refine oI (e' := 22) (kq 40 (.indexAddr 70 (.tmp 38) (.tmp 39))) rfl rfl ho rfl (by kernel_rfl) rfl (by omega) (by omega) ?_
   intro g40 hg40
   try simp only [Int.toNat_natCast]
   refine oN (kq 41 (.load 22 (.tmp 40))) rfl rfl trivial ho hg40 (by omega) (by kernel_rfl) rfl rfl ?_
   intro v41 g41
   try simp only [Int.toNat_natCast] at g41
   obtain ⟨e41, _⟩ := rv_sv.1 g41
   rw [svsF_get, hvi2] at e41
   replace e41 := e41.symm
   subst e41
   refine yM 42 2 ?_
   refine oI (e' := 3) (kq 43 (.indexAddr 22 (.tmp 41) (.tmp 42))) rfl rfl hrow rfl (by kernel_rfl) rfl (by omega) (by first | omega | (simp only [List.length_replicate]; omega)) ?_
   intro g43 hg43
   try simp only [Int.toNat_natCast]
   refine aN (k0 (.store 3 (.tmp 43) (.const (.int .i64 0)))) rfl (a_storeO hrow hg43 (by first | omega | (simp only [List.length_replicate]; omega)) rfl rfl (by kernel_rfl) (rv_int.2 rfl)) ?_
   rintro _ w7 ⟨rfl, hs, hrow⟩
   refine ⟨trivial, ?_⟩
   replace hF := hF.st hs
   replace hT := hT.trans hs (by simp <;> omega)
   replace hw := hw.t hs; replace ho := ho.t hs
   replace hin := fun k hk => (hin k hk).st hs (by simp <;> omega) (by simp <;> omega)
   replace h22 := h22.t hs; replace h33 := h33.t hs; replace g34 := g34.t hs
   refine Sch.nil ?_
   refine run_inBlock ?_
   refine run_pl [yy 0, yy 1, yy 2] ?_
   refine yM 16 8 ?_
   refine yV (kq 17 (.binOp .add 3 (.tmp 16) (.const (.int .i64 1)) 3)) (fun _ => val_addi rfl rfl (by omega) (by omega)) ?_
   refine yA 8 17 ?_
   refine Sch.nil ?_
   refine kp (sub_cons 0 rfl rfl (sub_cons 1 rfl rfl (sub_cons 2 rfl rfl (sub_cons 7 rfl rfl (sub_cons 8 rfl (eq_int (by simp)) (sub_nil _)))))) (next1 (i + 1, updV (updV vf i v24) i v36, Cw5) _ ⟨(by first | omega | (simp only; omega)), hF, hT, hw, ho, (fun q hq => by
       simp only at hq ⊢
       by_cases e : q = i
       · subst e; rw [hvi2]; unfold wrow; rw [if_pos (show q = a by omega), hgd]; exact hrow
       · rw [show (updV (updV vf i v24) i v36) q = vf q from by simp [updV, e]]; exact hin q (by omega))⟩ (by first | omega | (simp only; omega)))
  ·
   refine run_sk ?_
   refine run_pl [yy 0, yy 1, yy 2, nn 3, yy 4, yy 5, nn 6] ?_
   refine yM 38 7 ?_
   refine yM 39 8 ?_
   refine oI (e' := 22) (kq 40 (.indexAddr 70 (.tmp 38) (.tmp 39))) rfl rfl ho rfl (by kernel_rfl) rfl (by omega) (by omega) ?_
   intro g40 hg40
   try simp only [Int.toNat_natCast]
   refine oN (kq 41 (.load 22 (.tmp 40))) rfl rfl trivial ho hg40 (by omega) (by kernel_rfl) rfl rfl ?_
   intro v41 g41
   try simp only [Int.toNat_natCast] at g41
   obtain ⟨e41, _⟩ := rv_sv.1 g41
   rw [svsF_get, hvi] at e41
   replace e41 := e41.symm
   subst e41
   refine yM 42 2 ?_
   refine oI (e' := 3) (kq 43 (.indexAddr 22 (.tmp 41) (.tmp 42))) rfl rfl hrow rfl (by kernel_rfl) rfl (by omega) (by first | omega | (simp only [List.length_replicate]; omega)) ?_
   intro g43 hg43
   try simp only [Int.toNat_natCast]
   refine aN (k0 (.store 3 (.tmp 43) (.const (.int .i64 0)))) rfl (a_storeO hrow hg43 (by first | omega | (simp only [List.length_replicate]; omega)) rfl rfl (by kernel_rfl) (rv_int.2 rfl)) ?_
   rintro _ w8 ⟨rfl, hs, hrow⟩
   refine ⟨trivial, ?_⟩
   replace hF := hF.st hs
   replace hT := hT.trans hs (by simp <;> omega)
   replace hw := hw.t hs; replace ho := ho.t hs
   replace hin := fun k hk => (hin k hk).st hs (by simp <;> omega) (by simp <;> omega)
   replace h22 := h22.t hs
   refine Sch.nil ?_
   refine run_inBlock ?_
   refine run_pl [yy 0, yy 1, yy 2] ?_
   refine yM 16 8 ?_
   refine yV (kq 17 (.binOp .add 3 (.tmp 16) (.const (.int .i64 1)) 3)) (fun _ => val_addi rfl rfl (by omega) (by omega)) ?_
   refine yA 8 17 ?_
   refine Sch.nil ?_
   refine kp (sub_cons 0 rfl rfl (sub_cons 1 rfl rfl (sub_cons 2 rfl rfl (sub_cons 7 rfl rfl (sub_cons 8 rfl (eq_int (by simp)) (sub_nil _)))))) (next1 (i + 1, updV vf i v24, Cw3) _ ⟨(by first | omega | (simp only; omega)), hF, hT, hw, ho, (fun q hq => by
       simp only at hq ⊢
       by_cases e : q = i
       · subst e; rw [hvi]; unfold wrow; rw [if_neg (show ¬ q = a by omega), hgd]; exact hrow
       · rw [show (updV vf i v24) q = vf q from by simp [updV, e]]; exact hin q (by omega))⟩ (by first | omega | (simp only; omega)))
 ·
  have hin_ : i = n := by omega
  rw [hin_] at hin
  refine run_ex 0 ?_
  refine run_sq ?_
  refine run_pl [yy 0, yy 1] ?_
  refine yM 44 7 ?_
  refine yA 6 44 ?_
  refine Sch.nil ?_
  refine run_ret1 (by kernel_rfl) Try.func38 Try.results38 rfl ?_
  have hlt : ∀ q b, col1 C b < 100 + q := fun q b => by have := col1_lt2 C b; omega
  exact ⟨keepC w₀.heap.size C _, vf, (hT.out1 (by intro c hc; simp at hc; omega)).keep, hF0.keep hF hT.size, ho.keep hT (fun b => by have := col1_lt2 C b; omega) flatS_, fun q hq => (hin q hq).keep hT (hlt q) flatI_⟩
end Go.Proofs.Ytgooehopkmbkfaa
