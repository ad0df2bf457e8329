/- Steps through functions of the program. -/
import Derived.Test.YtgooehopkmbkfaaJX5
import Derived.Test.YtgooehopkmbkfaaL2
set_option linter.unusedVariables false
set_option linter.unusedSimpArgs false
set_option maxRecDepth 100000
set_option maxHeartbeats 4000000
namespace Go.Proofs.Ytgooehopkmbkfaa
open Go.K Go.K.Rep

namespace F36
noncomputable def c0 := bodyOf Try.f36
noncomputable def c8 := (cl (cr (cl (cr (cr c0)))))
noncomputable def c21 := (cl (cl (cr (cr (cr c0)))))
noncomputable def c22 := (cr (cl (cr (cr (cr c0)))))
noncomputable def c32 := (cl (cl (cr (cl (cl c22)))))
noncomputable def o10 := rops (cl (cr c32))
noncomputable def c39 := (cl (cr (cr (cr (cr c0)))))
end F36
/-- The reference's 'matrix'. -/
theorem matrix_ok {w₀ : World} {C : Nat → Nat} {n m : Nat} {l : List K.Edge} {vl : Value} (hF : Lim w₀ C) (hl : RV w₀ (Mc C) l vl) (hV : VE n m l) (hn : n ≤ 64) (hm : m ≤ 64) : Calls Try.prog 36 #[.int .i64 n, .int .i64 m, vl] w₀ (Ret fun v w' => ∃ (C' : Nat → Nat) (vf : Nat → Value), Stp [] w₀ C w' C' ∧ Lim w' C' ∧ OwnL w' C' 99 22 v (svsF vf n) ∧ ∀ q, q < n → OwnL w' C' (100 + q) 3 (vf q) (mrow l m q)) := by
 have hF0 := hF
 have hT := Stp.refl [2, 3, 4, 5, 6, 7, 8, 9] w₀ (col1 C)
 replace hF := hF.col1
 replace hl : RV w₀ (Mc (col1 C)) l vl := by rw [Mc_col1]; exact hl
 have hll := hl.le
 refine calls_start (c := F36.c0) (N := 54) [.int .i64 n, .int .i64 m, vl] Try.func36 (by kernel_rfl) (by kernel_rfl) (by kernel_rfl) ?_
 show Run _ _ _ _ [(0, .int .i64 n), (1, .int .i64 m), (2, vl)] _ _
 refine run_sq ?_
 refine run_pl [yy 0] ?_
 refine yV (kq 6 (.assign (.const (.slice none 0 0)))) (fun _ => val_assign rfl) ?_
 refine Sch.nil ?_
 refine run_sq ?_
 refine run_pl [yy 0, nn 1, yy 2] ?_
 refine yM 10 0 ?_
 refine aS (kq 11 (.makeSlice 70 (.tmp 10) (.tmp 10))) rfl rfl (a_make (e := 22) (bytes := 24) (x0 := (⟨.slice none 0 0⟩ : Sv)) (zs := [.slice none 0 0]) hF (j := 99) (by decide) (by kernel_rfl) (by kernel_rfl) rfl rfl (by omega) (by omega) (by omega) (fun h M => ⟨rfl, rfl⟩)) ?_
 rintro v11 w1 ⟨Cw1, hs, ho, hF⟩
 refine ⟨trivial, ?_⟩
 replace hT := hT.t hs; replace hl := hl.t hs
 rw [svsF_rep] at ho
 refine yA 7 11 ?_
 refine Sch.nil ?_
 refine run_sq ?_
 refine run_sq ?_
 refine run_pl [yy 0] ?_
 refine yAc 8 (.int .i64 0) ?_
 refine Sch.nil ?_
 refine run_bk 0 ?_
 replace hT : Stp ([2, 3, 4, 5, 6, 7, 8, 9] ++ List.range' 99 (n + 1)) w₀ (col1 C) _ _ := hT.mono (by intro c hc; exact List.mem_append_left _ hc)
 refine run_lp (ι := Nat × (Nat → Value) × (Nat → Nat)) (I := fun x w => x.1 ≤ n ∧ Lim w x.2.2 ∧ Stp ([2, 3, 4, 5, 6, 7, 8, 9] ++ List.range' 99 (n + 1)) w₀ (col1 C) w x.2.2 ∧ RV w (Mc x.2.2) l vl ∧ OwnL w x.2.2 99 22 v11 (svsF x.2.1 n) ∧ (∀ q, q < x.1 → OwnL w x.2.2 (100 + q) 3 (x.2.1 q) (mrow [] m q))) (e := fun x => [(0, .int .i64 n), (1, .int .i64 m), (2, vl), (7, v11), (8, .int .i64 x.1)]) (m := fun x => n - x.1) (x₀ := (0, fun _ => .slice none 0 0, Cw1)) (sr 0 (sr 1 (sr 2 (sr 7 (sr 8 (sub_nil _)))))) ?_ ?_
 · exact ⟨Nat.zero_le _, hF, hT, hl, ho, fun q hq => by simp only at hq; omega⟩
 intro ⟨i, vf, C1⟩ w2 hI next
 obtain ⟨hi, hF, hT, hl, ho, hin⟩ := hI
 try simp only at hi hF hT hl ho hin
 have next1 := next
 clear next
 show Run _ _ _ _ [(0, .int .i64 n), (1, .int .i64 m), (2, vl), (7, v11), (8, .int .i64 i)] _ _
 have hsl := svsF_len vf n
 refine run_sq ?_
 refine run_sq ?_
 refine run_pl [yy 0, yy 1, yy 2] ?_
 refine yM 12 8 ?_
 refine yM 13 0 ?_
 refine yV (kq 14 (.binOp .lss 3 (.tmp 12) (.tmp 13) 3)) (fun _ => val_lss rfl rfl) ?_
 refine Sch.nil ?_
 refine run_i 14 rfl (fun h14 => ?_) (fun h14 => ?_)
 ·
  have hil : i < n := by omega
  refine run_sk ?_
  refine run_sq ?_
  refine run_bk 1 ?_
  refine run_pl [yy 0, yy 1, yy 2, nn 3, yy 4, nn 5] ?_
  refine yM 17 7 ?_
  refine yM 18 8 ?_
  refine yM 19 1 ?_
  refine aS (kq 20 (.makeSlice 22 (.tmp 19) (.tmp 19))) rfl rfl (a_make (e := 3) (bytes := 8) (x0 := (0 : Int)) (zs := [.int .i64 0]) hF (j := 100 + i) (by omega) (by kernel_rfl) (by kernel_rfl) rfl rfl (by omega) (by omega) (by omega) (fun h M => zero_int)) ?_
  rintro v20 w3 ⟨Cw3, hs, hrow, hF⟩
  refine ⟨trivial, ?_⟩
  replace hT := hT.t hs; replace hl := hl.t hs; replace ho := ho.t hs
  replace hin := fun k hk => (hin k hk).st hs (by simp <;> omega) (by simp <;> omega)
  refine oI (e' := 22) (kq 21 (.indexAddr 70 (.tmp 17) (.tmp 18))) rfl rfl ho rfl (by kernel_rfl) rfl (by omega) (by omega) ?_
  intro g21 hg21
  try simp only [Int.toNat_natCast]
  refine aN (k0 (.store 22 (.tmp 21) (.tmp 20))) rfl (a_storeO ho hg21 (by omega) rfl rfl (by kernel_rfl) (rv_sv.2 ⟨rfl, hrow.one.2⟩)) ?_
  rintro _ w4 ⟨rfl, hs, ho⟩
  refine ⟨trivial, ?_⟩
  replace hF := hF.st hs
  replace hT := hT.trans hs (by simp <;> omega)
  replace hl := hl.t hs
  replace hin := fun k hk => (hin k hk).st hs (by simp <;> omega) (by simp <;> omega)
  replace hrow := hrow.t hs
  refine Sch.nil ?_
  rw [svsF_set] at ho
  refine run_inBlock ?_
  refine run_pl [yy 0, yy 1, yy 2] ?_
  refine yM 15 8 ?_
  refine yV (kq 16 (.binOp .add 3 (.tmp 15) (.const (.int .i64 1)) 3)) (fun _ => val_addi rfl rfl (by omega) (by omega)) ?_
  refine yA 8 16 ?_
  refine Sch.nil ?_
  refine kp (sub_cons 0 rfl rfl (sub_cons 1 rfl rfl (sub_cons 2 rfl rfl (sub_cons 7 rfl rfl (sub_cons 8 rfl (eq_int (by simp)) (sub_nil _)))))) (next1 (i + 1, updV vf i v20, Cw3) _ ⟨(by first | omega | (simp only; omega)), hF, hT, hl, ho, (fun q hq => by
      simp only at hq ⊢
      by_cases e : q = i
      · subst e; rw [show updV vf q v20 q = v20 from by simp [updV], mrow_nil]; exact hrow
      · rw [show updV vf i v20 q = vf q from by simp [updV, e]]; exact hin q (by omega))⟩ (by first | omega | (simp only; omega)))
 ·
  have hin_ : i = n := by omega
  rw [hin_] at hin
  refine run_ex 0 ?_
  refine run_sq ?_
  refine run_sq ?_
  refine run_pl [yy 0] ?_
  refine yAc 9 (.int .i64 0) ?_
  refine Sch.nil ?_
  refine run_bk 2 ?_
  
  refine run_lp (ι := Nat × (Nat → Nat)) (I := fun x w => x.1 ≤ l.length ∧ Lim w x.2 ∧ Stp ([2, 3, 4, 5, 6, 7, 8, 9] ++ List.range' 99 (n + 1)) w₀ (col1 C) w x.2 ∧ RV w (Mc x.2) l vl ∧ OwnL w x.2 99 22 v11 (svsF vf n) ∧ (∀ q, q < n → OwnL w x.2 (100 + q) 3 (vf q) (mrow (l.take x.1) m q))) (e := fun x => [(2, vl), (7, v11), (9, .int .i64 x.1)]) (m := fun x => l.length - x.1) (x₀ := (0, C1)) (sr 2 (sr 7 (sr 9 (sub_nil _)))) ?_ ?_
  · exact ⟨Nat.zero_le _, hF, hT, hl, ho, hin⟩
  intro ⟨k, C2⟩ w5 hI next
  obtain ⟨hk, hF, hT, hl, ho, hin⟩ := hI
  try simp only at hk hF hT hl ho hin
  have next2 := next
  clear next
  show Run _ _ _ _ [(2, vl), (7, v11), (9, .int .i64 k)] _ _
  have hsl2 := svsF_len vf n
  have hll2 := hl.le
  refine run_sq ?_
  refine run_sq ?_
  refine run_pl [yy 0, yy 1, yy 2, yy 3] ?_
  refine yM 22 9 ?_
  refine yM 23 2 ?_
  refine yS (kq 24 (.call { callee := .builtin .len, args := #[(.tmp 23)], argTypes := #[23] })) rfl rfl (fun w' hS => hl.lenV rfl Try.underlying23 w' ) ?_
  refine yV (kq 25 (.binOp .lss 3 (.tmp 22) (.tmp 24) 3)) (fun _ => val_lss rfl rfl) ?_
  refine Sch.nil ?_
  refine run_i 25 rfl (fun h25 => ?_) (fun h25 => ?_)
  ·
   have hkl : k < l.length := by omega
   have hok := hV.ok l[k] (List.getElem_mem hkl)
   unfold okE at hok
   obtain ⟨a0, ha0⟩ : ∃ a0 : Nat, l[k].a = a0 := ⟨l[k].a.toNat, by omega⟩
   obtain ⟨b0, hb0⟩ : ∃ b0 : Nat, l[k].b = b0 := ⟨l[k].b.toNat, by omega⟩
   have han : a0 < n := by omega
   have hbm : b0 < m := by omega
   have hup := mrow_upd hV hkl ha0 hb0 hbm
   have hrl := mrow_len (l.take k) m a0
   refine run_sk ?_
   refine run_sq ?_
   refine run_bk 3 ?_
   refine run_sq ?_
   refine run_pl [yy 0, yy 1, yy 2, yy 3, nn 4, yy 5] ?_
   refine yM 28 2 ?_
   refine yM 29 9 ?_
   refine iS (e := 46) (kq 30 (.indexAddr 23 (.tmp 28) (.tmp 29))) rfl rfl hl rfl (by kernel_rfl) rfl (by omega) (by omega) ?_
   intro b30 o30 h30
   try simp only [Int.toNat_natCast] at h30
   have h31 := RA.ew h30
   refine yF 31 46 30 2 2 ?_
   refine lN (kq 32 (.load 3 (.tmp 31))) rfl rfl trivial h31 (by kernel_rfl) rfl rfl ?_
   intro v32 g32
   first | (obtain rfl := rv_nat.1 g32) | (obtain rfl := rv_int.1 g32)
   refine yV (kq 33 (.binOp .gtr 3 (.tmp 32) (.const (.int .i64 0)) 3)) (fun _ => val_gtr rfl rfl) ?_
   refine Sch.nil ?_
   refine run_i 33 rfl (fun h33 => ?_) (fun h33 => ?_)
   ·
    rw [if_pos h33] at hup
    refine run_draw (id := 10) (ops := F36.o10) [100 + a0] (C2) [yy 0, yy 1, yy 2, yy 3, yy 4, yy 5, yy 6, yy 7, yy 8, yy 9, yy 10, yy 11, yy 12, yy 13, yy 14, yy 15, yy 16, yy 17, yy 18, nn 19] Try_mixed (by kernel_rfl) (by kernel_rfl) (by kernel_rfl) ?_
    intro w6 hs
    replace hF := hF.st hs
    replace hT := hT.t hs; replace hl := hl.t hs; replace ho := ho.t hs
    replace hin := fun k hk => (hin k hk).st hs (by simp <;> omega) (by simp <;> omega)
    replace h30 := h30.t hs; replace h31 := h31.t hs
    have hR := Stp.refl [100 + a0] w6 (C2)
    refine yM 34 7 ?_
    refine yM 35 2 ?_
    refine yM 36 9 ?_
    refine iS (e := 46) (kq 37 (.indexAddr 23 (.tmp 35) (.tmp 36))) rfl rfl hl rfl (by kernel_rfl) rfl (by omega) (by omega) ?_
    intro b37 o37 h37
    try simp only [Int.toNat_natCast] at h37
    have h38 := RA.ea h37
    refine yF 38 46 37 0 0 ?_
    refine lS (kq 39 (.load 3 (.tmp 38))) rfl rfl (fun w' hS => h38.sy hS) h38 (by kernel_rfl) rfl rfl ?_
    intro v39 g39
    first | (obtain rfl := rv_nat.1 g39) | (obtain rfl := rv_int.1 g39)
    rw [ha0]
    refine oI (e' := 22) (kq 40 (.indexAddr 70 (.tmp 34) (.tmp 39))) rfl rfl ho rfl (by kernel_rfl) rfl (by omega) (by omega) ?_
    intro g40 hg40
    try simp only [Int.toNat_natCast]
    refine oS (I := [100 + a0]) (kq 41 (.load 22 (.tmp 40))) rfl rfl ho hg40 (fun w' hS => ho.sy hg40 hS) (by omega) (by kernel_rfl) rfl rfl ?_
    intro v41 g41
    try simp only [Int.toNat_natCast] at g41
    obtain ⟨e41, _⟩ := rv_sv.1 g41
    rw [svsF_get] at e41
    subst e41
    refine yM 42 2 ?_
    refine yM 43 9 ?_
    refine iS (e := 46) (kq 44 (.indexAddr 23 (.tmp 42) (.tmp 43))) rfl rfl hl rfl (by kernel_rfl) rfl (by omega) (by omega) ?_
    intro b44 o44 h44
    try simp only [Int.toNat_natCast] at h44
    have h45 := RA.eb h44
    refine yF 45 46 44 1 1 ?_
    refine lS (kq 46 (.load 3 (.tmp 45))) rfl rfl (fun w' hS => h45.sy hS) h45 (by kernel_rfl) rfl rfl ?_
    intro v46 g46
    first | (obtain rfl := rv_nat.1 g46) | (obtain rfl := rv_int.1 g46)
    rw [hb0]
    refine yM 47 2 ?_
    refine yM 48 9 ?_
    refine iS (e := 46) (kq 49 (.indexAddr 23 (.tmp 47) (.tmp 48))) rfl rfl hl rfl (by kernel_rfl) rfl (by omega) (by omega) ?_
    intro b49 o49 h49
    try simp only [Int.toNat_natCast] at h49
    have h50 := RA.ew h49
    refine yF 50 46 49 2 2 ?_
    refine lS (kq 51 (.load 3 (.tmp 50))) rfl rfl (fun w' hS => h50.sy hS) h50 (by kernel_rfl) rfl rfl ?_
    intro v51 g51
    first | (obtain rfl := rv_nat.1 g51) | (obtain rfl := rv_int.1 g51)
    refine oI (e' := 3) (kq 52 (.indexAddr 22 (.tmp 41) (.tmp 46))) rfl rfl (hin a0 han) rfl (by kernel_rfl) rfl (by omega) (by omega) ?_
    intro g52 hg52
    try simp only [Int.toNat_natCast]
    refine Sch.free rfl ?_
    refine aN (k0 (.store 3 (.tmp 52) (.tmp 51))) rfl (a_storeO (hin a0 han) hg52 (by omega) rfl rfl (by kernel_rfl) (rv_int.2 rfl)) ?_
    rintro _ w7 ⟨rfl, hs, hnew⟩
    refine ⟨trivial, ?_⟩
    replace hF := hF.st hs
    replace hT := hT.trans hs (by simp <;> omega)
    replace hl := hl.t hs; replace ho := ho.t hs; replace h30 := h30.t hs; replace h31 := h31.t hs; replace h37 := h37.t hs; replace h38 := h38.t hs; replace h44 := h44.t hs; replace h45 := h45.t hs; replace h49 := h49.t hs; replace h50 := h50.t hs
    replace hin := fun q hq (hne : q ≠ a0) => (hin q hq).st hs (by simp <;> omega) (by simp <;> omega)
    refine Sch.nil ?_
    refine run_inBlock ?_
    refine run_pl [yy 0, yy 1, yy 2] ?_
    refine yM 26 9 ?_
    refine yV (kq 27 (.binOp .add 3 (.tmp 26) (.const (.int .i64 1)) 3)) (fun _ => val_addi rfl rfl (by omega) (by omega)) ?_
    refine yA 9 27 ?_
    refine Sch.nil ?_
    refine kp (sub_cons 2 rfl rfl (sub_cons 7 rfl rfl (sub_cons 9 rfl (eq_int (by simp)) (sub_nil _)))) (next2 (k + 1, C2) _ ⟨(by first | omega | (simp only; omega)), hF, hT, hl, ho, (fun q hq => by
        simp only at hq ⊢
        by_cases e : q = a0
        · subst e; rw [hup]; exact hnew
        · rw [mrow_other hkl (by rw [ha0]; omega)]; exact hin q hq e)⟩ (by first | omega | (simp only; omega)))
   ·
    rw [if_neg h33] at hup
    refine run_sk ?_
    refine run_inBlock ?_
    refine run_pl [yy 0, yy 1, yy 2] ?_
    refine yM 26 9 ?_
    refine yV (kq 27 (.binOp .add 3 (.tmp 26) (.const (.int .i64 1)) 3)) (fun _ => val_addi rfl rfl (by omega) (by omega)) ?_
    refine yA 9 27 ?_
    refine Sch.nil ?_
    refine kp (sub_cons 2 rfl rfl (sub_cons 7 rfl rfl (sub_cons 9 rfl (eq_int (by simp)) (sub_nil _)))) (next2 (k + 1, C2) _ ⟨(by first | omega | (simp only; omega)), hF, hT, hl, ho, (fun q hq => by
        simp only at hq ⊢
        by_cases e : q = a0
        · subst e; rw [hup]; exact hin q hq
        · rw [mrow_other hkl (by rw [ha0]; omega)]; exact hin q hq)⟩ (by first | omega | (simp only; omega)))
  ·
   have hkl : k = l.length := by omega
   rw [hkl, List.take_length] at hin
   refine run_ex 2 ?_
   refine run_sq ?_
   refine run_pl [yy 0, yy 1] ?_
   refine yM 53 7 ?_
   refine yA 6 53 ?_
   refine Sch.nil ?_
   refine run_ret1 (by kernel_rfl) Try.func36 Try.results36 rfl ?_
   have hlt : ∀ q b, col1 C b < 100 + q := fun q b => by have := col1_lt2 C b; omega
   exact ⟨keepC w₀.heap.size C _, vf, (hT.out1 (by intro c hc; simp at hc; omega)).keep, hF0.keep hF hT.size, ho.keep hT (fun b => by have := col1_lt2 C b; omega) flatS_, fun q hq => (hin q hq).keep hT (hlt q) flatI_⟩
end Go.Proofs.Ytgooehopkmbkfaa
