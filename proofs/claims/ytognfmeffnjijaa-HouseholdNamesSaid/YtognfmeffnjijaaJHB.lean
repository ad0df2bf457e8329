/- Steps through functions of the program. -/
import Derived.Test.YtognfmeffnjijaaJHA
set_option linter.unusedVariables false
set_option linter.unusedSimpArgs false
set_option maxRecDepth 100000
set_option maxHeartbeats 4000000
namespace Go.Proofs.Ytognfmeffnjijaa
open Go.K Go.K.Rep

namespace F4
noncomputable def c0 := bodyOf Try.f4
noncomputable def c7 := (cl (cl (cr (cl (cr c0)))))
noncomputable def c15 := (cl (cr (cr (cr (cr c0)))))
noncomputable def c16 := (cr (cr (cr (cr (cr c0)))))
noncomputable def c24 := (cl (cr (cl (cr (cr c16)))))
noncomputable def c33 := (cl (cl (cr (cr (cl c24)))))
noncomputable def c39 := (cl (cl (cr (cr (cr c16)))))
noncomputable def c40 := (cr (cl (cr (cr (cr c16)))))
noncomputable def c49 := (cl (cr (cr (cl (cl c40)))))
noncomputable def c53 := (cr (cr (cr (cl (cl c40)))))
noncomputable def c55 := (cl (cr (cr (cr (cr c16)))))
noncomputable def c56 := (cr (cr (cr (cr (cr c16)))))
end F4
/-- The numbers of households are names. -/
theorem householdNames_ok {w₀ : World} {C : Nat → Nat} {l : List Int} {vl : Value} {mm : Nat} (hm8 : mm < 256) (hF : Lim w₀ C) (hl : RV w₀ (Mc C) l vl) : Calls Try.prog 4 #[vl, .int .u8 (mm : Int)] w₀ (Ret fun v w' => v = .bool true ∧ Stp [] w₀ C w' C) := by
 have hF0 := hF
 have hT := Stp.refl [2, 3, 4, 5, 6, 7, 8, 9] w₀ (col1 C)
 replace hF := hF.col1
 replace hl : RV w₀ (Mc (col1 C)) l vl := by rw [Mc_col1]; exact hl
 refine calls_start (c := F4.c0) (N := 119) [vl, .int .u8 (mm : Int)] Try.func4 (by kernel_rfl) (by kernel_rfl) (by kernel_rfl) ?_
 show Run _ _ _ _ [(0, vl), (1, .int .u8 (mm : Int))] _ _
 refine run_sq ?_
 refine run_pl [yy 0] ?_
 refine yAc 4 (.bool false) ?_
 refine Sch.nil ?_
 refine run_sq ?_
 refine run_sq ?_
 refine run_pl [nn 0, yy 1, yy 2, yy 3, nn 4, yy 5, yy 6] ?_
 refine cS (kq 21 (.call { callee := .value (.func 7), args := #[], argTypes := #[] })) rfl rfl (ent Try.call7 rfl) (awake_ok hF) ?_
 rintro vw1 w1 ⟨rfl, hs⟩
 refine ⟨trivial, ?_⟩
 replace hF := hF.st hs
 replace hT := hT.t hs; replace hl := hl.t hs
 refine yV (kq 22 (.unOp .not 4 (.tmp 21))) (fun _ => val_not rfl) ?_
 refine yM 23 22 ?_
 refine yMg 24 0 2 false ?_
 refine cS (kg 25 (.call { callee := .value (.func 8), args := #[(.tmp 24)], argTypes := #[22] }) 2 false) rfl rfl (ent Try.call8 rfl) (few_any hl) ?_
 rintro vw2 w2 ⟨rfl, rfl⟩
 refine ⟨trivial, ?_⟩
 refine yV (kg 26 (.unOp .not 4 (.tmp 25)) 2 false) (fun _ => val_notd rfl) ?_
 refine yOf 27 23 26 ?_
 refine Sch.nil ?_
 refine run_i 27 rfl (fun h27 => ?_) (fun h27 => ?_)
 ·
  refine run_sq ?_
  refine run_pl [nn 0, yy 1] ?_
  refine cS (kq 28 (.call { callee := .value (.func 7), args := #[], argTypes := #[] })) rfl rfl (ent Try.call7 rfl) (awake_ok hF) ?_
  rintro vw3 w3 ⟨rfl, hs⟩
  refine ⟨trivial, ?_⟩
  replace hF := hF.st hs
  replace hT := hT.t hs; replace hl := hl.t hs
  refine yA 4 28 ?_
  refine Sch.nil ?_
  refine run_ret1 (by kernel_rfl) Try.func4 Try.results4 rfl ?_
  exact ⟨rfl, hT.out1 (by decide)⟩
 ·
  refine run_sk ?_
  refine run_sq ?_
  refine run_pl [yy 0, nn 1, yy 2] ?_
  refine yM 29 0 ?_
  refine cS (kq 30 (.call { callee := .value (.func 9), args := #[(.tmp 29)], argTypes := #[22] })) rfl rfl (ent Try.call9 rfl) (new_any hF hl) ?_
  rintro vw4 w4 ⟨Cd, bd, rfl, hs, hF, hd⟩
  refine ⟨trivial, ?_⟩
  replace hT := hT.t hs; replace hl := hl.t hs
  refine yA 5 30 ?_
  refine Sch.nil ?_
  refine run_sq ?_
  refine run_pl [yy 0, nn 1, yy 2, yy 3, nn 4, yy 5, yy 6, yy 7] ?_
  refine yM 31 5 ?_
  refine cS (kq 32 (.call { callee := .value (.func 10), args := #[(.tmp 31), (.const (.int .i64 4))], argTypes := #[25, 3] })) rfl rfl (ent Try.call10 rfl) (next_any (n := 4) hF (by decide) hd (by omega) (by omega)) ?_
  rintro vw5 w5 ⟨p, rfl, hp, hs, hd⟩
  refine ⟨trivial, ?_⟩
  replace hF := hF.st hs
  replace hT := hT.t hs; replace hl := hl.t hs
  refine yV (kq 33 (.binOp .add 3 (.const (.int .i64 1)) (.tmp 32) 3)) (fun _ => val_addi rfl rfl (by omega) (by omega)) ?_
  obtain ⟨n, hnd⟩ : ∃ x : Nat, x = p + 1 := ⟨_, rfl⟩
  rw [show (1 : Int) + (p : Int) = ((n : Nat) : Int) from by omega]
  refine yM 34 5 ?_
  refine cS (kq 35 (.call { callee := .value (.func 10), args := #[(.tmp 34), (.const (.int .i64 4))], argTypes := #[25, 3] })) rfl rfl (ent Try.call10 rfl) (next_any (n := 4) hF (by decide) hd (by omega) (by omega)) ?_
  rintro vw6 w6 ⟨q, rfl, hq, hs, hd⟩
  refine ⟨trivial, ?_⟩
  replace hF := hF.st hs
  replace hT := hT.t hs; replace hl := hl.t hs
  refine yV (kq 36 (.binOp .add 3 (.const (.int .i64 1)) (.tmp 35) 3)) (fun _ => val_addi rfl rfl (by omega) (by omega)) ?_
  obtain ⟨m, hmd⟩ : ∃ x : Nat, x = q + 1 := ⟨_, rfl⟩
  rw [show (1 : Int) + (q : Int) = ((m : Nat) : Int) from by omega]
  refine yA 6 33 ?_
  refine yA 7 36 ?_
  refine Sch.nil ?_
  refine run_sq ?_
  refine run_pl [yy 0, yy 1, nn 2, yy 3, yy 4, nn 5, yy 6, yy 7] ?_
  refine yM 37 5 ?_
  refine yM 38 6 ?_
  refine cS (kq 39 (.call { callee := .value (.func 11), args := #[(.tmp 37), (.tmp 38)], argTypes := #[25, 3] })) rfl rfl (ent Try.call11 rfl) (houses_any (n := n) hF (by decide) hd (by omega)) ?_
  rintro va w7 ⟨al, hall, hal3, hs, ha, hd⟩
  refine ⟨trivial, ?_⟩
  replace hF := hF.st hs
  replace hT := hT.t hs; replace hl := hl.t hs
  refine yM 40 5 ?_
  refine yM 41 7 ?_
  refine cS (kq 42 (.call { callee := .value (.func 11), args := #[(.tmp 40), (.tmp 41)], argTypes := #[25, 3] })) rfl rfl (ent Try.call11 rfl) (houses_any (n := m) hF (by decide) hd (by omega)) ?_
  rintro vb w8 ⟨bl, hbll, hbl3, hs, hb, hd⟩
  refine ⟨trivial, ?_⟩
  replace hF := hF.st hs
  replace hT := hT.t hs; replace hl := hl.t hs; replace ha := ha.t hs
  refine yA 8 39 ?_
  refine yA 9 42 ?_
  refine Sch.nil ?_
  refine run_sq ?_
  refine run_pl [yy 0, yy 1, yy 2, nn 3, yy 4] ?_
  refine yM 43 5 ?_
  refine yM 44 6 ?_
  refine yM 45 7 ?_
  refine cS (kq 46 (.call { callee := .value (.func 12), args := #[(.tmp 43), (.tmp 44), (.tmp 45), (.const (.int .i64 2))], argTypes := #[25, 3, 3, 3] })) rfl rfl (ent Try.call12 rfl) (edges_any (n := n) (m := m) (one := 2) hF (by decide) hd (by omega) (by omega) (by decide) (by decide)) ?_
  rintro v_el w9 ⟨el, hE, ⟨hs, he, hd⟩, _⟩
  have hEV := hE.ve (by omega) (by omega)
  have hEc := hEV.check
  refine ⟨trivial, ?_⟩
  replace hF := hF.st hs
  replace hT := hT.t hs; replace hl := hl.t hs; replace ha := ha.t hs; replace hb := hb.t hs
  refine yA 10 46 ?_
  refine Sch.nil ?_
  obtain ⟨hH, h3a, h3b⟩ := hh_small hall hbll hal3 hbl3
  clear hd
  refine run_sq ?_
  refine run_pl [yy 0, nn 1, yy 2, nn 3, yy 4, yy 5] ?_
  refine yM 47 8 ?_
  refine aS (kq 48 (.call { callee := .builtin .append, args := #[(.const (.slice none 0 0)), (.tmp 47)], argTypes := #[22, 22] })) rfl rfl (a_append (e := 3) (bytes := 8) hF (by decide) rfl rfl (by kernel_rfl) (by decide) (OwnL.nil (α := Nat) (j := 4)) ha (by simp only [List.length_nil]; omega) (by simp only [List.length_nil]; omega)) ?_
  rintro v48 w10 ⟨Cw10, hs, hx, hF⟩
  refine ⟨trivial, ?_⟩
  replace hT := hT.t hs; replace hl := hl.t hs; replace ha := ha.t hs; replace hb := hb.t hs; replace he := he.t hs
  simp only [List.nil_append] at hx
  refine yM 49 9 ?_
  refine aS (kq 50 (.call { callee := .builtin .append, args := #[(.const (.slice none 0 0)), (.tmp 49)], argTypes := #[22, 22] })) rfl rfl (a_append (e := 3) (bytes := 8) hF (by decide) rfl rfl (by kernel_rfl) (by decide) (OwnL.nil (α := Nat) (j := 5)) hb (by simp only [List.length_nil]; omega) (by simp only [List.length_nil]; omega)) ?_
  rintro v50 w11 ⟨Cw11, hs, hy, hF⟩
  refine ⟨trivial, ?_⟩
  replace hT := hT.t hs; replace hl := hl.t hs; replace ha := ha.t hs; replace hb := hb.t hs; replace he := he.t hs; replace hx := hx.t hs
  simp only [List.nil_append] at hy
  refine yA 11 48 ?_
  refine yA 12 50 ?_
  refine Sch.nil ?_
  refine run_sq ?_
  refine run_sq ?_
  refine run_pl [yy 0, yy 1, yy 2] ?_
  refine yM 51 11 ?_
  refine yS (kq 52 (.call { callee := .builtin .len, args := #[(.tmp 51)], argTypes := #[22] })) rfl rfl (fun w' hS => hx.lenV rfl Try.underlying22 w' ) ?_
  refine yV (kq 53 (.move (.const (.int .i64 0)))) (fun _ => val_move rfl) ?_
  refine Sch.nil ?_
  refine run_bk 0 ?_
  
  refine run_lp (ι := Nat × (List Nat) × (Nat → Nat)) (I := fun x w => x.1 ≤ n ∧ x.2.1.length = n ∧ (∀ k, k < n → gN x.2.1 k = if k < x.1 then (7 * gN al k + mm) % 64 else gN al k) ∧ Lim w x.2.2 ∧ Stp [2, 3, 4, 5, 6, 7, 8, 9] w₀ (col1 C) w x.2.2 ∧ RV w (Mc x.2.2) el v_el ∧ RV w (Mc x.2.2) al va ∧ RV w (Mc x.2.2) bl vb ∧ OwnL w x.2.2 4 3 v48 x.2.1 ∧ OwnL w x.2.2 5 3 v50 bl) (e := fun x => [(1, .int .u8 (mm : Int)), (6, .int .i64 n), (7, .int .i64 m), (8, va), (9, vb), (10, v_el), (11, v48), (12, v50), (52, .int .i64 n), (53, .int .i64 x.1)]) (m := fun x => n - x.1) (x₀ := (0, al, Cw11)) (sr 1 (sr 6 (sr 7 (sr 8 (sr 9 (sr 10 (sr 11 (sr 12 (sub_cons 52 rfl (eq_int (by rw [hall])) (sr 53 (sub_nil _))))))))))) ?_ ?_
  · exact ⟨Nat.zero_le _, hall, (fun k hk => by rw [if_neg (by omega)]), hF, hT, he, ha, hb, hx, hy⟩
  intro ⟨i, xl, C1⟩ w12 hI next
  obtain ⟨hi, hxl, hxv, hF, hT, he, ha, hb, hx, hy⟩ := hI
  try simp only at hi hxl hxv hF hT he ha hb hx hy
  have next1 := next
  clear next
  show Run _ _ _ _ [(1, .int .u8 (mm : Int)), (6, .int .i64 n), (7, .int .i64 m), (8, va), (9, vb), (10, v_el), (11, v48), (12, v50), (52, .int .i64 n), (53, .int .i64 i)] _ _
  refine run_sq ?_
  refine run_pl [yy 0] ?_
  refine yV (kq 54 (.binOp .lss 3 (.tmp 53) (.tmp 52) 3)) (fun _ => val_lss rfl rfl) ?_
  refine Sch.nil ?_
  refine run_sq ?_
  refine run_i 54 rfl (fun h54 => ?_) (fun h54 => ?_)
  ·
   have hin : i < n := by omega
   have hgx : gN xl i = xl[i]'(by omega) := getD_in _
   have hx3 := h3a i hin
   have hxi := hxv i hin
   rw [if_neg (Nat.lt_irrefl _)] at hxi
   refine run_sk ?_
   refine run_sq ?_
   refine run_bk 1 ?_
   refine run_sq ?_
   refine run_pl [yy 0, yy 1] ?_
   refine yM 55 53 ?_
   refine yA 13 55 ?_
   refine Sch.nil ?_
   refine run_pl [yy 0, yy 1, yy 2, yy 3, yy 4, nn 5, yy 6, yy 7, yy 8, yy 9, yy 10, yy 11, nn 12] ?_
   refine yM 56 11 ?_
   refine yM 57 13 ?_
   refine yM 58 11 ?_
   refine yM 59 13 ?_
   refine oI (e' := 3) (kq 60 (.indexAddr 22 (.tmp 58) (.tmp 59))) rfl rfl hx rfl (by kernel_rfl) rfl (by omega) (by omega) ?_
   intro g60 hg60
   try simp only [Int.toNat_natCast]
   refine oN (kq 61 (.load 3 (.tmp 60))) rfl rfl trivial hx hg60 (by omega) (by kernel_rfl) rfl rfl ?_
   intro v61 g61
   try simp only [Int.toNat_natCast] at g61
   first | (obtain rfl := rv_nat.1 g61) | (obtain rfl := rv_int.1 g61)
   rw [← hgx, hxi]
   refine yV (kq 62 (.binOp .mul 3 (.const (.int .i64 7)) (.tmp 61) 3)) (fun _ => val_muli rfl rfl (by omega) (by omega)) ?_
   refine yM 63 1 ?_
   refine yV (kq 64 (.convert 5 3 (.tmp 63))) (fun _ => val_convE (r := (mm : Int)) rfl ⟨_, Try.underlying5⟩ Try.underlying3 (wrap_i64 (by omega) (by omega))) ?_
   refine yV (kq 65 (.binOp .add 3 (.tmp 62) (.tmp 64) 3)) (fun _ => val_addi rfl rfl (by omega) (by omega)) ?_
   refine yV (kq 66 (.binOp .rem 3 (.tmp 65) (.const (.int .i64 64)) 3)) (fun _ => val_modi rfl rfl (by omega) (by omega)) ?_
   refine oI (e' := 3) (kq 67 (.indexAddr 22 (.tmp 56) (.tmp 57))) rfl rfl hx rfl (by kernel_rfl) rfl (by omega) (by omega) ?_
   intro g67 hg67
   try simp only [Int.toNat_natCast]
   refine aN (k0 (.store 3 (.tmp 67) (.tmp 66))) rfl (a_storeO hx hg67 (by omega) rfl rfl (by kernel_rfl) (x0 := (7 * gN al i + mm) % 64) (rv_nat.2 (congrArg (Value.int .i64) (by omega)))) ?_
   rintro _ w13 ⟨rfl, hs, hx⟩
   refine ⟨trivial, ?_⟩
   replace hF := hF.st hs
   replace hT := hT.t hs; replace he := he.t hs; replace ha := ha.t hs; replace hb := hb.t hs; replace hy := hy.t hs
   refine Sch.nil ?_
   refine run_inBlock ?_
   refine run_pl [yy 0, yy 1] ?_
   refine yV (kq 68 (.binOp .add 3 (.tmp 53) (.const (.int .i64 1)) 3)) (fun _ => val_addi rfl rfl (by omega) (by omega)) ?_
   refine yM 53 68 ?_
   refine Sch.nil ?_
   refine kp (sub_cons 1 rfl rfl (sub_cons 6 rfl rfl (sub_cons 7 rfl rfl (sub_cons 8 rfl rfl (sub_cons 9 rfl rfl (sub_cons 10 rfl rfl (sub_cons 11 rfl rfl (sub_cons 12 rfl rfl (sub_cons 52 rfl rfl (sub_cons 53 rfl (eq_int (by simp)) (sub_nil _))))))))))) (next1 (i + 1, xl.set i ((7 * gN al i + mm) % 64), C1) _ ⟨(by first | omega | (simp only; omega)), (by simp only [List.length_set]; exact hxl), (chg_next (φ := fun x => (7 * x + mm) % 64) hxl hin hxv (by rw [hxi])), hF, hT, he, ha, hb, hx, hy⟩ (by first | omega | (simp only; omega)))
  ·
   have hin : i = n := by omega
   rw [hin] at hxv
   refine run_ex 0 ?_
   refine run_sq ?_
   refine run_sq ?_
   refine run_pl [yy 0, yy 1, yy 2] ?_
   refine yM 69 12 ?_
   refine yS (kq 70 (.call { callee := .builtin .len, args := #[(.tmp 69)], argTypes := #[22] })) rfl rfl (fun w' hS => hy.lenV rfl Try.underlying22 w' ) ?_
   refine yV (kq 71 (.move (.const (.int .i64 0)))) (fun _ => val_move rfl) ?_
   refine Sch.nil ?_
   refine run_bk 2 ?_
   
   refine run_lp (ι := Nat × (List Nat) × (Nat → Nat)) (I := fun x w => x.1 ≤ m ∧ x.2.1.length = m ∧ (∀ k, k < m → gN x.2.1 k = if k < x.1 then 63 - gN bl k else gN bl k) ∧ Lim w x.2.2 ∧ Stp [2, 3, 4, 5, 6, 7, 8, 9] w₀ (col1 C) w x.2.2 ∧ RV w (Mc x.2.2) el v_el ∧ RV w (Mc x.2.2) al va ∧ RV w (Mc x.2.2) bl vb ∧ OwnL w x.2.2 4 3 v48 xl ∧ OwnL w x.2.2 5 3 v50 x.2.1) (e := fun x => [(1, .int .u8 (mm : Int)), (6, .int .i64 n), (7, .int .i64 m), (8, va), (9, vb), (10, v_el), (11, v48), (12, v50), (70, .int .i64 m), (71, .int .i64 x.1)]) (m := fun x => m - x.1) (x₀ := (0, bl, C1)) (sr 1 (sr 6 (sr 7 (sr 8 (sr 9 (sr 10 (sr 11 (sr 12 (sub_cons 70 rfl (eq_int (by rw [hbll])) (sr 71 (sub_nil _))))))))))) ?_ ?_
   · exact ⟨Nat.zero_le _, hbll, (fun k hk => by rw [if_neg (by omega)]), hF, hT, he, ha, hb, hx, hy⟩
   intro ⟨j, yl, C2⟩ w14 hI next
   obtain ⟨hj, hyl, hyv, hF, hT, he, ha, hb, hx, hy⟩ := hI
   try simp only at hj hyl hyv hF hT he ha hb hx hy
   have next2 := next
   clear next
   show Run _ _ _ _ [(1, .int .u8 (mm : Int)), (6, .int .i64 n), (7, .int .i64 m), (8, va), (9, vb), (10, v_el), (11, v48), (12, v50), (70, .int .i64 m), (71, .int .i64 j)] _ _
   refine run_sq ?_
   refine run_pl [yy 0] ?_
   refine yV (kq 72 (.binOp .lss 3 (.tmp 71) (.tmp 70) 3)) (fun _ => val_lss rfl rfl) ?_
   refine Sch.nil ?_
   refine run_sq ?_
   refine run_i 72 rfl (fun h72 => ?_) (fun h72 => ?_)
   ·
    have hjm : j < m := by omega
    have hgy : gN yl j = yl[j]'(by omega) := getD_in _
    have hy3 := h3b j hjm
    have hyj := hyv j hjm
    rw [if_neg (Nat.lt_irrefl _)] at hyj
    refine run_sk ?_
    refine run_sq ?_
    refine run_bk 3 ?_
    refine run_sq ?_
    refine run_pl [yy 0, yy 1] ?_
    refine yM 73 71 ?_
    refine yA 14 73 ?_
    refine Sch.nil ?_
    refine run_pl [yy 0, yy 1, yy 2, yy 3, yy 4, nn 5, yy 6, yy 7, nn 8] ?_
    refine yM 74 12 ?_
    refine yM 75 14 ?_
    refine yM 76 12 ?_
    refine yM 77 14 ?_
    refine oI (e' := 3) (kq 78 (.indexAddr 22 (.tmp 76) (.tmp 77))) rfl rfl hy rfl (by kernel_rfl) rfl (by omega) (by omega) ?_
    intro g78 hg78
    try simp only [Int.toNat_natCast]
    refine oN (kq 79 (.load 3 (.tmp 78))) rfl rfl trivial hy hg78 (by omega) (by kernel_rfl) rfl rfl ?_
    intro v79 g79
    try simp only [Int.toNat_natCast] at g79
    first | (obtain rfl := rv_nat.1 g79) | (obtain rfl := rv_int.1 g79)
    rw [← hgy, hyj]
    refine yV (kq 80 (.binOp .sub 3 (.const (.int .i64 63)) (.tmp 79) 3)) (fun _ => val_subi rfl rfl (by omega) (by omega)) ?_
    refine oI (e' := 3) (kq 81 (.indexAddr 22 (.tmp 74) (.tmp 75))) rfl rfl hy rfl (by kernel_rfl) rfl (by omega) (by omega) ?_
    intro g81 hg81
    try simp only [Int.toNat_natCast]
    refine aN (k0 (.store 3 (.tmp 81) (.tmp 80))) rfl (a_storeO hy hg81 (by omega) rfl rfl (by kernel_rfl) (x0 := 63 - gN bl j) (rv_nat.2 (congrArg (Value.int .i64) (by omega)))) ?_
    rintro _ w15 ⟨rfl, hs, hy⟩
    refine ⟨trivial, ?_⟩
    replace hF := hF.st hs
    replace hT := hT.t hs; replace he := he.t hs; replace ha := ha.t hs; replace hb := hb.t hs; replace hx := hx.t hs
    refine Sch.nil ?_
    refine run_inBlock ?_
    refine run_pl [yy 0, yy 1] ?_
    refine yV (kq 82 (.binOp .add 3 (.tmp 71) (.const (.int .i64 1)) 3)) (fun _ => val_addi rfl rfl (by omega) (by omega)) ?_
    refine yM 71 82 ?_
    refine Sch.nil ?_
    refine kp (sub_cons 1 rfl rfl (sub_cons 6 rfl rfl (sub_cons 7 rfl rfl (sub_cons 8 rfl rfl (sub_cons 9 rfl rfl (sub_cons 10 rfl rfl (sub_cons 11 rfl rfl (sub_cons 12 rfl rfl (sub_cons 70 rfl rfl (sub_cons 71 rfl (eq_int (by simp)) (sub_nil _))))))))))) (next2 (j + 1, yl.set j (63 - gN bl j), C2) _ ⟨(by first | omega | (simp only; omega)), (by simp only [List.length_set]; exact hyl), (chg_next (φ := fun x => 63 - x) hyl hjm hyv (by rw [hyj])), hF, hT, he, ha, hb, hx, hy⟩ (by first | omega | (simp only; omega)))
   ·
    have hjm : j = m := by omega
    rw [hjm] at hyv
    have hxv2 : ∀ k, k < n → gN xl k = (7 * gN al k + mm) % 64 := fun k hk => by rw [hxv k hk, if_pos hk]
    have hyv2 : ∀ k, k < m → gN yl k = 63 - gN bl k := fun k hk => by rw [hyv k hk, if_pos hk]
    have hH2 : HH n m xl yl := hh_of hxl hyl (fun k hk => by rw [hxv2 k hk]; omega) (fun k hk => by rw [hyv2 k hk]; omega)
    obtain ⟨hq1, hq2⟩ := names_law (l := el) hH hH2 (fun i i' hi hi' => by rw [hxv2 i hi, hxv2 i' hi']; have := h3a i hi; have := h3a i' hi'; omega) (fun i i' hi hi' => by rw [hyv2 i hi, hyv2 i' hi']; have := h3b i hi; have := h3b i' hi'; omega)
    replace hF := hF.frz 4
    replace hT := hT.frz (n := 4) (fun b => Nat.lt_of_lt_of_le (col1_lt2 C b) (by decide))
    replace he := he.frz 4
    replace ha := ha.frz 4
    replace hb := hb.frz 4
    have hx_ := hx.frz (n := 4) (by decide) (by omega)
    have hy_ := hy.frz (n := 4) (by decide) (by omega)
    replace hx := hx_
    clear hx_
    replace hy := hy_
    clear hy_
    refine run_ex 2 ?_
    refine run_sq ?_
    refine run_pl [yy 0, yy 1, yy 2, yy 3, yy 4, nn 5, yy 6, yy 7, yy 8, yy 9, yy 10, yy 11, yy 12] ?_
    refine yM 84 6 ?_
    refine yM 85 7 ?_
    refine yM 86 8 ?_
    refine yM 87 9 ?_
    refine yM 88 10 ?_
    refine cS (kq 89 (.call { callee := .value (.func 14), args := #[(.tmp 84), (.tmp 85), (.tmp 86), (.tmp 87), (.tmp 88)], argTypes := #[3, 3, 22, 22, 29] })) rfl rfl (ent Try.call14 rfl) (hsolve_ok (n := n) (m := m) (al := al) (bl := bl) hF hEV hH ha hb he) ?_
    rintro vw16 w16 ⟨u1, rfl, hs, hc1⟩
    refine ⟨trivial, ?_⟩
    replace hF := hF.st hs
    replace hT := hT.t hs; replace he := he.t hs; replace ha := ha.t hs; replace hb := hb.t hs; replace hx := hx.t hs; replace hy := hy.t hs
    refine yM 83 89 ?_
    refine yV (kq 90 (.extract (.tmp 83) 0)) (fun _ => val_extract rfl rfl) ?_
    refine yV (kq 91 (.extract (.tmp 83) 1)) (fun _ => val_extract rfl rfl) ?_
    refine yV (kq 92 (.extract (.tmp 83) 2)) (fun _ => val_extract rfl rfl) ?_
    refine yA 15 90 ?_
    refine yA 16 91 ?_
    refine yA 17 92 ?_
    refine Sch.nil ?_
    refine run_sq ?_
    refine run_pl [yy 0, yy 1, yy 2, yy 3, yy 4, nn 5, yy 6, yy 7, yy 8, yy 9, yy 10, yy 11, yy 12] ?_
    refine yM 94 6 ?_
    refine yM 95 7 ?_
    refine yM 96 11 ?_
    refine yM 97 12 ?_
    refine yM 98 10 ?_
    refine cS (kq 99 (.call { callee := .value (.func 14), args := #[(.tmp 94), (.tmp 95), (.tmp 96), (.tmp 97), (.tmp 98)], argTypes := #[3, 3, 22, 22, 29] })) rfl rfl (ent Try.call14 rfl) (hsolve_ok (n := n) (m := m) (al := xl) (bl := yl) hF hEV hH2 hx hy he) ?_
    rintro vw17 w17 ⟨u2, rfl, hs, hc2⟩
    refine ⟨trivial, ?_⟩
    replace hF := hF.st hs
    replace hT := hT.t hs; replace he := he.t hs; replace ha := ha.t hs; replace hb := hb.t hs; replace hx := hx.t hs; replace hy := hy.t hs; replace hc1 := hc1.t hs
    refine yM 93 99 ?_
    refine yV (kq 100 (.extract (.tmp 93) 0)) (fun _ => val_extract rfl rfl) ?_
    refine yV (kq 101 (.extract (.tmp 93) 1)) (fun _ => val_extract rfl rfl) ?_
    refine yV (kq 102 (.extract (.tmp 93) 2)) (fun _ => val_extract rfl rfl) ?_
    refine yA 18 100 ?_
    refine yA 19 101 ?_
    refine yA 20 102 ?_
    refine Sch.nil ?_
    refine run_sq ?_
    refine run_pl [yy 0, yy 1, yy 2, yy 3, yy 4, yy 5, yy 6, yy 7, yy 8, yy 9, yy 10, yy 11, yy 12, yy 13, nn 14, yy 15, yy 16] ?_
    refine yM 103 17 ?_
    refine yV (kq 104 (.binOp .eql 35 (.tmp 103) (.const (.int .i64 0)) 35)) (fun _ => val_is (val_eql rfl rfl) (show _ = Value.bool true from congrArg Value.bool (decide_eq_true (rfl)))) ?_
    refine yM 105 104 ?_
    refine yMg 106 20 2 true ?_
    refine yV (kg 107 (.binOp .eql 35 (.tmp 106) (.const (.int .i64 0)) 35) 2 true) (fun _ => val_is (val_eql rfl rfl) (show _ = Value.bool true from congrArg Value.bool (decide_eq_true (rfl)))) ?_
    refine yAt 108 105 107 ?_
    refine yM 109 108 ?_
    refine yMg 110 16 6 true ?_
    refine yMg 111 19 6 true ?_
    refine yV (kg 112 (.binOp .eql 3 (.tmp 110) (.tmp 111) 3) 6 true) (fun _ => val_is (val_eql rfl rfl) (show _ = Value.bool true from congrArg Value.bool (decide_eq_true (hq2)))) ?_
    refine yAt 113 109 112 ?_
    refine yM 114 113 ?_
    refine yMg 115 15 11 true ?_
    refine yMg 116 18 11 true ?_
    refine cS (kg 117 (.call { callee := .value (.func 15), args := #[(.tmp 115), (.tmp 116)], argTypes := #[31, 31] }) 11 true) rfl rfl (ent Try.call15 rfl) (same_ok hF hc1 hc2) ?_
    rintro vw18 w18 ⟨rfl, hs⟩
    rw [decide_eq_true hq1]
    refine ⟨trivial, ?_⟩
    replace hF := hF.st hs
    replace hT := hT.t hs; replace he := he.t hs; replace ha := ha.t hs; replace hb := hb.t hs; replace hx := hx.t hs; replace hy := hy.t hs; replace hc1 := hc1.t hs; replace hc2 := hc2.t hs
    refine yAt 118 114 117 ?_
    refine yA 4 118 ?_
    refine Sch.nil ?_
    refine run_ret1 (by kernel_rfl) Try.func4 Try.results4 rfl ?_
    exact ⟨rfl, hT.out1 (by decide)⟩
end Go.Proofs.Ytognfmeffnjijaa
