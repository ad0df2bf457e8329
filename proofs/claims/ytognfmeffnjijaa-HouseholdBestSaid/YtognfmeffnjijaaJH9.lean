/- Steps through functions of the program. -/
import Derived.Test.YtognfmeffnjijaaJH8
import Derived.Test.YtognfmeffnjijaaL2
import Derived.Test.YtognfmeffnjijaaJV1
set_option linter.unusedVariables false
set_option linter.unusedSimpArgs false
set_option maxRecDepth 100000
set_option maxHeartbeats 4000000
namespace Go.Proofs.Ytognfmeffnjijaa
open Go.K Go.K.Rep

namespace F18
noncomputable def c0 := bodyOf Try.f18
noncomputable def c8 := (cl (cr (cr (cl (cr c0)))))
noncomputable def c17 := (cl (cr (cr (cr (cr c0)))))
noncomputable def c24 := (cl (cr (cl (cl (cr c17)))))
noncomputable def c27 := (cr (cr (cl (cl (cr c17)))))
noncomputable def c34 := (cl (cr (cr (cl (cl c27)))))
noncomputable def c43 := (cl (cl (cr (cr (cl c34)))))
noncomputable def c54 := (cr (cr (cr (cr (cr c0)))))
end F18
/-- 'Gains'. -/
theorem hgains_ok {w₀ : World} {C : Nat → Nat} {n m : Nat} {l : List K.Edge} {al bl : List Nat} {va vb vl : Value} (hF : Lim w₀ C) (hV : VE n m l) (hH : HH n m al bl) (ha : RV w₀ (Mc C) al va) (hb : RV w₀ (Mc C) bl vb) (hl : RV w₀ (Mc C) l vl) :
    Calls Try.prog 18 #[.int .i64 n, .int .i64 m, va, vb, vl] w₀ (Ret fun v w' => ∃ u, v = .tuple #[u, .int .i64 0] ∧ Stp [] w₀ C w' C ∧ RV w' (Mc C) (gnL (Tb n m (pos (edW l)) (gN al) (gN bl)) 64) u) := by
 have hF0 := hF
 have hT := Stp.refl [2, 3, 4, 5, 6, 7, 8, 9] w₀ (col1 C)
 replace hF := hF.col1
 have hn1 := hV.n1
 have hm1 := hV.m1
 have hla := hH.la
 have hlb := hH.lb
 replace ha : RV w₀ (Mc (col1 C)) al va := by rw [Mc_col1]; exact ha
 replace hb : RV w₀ (Mc (col1 C)) bl vb := by rw [Mc_col1]; exact hb
 replace hl : RV w₀ (Mc (col1 C)) l vl := by rw [Mc_col1]; exact hl
 refine calls_start (c := F18.c0) (N := 63) [.int .i64 n, .int .i64 m, va, vb, vl] Try.func18 (by kernel_rfl) (by kernel_rfl) (by kernel_rfl) ?_
 show Run _ _ _ _ [(0, .int .i64 n), (1, .int .i64 m), (2, va), (3, vb), (4, vl)] _ _
 refine run_sq ?_
 refine run_pl [yy 0, yy 1] ?_
 refine yV (kq 10 (.assign (.const (.slice none 0 0)))) (fun _ => val_assign rfl) ?_
 refine yAc 11 (.int .i64 0) ?_
 refine Sch.nil ?_
 refine run_sq ?_
 refine run_sq ?_
 refine run_pl [yy 0, yy 1, yy 2, yy 3, yy 4, nn 5, yy 6] ?_
 refine yM 19 0 ?_
 refine yM 20 1 ?_
 refine yM 21 2 ?_
 refine yM 22 3 ?_
 refine yM 23 4 ?_
 refine cS (kq 24 (.call { callee := .value (.func 22), args := #[(.tmp 19), (.tmp 20), (.tmp 21), (.tmp 22), (.tmp 23)], argTypes := #[3, 3, 22, 22, 29] })) rfl rfl (ent Try.call22 rfl) (hcheck_ok (n := n) (m := m) hF hV hH ha hb hl) ?_
 rintro vw1 w1 ⟨rfl, hs⟩
 refine ⟨trivial, ?_⟩
 replace hF := hF.st hs
 replace hT := hT.t hs; replace ha := ha.t hs; replace hb := hb.t hs; replace hl := hl.t hs
 refine yA 12 24 ?_
 refine Sch.nil ?_
 refine run_sq ?_
 refine run_pl [yy 0, yy 1] ?_
 refine yM 25 12 ?_
 refine yV (kq 26 (.binOp .neq 35 (.tmp 25) (.const (.int .i64 0)) 35)) (fun _ => val_is (val_neq rfl rfl) (show _ = Value.bool false from congrArg Value.bool (decide_eq_false (by decide)))) ?_
 refine Sch.nil ?_
 refine run_cF 26 ?_
 refine run_sk ?_
 refine run_sq ?_
 refine run_pl [yy 0] ?_
 refine yV (kq 13 (.assign (.const (.slice none 0 0)))) (fun _ => val_assign rfl) ?_
 refine Sch.nil ?_
 refine run_sq ?_
 refine run_pl [yy 0, yy 1, yy 2, nn 3, yy 4] ?_
 refine yM 28 2 ?_
 refine yM 29 3 ?_
 refine yM 30 4 ?_
 refine cS (kq 31 (.call { callee := .value (.func 23), args := #[(.tmp 28), (.tmp 29), (.tmp 30)], argTypes := #[22, 22, 29] })) rfl rfl (ent Try.call23 rfl) (blocks_ok hF hV hH ha hb hl) ?_
 rintro vw2 w2 ⟨bm, mm, rfl, hs, hbm, hB⟩
 refine ⟨trivial, ?_⟩
 replace hF := hF.st hs
 replace hT := hT.t hs; replace ha := ha.t hs; replace hb := hb.t hs; replace hl := hl.t hs
 refine yA 14 31 ?_
 refine Sch.nil ?_
 refine run_sq ?_
 refine run_sq ?_
 refine run_pl [yy 0] ?_
 refine yV (kq 32 (.move (.const (.int .i64 0)))) (fun _ => val_move rfl) ?_
 refine Sch.nil ?_
 refine run_bk 0 ?_
 
 refine run_lp (ι := Nat × Value × (Nat → Nat)) (I := fun x w => x.1 ≤ 64 ∧ Lim w x.2.2 ∧ Stp [2, 3, 4, 5, 6, 7, 8, 9] w₀ (col1 C) w x.2.2 ∧ RM w (Mc x.2.2) kvC vvP mm (.map (some bm)) ∧ BlkM w x.2.2 n m (pos (edW l)) (gN al) (gN bl) mm ∧ OwnL w x.2.2 3 45 x.2.1 (gnL (Tb n m (pos (edW l)) (gN al) (gN bl)) x.1)) (e := fun x => [(13, x.2.1), (14, .map (some bm)), (32, .int .i64 x.1)]) (m := fun x => 64 - x.1) (x₀ := (0, .slice none 0 0, col1 C)) (sr 13 (sr 14 (sr 32 (sub_nil _)))) ?_ ?_
 · exact ⟨Nat.zero_le _, hF, hT, hbm, hB, OwnL.nil⟩
 intro ⟨p, vo, C1⟩ w3 hI next
 obtain ⟨hp, hF, hT, hbm, hB, ho⟩ := hI
 try simp only at hp hF hT hbm hB ho
 have next1 := next
 clear next
 show Run _ _ _ _ [(13, vo), (14, .map (some bm)), (32, .int .i64 p)] _ _
 have hgl := gnL_len (T := (Tb n m (pos (edW l)) (gN al) (gN bl))) p
 refine run_sq ?_
 refine run_pl [yy 0] ?_
 refine yV (kq 33 (.binOp .lss 3 (.tmp 32) (.const (.int .i64 64)) 3)) (fun _ => val_lss rfl rfl) ?_
 refine Sch.nil ?_
 refine run_sq ?_
 refine run_i 33 rfl (fun h33 => ?_) (fun h33 => ?_)
 ·
  have hp64 : p < 64 := by omega
  refine run_sk ?_
  refine run_sq ?_
  refine run_bk 1 ?_
  refine run_sq ?_
  refine run_pl [yy 0, yy 1] ?_
  refine yM 34 32 ?_
  refine yA 15 34 ?_
  refine Sch.nil ?_
  refine run_sq ?_
  refine run_pl [yy 0] ?_
  refine yV (kq 35 (.move (.const (.int .i64 0)))) (fun _ => val_move rfl) ?_
  refine Sch.nil ?_
  refine run_bk 2 ?_
  
  refine run_lp (ι := Nat × Value × (Nat → Nat)) (I := fun x w => x.1 ≤ 64 ∧ Lim w x.2.2 ∧ Stp [2, 3, 4, 5, 6, 7, 8, 9] w₀ (col1 C) w x.2.2 ∧ RM w (Mc x.2.2) kvC vvP mm (.map (some bm)) ∧ BlkM w x.2.2 n m (pos (edW l)) (gN al) (gN bl) mm ∧ OwnL w x.2.2 3 45 x.2.1 (gnL (Tb n m (pos (edW l)) (gN al) (gN bl)) p ++ gnR (Tb n m (pos (edW l)) (gN al) (gN bl)) p x.1)) (e := fun x => [(13, x.2.1), (14, .map (some bm)), (15, .int .i64 p), (32, .int .i64 p), (35, .int .i64 x.1)]) (m := fun x => 64 - x.1) (x₀ := (0, vo, C1)) (sr 13 (sr 14 (sr 15 (sr 32 (sr 35 (sub_nil _)))))) ?_ ?_
  · exact ⟨Nat.zero_le _, hF, hT, hbm, hB, by simp only; rw [show gnR (Tb n m (pos (edW l)) (gN al) (gN bl)) p 0 = [] from rfl, List.append_nil]; exact ho⟩
  intro ⟨q, vo, C2⟩ w4 hI next
  obtain ⟨hq, hF, hT, hbm, hB, ho⟩ := hI
  try simp only at hq hF hT hbm hB ho
  have next2 := next
  clear next
  show Run _ _ _ _ [(13, vo), (14, .map (some bm)), (15, .int .i64 p), (32, .int .i64 p), (35, .int .i64 q)] _ _
  have hgr := gnR_len (T := (Tb n m (pos (edW l)) (gN al) (gN bl))) (p := p) (k := q)
  have hgll : (gnL (Tb n m (pos (edW l)) (gN al) (gN bl)) p ++ gnR (Tb n m (pos (edW l)) (gN al) (gN bl)) p q).length ≤ 64 * 64 := by rw [List.length_append]; omega
  refine run_sq ?_
  refine run_pl [yy 0] ?_
  refine yV (kq 36 (.binOp .lss 3 (.tmp 35) (.const (.int .i64 64)) 3)) (fun _ => val_lss rfl rfl) ?_
  refine Sch.nil ?_
  refine run_sq ?_
  refine run_i 36 rfl (fun h36 => ?_) (fun h36 => ?_)
  ·
   have hq64 : q < 64 := by omega
   have hsu := gnR_succ (T := (Tb n m (pos (edW l)) (gN al) (gN bl))) (p := p) (k := q)
   refine run_sk ?_
   refine run_sq ?_
   refine run_bk 3 ?_
   refine run_sq ?_
   refine run_pl [yy 0, yy 1] ?_
   refine yM 37 35 ?_
   refine yA 16 37 ?_
   refine Sch.nil ?_
   refine run_sq ?_
   by_cases hA : 0 < Tb n m (pos (edW l)) (gN al) (gN bl) p q
   ·
    refine run_pl [yy 0, yy 1, yy 2, yy 3, nn 4, yy 5, yy 6, yy 7, yy 8, yy 9] ?_
    obtain ⟨o0, ho0⟩ := Option.isSome_iff_exists.1 ((hB.key p q).2 hA)
    obtain ⟨bx, rfl⟩ := Option.isSome_iff_exists.1 (hB.some_ p q o0 ho0)
    have hBx : mget mm (⟨p, q⟩ : Couple) = some (some bx) := ho0
    obtain ⟨gr, Ub, Vb, hx, hGb⟩ := hB.blk p q bx ho0
    refine yM 39 14 ?_
    refine yM 40 15 ?_
    refine yM 41 16 ?_
    refine yV (kq 42 (.build 67 #[(0, (.tmp 40)), (1, (.tmp 41))])) (fun _ => val_build (zs := [.int .i64 0, .int .i64 0]) (ps := [(0, 1), (1, 1)]) (qs := [(0, [.int .i64 p]), (1, [.int .i64 q])]) (cs := [.int .i64 p, .int .i64 q]) (by kernel_rfl) (by kernel_rfl) (by exact ⟨rfl, ⟨_, rfl, rfl⟩, rfl, ⟨_, rfl, rfl⟩, trivial⟩) rfl) ?_
    refine nS (kq 43 (.lookup 57 (.tmp 39) (.tmp 42) true)) rfl rfl trivial (val_is (hbm.lookupOk (z0 := (none : Option Nat)) (k := (⟨p, q⟩ : Couple)) Try.underlying57 (keyOK_couple Try.underlying67 (by decide) (by decide) (by kernel_rfl) Try.underlying3) Try.zeroValue65 rfl rfl) (show _ = Value.tuple #[Value.pointer (some ⟨bx, 0, none⟩), .bool true] from by rw [hBx]; rfl)) ?_
    refine yM 38 43 ?_
    refine yV (kq 44 (.extract (.tmp 38) 0)) (fun _ => val_extract rfl rfl) ?_
    refine yV (kq 45 (.extract (.tmp 38) 1)) (fun _ => val_extract rfl rfl) ?_
    refine yA 17 44 ?_
    refine yA 18 45 ?_
    refine Sch.nil ?_
    refine run_sq ?_
    refine run_pl [yy 0] ?_
    refine yM 46 18 ?_
    refine Sch.nil ?_
    refine run_cT 46 ?_
    refine run_pl [yy 0, yy 1, yy 2, yy 3, yy 4, yy 5, nn 6, yy 7, yy 8, nn 9, yy 10, nn 11, nn 12, yy 13] ?_
    refine yM 47 13 ?_
    refine yM 48 15 ?_
    refine yM 49 16 ?_
    refine yM 50 17 ?_
    refine yN 51 50 ?_
    have h52 := RA.bg hx
    refine yF 52 72 51 2 2 ?_
    refine lN (kq 53 (.load 59 (.tmp 52))) rfl rfl trivial h52 (by kernel_rfl) rfl rfl ?_
    intro v53 g53
    obtain ⟨bhgb, rfl, hgb⟩ := rv_ptr.1 g53
    refine yN 54 53 ?_
    have h55 := RA.gT hgb
    refine yF 55 70 54 4 4 ?_
    refine lN (kq 56 (.load 3 (.tmp 55))) rfl rfl trivial h55 (by kernel_rfl) rfl rfl ?_
    intro v56 g56
    first | (obtain rfl := rv_nat.1 g56) | (obtain rfl := rv_int.1 g56)
    have hgt := hGb.top
    rw [pos_bw] at hgt
    rw [show gr.tot = (Tb n m (pos (edW l)) (gN al) (gN bl)) p q from hgt]
    refine yV (kq 57 (.build 45 #[(0, (.tmp 48)), (1, (.tmp 49)), (2, (.tmp 56))])) (fun _ => val_build (zs := [.int .i64 0, .int .i64 0, .int .i64 0]) (ps := [(0, 1), (1, 1), (2, 1)]) (qs := [(0, [.int .i64 (p : Int)]), (1, [.int .i64 (q : Int)]), (2, [.int .i64 ((Tb n m (pos (edW l)) (gN al) (gN bl)) p q)])]) (cs := [.int .i64 (p : Int), .int .i64 (q : Int), .int .i64 ((Tb n m (pos (edW l)) (gN al) (gN bl)) p q)]) (by kernel_rfl) (by kernel_rfl) (by exact ⟨rfl, ⟨_, rfl, rfl⟩, rfl, ⟨_, rfl, rfl⟩, rfl, ⟨_, rfl, rfl⟩, trivial⟩) rfl) ?_
    refine aS (kq 58 (.buildSlice 29 1 #[(0, (.tmp 57))])) rfl rfl (a_buildSlice (ys := ([⟨(p : Int), (q : Int), (Tb n m (pos (edW l)) (gN al) (gN bl)) p q⟩] : List K.Edge)) (e := 45) (bytes := 24) hF (by kernel_rfl) rfl (by decide) (by decide) ⟨rfl, ⟨_, rfl, rv_edge.2 rfl⟩, trivial⟩) ?_
    rintro v58 w5 ⟨hs, g58, hF⟩
    refine ⟨trivial, ?_⟩
    replace hT := hT.t hs; replace hbm := hbm.t hs; replace hB := hB.t hs; replace ho := ho.t hs; replace hx := hx.t hs; replace h52 := h52.t hs; replace hgb := hgb.t hs; replace h55 := h55.t hs
    refine aS (kq 59 (.call { callee := .builtin .append, args := #[(.tmp 47), (.tmp 58)], argTypes := #[29, 29] })) rfl rfl (a_append (e := 45) (bytes := 24) hF (by decide) rfl rfl (by kernel_rfl) (by decide) ho g58 (by simp only [List.length_cons, List.length_nil]; omega) (by simp only [List.length_cons, List.length_nil]; omega)) ?_
    rintro v59 w6 ⟨Cw6, hs, ho, hF⟩
    refine ⟨trivial, ?_⟩
    replace hT := hT.t hs; replace hbm := hbm.t hs; replace hB := hB.t hs; replace hx := hx.t hs; replace h52 := h52.t hs; replace hgb := hgb.t hs; replace h55 := h55.t hs; replace g58 := g58.t hs
    refine yA 13 59 ?_
    refine Sch.nil ?_
    refine run_inBlock ?_
    refine run_pl [yy 0, yy 1] ?_
    refine yV (kq 60 (.binOp .add 3 (.tmp 35) (.const (.int .i64 1)) 3)) (fun _ => val_addi rfl rfl (by omega) (by omega)) ?_
    refine yM 35 60 ?_
    refine Sch.nil ?_
    refine kp (sub_cons 13 rfl rfl (sub_cons 14 rfl rfl (sub_cons 15 rfl rfl (sub_cons 32 rfl rfl (sub_cons 35 rfl (eq_int (by simp)) (sub_nil _)))))) (next2 (q + 1, v59, Cw6) _ ⟨(by first | omega | (simp only; omega)), hF, hT, hbm, hB, (by simp only; rw [hsu, if_pos hA, ← List.append_assoc]; exact ho)⟩ (by first | omega | (simp only; omega)))
   ·
    refine run_pl [yy 0, yy 1, yy 2, yy 3, nn 4, yy 5, yy 6, yy 7, yy 8, yy 9] ?_
    have hBn : mget mm (⟨p, q⟩ : Couple) = none := by
      cases e : mget mm (⟨p, q⟩ : Couple) with
      | none => rfl
      | some o0 => exact absurd ((hB.key p q).1 (by rw [e]; rfl)) hA
    refine yM 39 14 ?_
    refine yM 40 15 ?_
    refine yM 41 16 ?_
    refine yV (kq 42 (.build 67 #[(0, (.tmp 40)), (1, (.tmp 41))])) (fun _ => val_build (zs := [.int .i64 0, .int .i64 0]) (ps := [(0, 1), (1, 1)]) (qs := [(0, [.int .i64 p]), (1, [.int .i64 q])]) (cs := [.int .i64 p, .int .i64 q]) (by kernel_rfl) (by kernel_rfl) (by exact ⟨rfl, ⟨_, rfl, rfl⟩, rfl, ⟨_, rfl, rfl⟩, trivial⟩) rfl) ?_
    refine nS (kq 43 (.lookup 57 (.tmp 39) (.tmp 42) true)) rfl rfl trivial (val_is (hbm.lookupOk (z0 := (none : Option Nat)) (k := (⟨p, q⟩ : Couple)) Try.underlying57 (keyOK_couple Try.underlying67 (by decide) (by decide) (by kernel_rfl) Try.underlying3) Try.zeroValue65 rfl rfl) (show _ = Value.tuple #[Value.pointer none, .bool false] from by rw [hBn]; rfl)) ?_
    refine yM 38 43 ?_
    refine yV (kq 44 (.extract (.tmp 38) 0)) (fun _ => val_extract rfl rfl) ?_
    refine yV (kq 45 (.extract (.tmp 38) 1)) (fun _ => val_extract rfl rfl) ?_
    refine yA 17 44 ?_
    refine yA 18 45 ?_
    refine Sch.nil ?_
    refine run_sq ?_
    refine run_pl [yy 0] ?_
    refine yM 46 18 ?_
    refine Sch.nil ?_
    refine run_cF 46 ?_
    refine run_sk ?_
    refine run_inBlock ?_
    refine run_pl [yy 0, yy 1] ?_
    refine yV (kq 60 (.binOp .add 3 (.tmp 35) (.const (.int .i64 1)) 3)) (fun _ => val_addi rfl rfl (by omega) (by omega)) ?_
    refine yM 35 60 ?_
    refine Sch.nil ?_
    refine kp (sub_cons 13 rfl rfl (sub_cons 14 rfl rfl (sub_cons 15 rfl rfl (sub_cons 32 rfl rfl (sub_cons 35 rfl (eq_int (by simp)) (sub_nil _)))))) (next2 (q + 1, vo, C2) _ ⟨(by first | omega | (simp only; omega)), hF, hT, hbm, hB, (by simp only; rw [hsu, if_neg hA, List.append_nil]; exact ho)⟩ (by first | omega | (simp only; omega)))
  ·
   have hq64 : q = 64 := by omega
   subst hq64
   refine run_ex 2 ?_
   refine run_inBlock ?_
   refine run_pl [yy 0, yy 1] ?_
   refine yV (kq 61 (.binOp .add 3 (.tmp 32) (.const (.int .i64 1)) 3)) (fun _ => val_addi rfl rfl (by omega) (by omega)) ?_
   refine yM 32 61 ?_
   refine Sch.nil ?_
   refine kp (sub_cons 13 rfl rfl (sub_cons 14 rfl rfl (sub_cons 32 rfl (eq_int (by simp)) (sub_nil _)))) (next1 (p + 1, vo, C2) _ ⟨(by first | omega | (simp only; omega)), hF, hT, hbm, hB, (by simp only; rw [gnL_succ]; exact ho)⟩ (by first | omega | (simp only; omega)))
 ·
  have hp64 : p = 64 := by omega
  subst hp64
  refine run_ex 0 ?_
  refine run_sq ?_
  refine run_pl [yy 0, yy 1, yy 2] ?_
  refine yM 62 13 ?_
  refine yA 10 62 ?_
  refine yAc 11 (.int .i64 0) ?_
  refine Sch.nil ?_
  refine run_ret2 (by kernel_rfl) Try.func18 Try.results18 rfl rfl ?_
  exact ⟨vo, rfl, hT.out1 (by decide), ho.out hT hF0 (Mc_col1 C) (fun b _ => col1_lt C (by decide) b) (by omega)⟩
namespace F11
noncomputable def c0 := bodyOf Try.f11
noncomputable def c8 := (cl (cr (cl (cr (cr c0)))))
end F11
/-- 'houses'. -/
theorem houses_any {w₀ : World} {C : Nat → Nat} {i0 b n : Nat} (hF : Lim w₀ C) (hi0 : i0 ≠ 0) (hd : DeckIs w₀ C i0 b) (hn : n ≤ 8) :
    Calls Try.prog 11 #[.pointer (some ⟨b, 0, none⟩), .int .i64 n] w₀ (Ret fun v w' => ∃ hl : List Nat, hl.length = n ∧ (∀ x ∈ hl, x < 3) ∧ Stp [i0] w₀ C w' C ∧ RV w' (Mc C) hl v ∧ DeckIs w' C i0 b) := by
 have hF0 := hF
 have hbc := hd.colour
 replace hd := hd.col2 hi0
 have hT := Stp.refl [2, 3, 4, 5, 6, 7, 8, 9] w₀ (col2 C i0)
 replace hF := hF.col2 i0
 refine calls_start (c := F11.c0) (N := 18) [.pointer (some ⟨b, 0, none⟩), .int .i64 n] Try.func11 (by kernel_rfl) (by kernel_rfl) (by kernel_rfl) ?_
 show Run _ _ _ _ [(0, .pointer (some ⟨b, 0, none⟩)), (1, .int .i64 n)] _ _
 refine run_sq ?_
 refine run_pl [yy 0] ?_
 refine yV (kq 4 (.assign (.const (.slice none 0 0)))) (fun _ => val_assign rfl) ?_
 refine Sch.nil ?_
 refine run_sq ?_
 refine run_pl [yy 0] ?_
 refine yV (kq 5 (.assign (.const (.slice none 0 0)))) (fun _ => val_assign rfl) ?_
 refine Sch.nil ?_
 refine run_sq ?_
 refine run_sq ?_
 refine run_pl [yy 0] ?_
 refine yAc 6 (.int .i64 0) ?_
 refine Sch.nil ?_
 refine run_bk 0 ?_
 
 refine run_lp (ι := Nat × (List Nat) × Value × (Nat → Nat)) (I := fun x w => x.1 ≤ n ∧ x.2.1.length = x.1 ∧ (∀ y ∈ x.2.1, y < 3) ∧ Lim w x.2.2.2 ∧ Stp [2, 3, 4, 5, 6, 7, 8, 9] w₀ (col2 C i0) w x.2.2.2 ∧ DeckIs w x.2.2.2 2 b ∧ OwnL w x.2.2.2 3 3 x.2.2.1 x.2.1) (e := fun x => [(0, .pointer (some ⟨b, 0, none⟩)), (1, .int .i64 n), (5, x.2.2.1), (6, .int .i64 x.1)]) (m := fun x => n - x.1) (x₀ := (0, [], .slice none 0 0, col2 C i0)) (sr 0 (sr 1 (sr 5 (sr 6 (sub_nil _))))) ?_ ?_
 · exact ⟨Nat.zero_le _, rfl, (fun x hx => by cases hx), hF, hT, hd, OwnL.nil⟩
 intro ⟨i, hl, vo, C1⟩ w1 hI next
 obtain ⟨hi, hll, hl3, hF, hT, hd, ho⟩ := hI
 try simp only at hi hll hl3 hF hT hd ho
 have next1 := next
 clear next
 show Run _ _ _ _ [(0, .pointer (some ⟨b, 0, none⟩)), (1, .int .i64 n), (5, vo), (6, .int .i64 i)] _ _
 refine run_sq ?_
 refine run_sq ?_
 refine run_pl [yy 0, yy 1, yy 2] ?_
 refine yM 7 6 ?_
 refine yM 8 1 ?_
 refine yV (kq 9 (.binOp .lss 3 (.tmp 7) (.tmp 8) 3)) (fun _ => val_lss rfl rfl) ?_
 refine Sch.nil ?_
 refine run_i 9 rfl (fun h9 => ?_) (fun h9 => ?_)
 ·
  have hin : i < n := by omega
  refine run_sk ?_
  refine run_sq ?_
  refine run_bk 1 ?_
  refine run_pl [yy 0, yy 1, nn 2, nn 3, nn 4, yy 5] ?_
  refine yM 12 5 ?_
  refine yM 13 0 ?_
  refine cS (kq 14 (.call { callee := .value (.func 10), args := #[(.tmp 13), (.const (.int .i64 3))], argTypes := #[25, 3] })) rfl rfl (ent Try.call10 rfl) (next_any (n := 3) hF (by decide) hd (by decide) (by decide)) ?_
  rintro vw2 w2 ⟨k, rfl, hk, hs, hd⟩
  refine ⟨trivial, ?_⟩
  replace hF := hF.st hs
  replace hT := hT.t hs; replace ho := ho.t hs
  refine aS (kq 15 (.buildSlice 22 1 #[(0, (.tmp 14))])) rfl rfl (a_buildSlice (ys := ([k] : List Nat)) (e := 3) (bytes := 8) hF (by kernel_rfl) rfl (by decide) (by decide) ⟨rfl, ⟨_, rfl, rv_nat.2 rfl⟩, trivial⟩) ?_
  rintro v15 w3 ⟨hs, g15, hF⟩
  refine ⟨trivial, ?_⟩
  replace hT := hT.t hs
  replace hd := hd.st hs (by first | decide | (simp <;> omega)) (by first | decide | (simp <;> omega))
  replace ho := ho.t hs
  refine aS (kq 16 (.call { callee := .builtin .append, args := #[(.tmp 12), (.tmp 15)], argTypes := #[22, 22] })) rfl rfl (a_append (e := 3) (bytes := 8) hF (by decide) rfl rfl (by kernel_rfl) (by decide) ho g15 (by simp only [List.length_cons, List.length_nil]; omega) (by simp only [List.length_cons, List.length_nil]; omega)) ?_
  rintro v16 w4 ⟨Cw4, hs, ho, hF⟩
  refine ⟨trivial, ?_⟩
  replace hT := hT.t hs
  replace hd := hd.st hs (by first | decide | (simp <;> omega)) (by first | decide | (simp <;> omega))
  replace g15 := g15.t hs
  refine yA 5 16 ?_
  refine Sch.nil ?_
  refine run_inBlock ?_
  refine run_pl [yy 0, yy 1, yy 2] ?_
  refine yM 10 6 ?_
  refine yV (kq 11 (.binOp .add 3 (.tmp 10) (.const (.int .i64 1)) 3)) (fun _ => val_addi rfl rfl (by omega) (by omega)) ?_
  refine yA 6 11 ?_
  refine Sch.nil ?_
  refine kp (sub_cons 0 rfl rfl (sub_cons 1 rfl rfl (sub_cons 5 rfl rfl (sub_cons 6 rfl (eq_int (by simp)) (sub_nil _))))) (next1 (i + 1, hl ++ [k], v16, Cw4) _ ⟨(by first | omega | (simp only; omega)), (by simp only [List.length_append, List.length_cons, List.length_nil]; omega), (fun x hx => by
      rcases List.mem_append.1 hx with hx | hx
      · exact hl3 x hx
      · rw [List.mem_singleton] at hx; subst hx; omega), hF, hT, hd, ho⟩ (by first | omega | (simp only; omega)))
 ·
  have hin : i = n := by omega
  refine run_ex 0 ?_
  refine run_sq ?_
  refine run_pl [yy 0, yy 1] ?_
  refine yM 17 5 ?_
  refine yA 4 17 ?_
  refine Sch.nil ?_
  refine run_ret1 (by kernel_rfl) Try.func11 Try.results11 rfl ?_
  exact ⟨hl, by omega, hl3, hT.out2 (by decide), ho.out hT hF0 (Mc_col2 C i0) (fun b _ => col2_lt C i0 (by decide) b) (by omega), hd.out hT hF0 hbc⟩
namespace F15
noncomputable def c0 := bodyOf Try.f15
noncomputable def c7 := (cl (cl (cr (cl (cr c0)))))
noncomputable def c14 := (cl (cr (cl (cr (cr c0)))))
noncomputable def c23 := (cl (cl (cr (cr (cl c14)))))
noncomputable def o6 := rops (cl (cr c23))
end F15
/-- 'same'. -/
theorem same_ok {w₀ : World} {C : Nat → Nat} {xs ys : List Couple} {px py : Value} (hF : Lim w₀ C) (hx : RV w₀ (Mc C) xs px) (hy : RV w₀ (Mc C) ys py) : Calls Try.prog 15 #[px, py] w₀ (Ret fun v w' => v = .bool (decide (xs = ys)) ∧ Stp [] w₀ C w' C) := by
 have hF0 := hF
 have hT := Stp.refl [2, 3, 4, 5, 6, 7, 8, 9] w₀ (col1 C)
 replace hF := hF.col1
 replace hx : RV w₀ (Mc (col1 C)) xs px := by rw [Mc_col1]; exact hx
 replace hy : RV w₀ (Mc (col1 C)) ys py := by rw [Mc_col1]; exact hy
 refine calls_start (c := F15.c0) (N := 26) [px, py] Try.func15 (by kernel_rfl) (by kernel_rfl) (by kernel_rfl) ?_
 show Run _ _ _ _ [(0, px), (1, py)] _ _
 refine run_sq ?_
 refine run_pl [yy 0] ?_
 refine yAc 4 (.bool false) ?_
 refine Sch.nil ?_
 refine run_sq ?_
 refine run_sq ?_
 refine run_pl [yy 0, yy 1, yy 2, yy 3, yy 4] ?_
 refine yM 6 0 ?_
 refine yS (kq 7 (.call { callee := .builtin .len, args := #[(.tmp 6)], argTypes := #[31] })) rfl rfl (fun w' hS => hx.lenV rfl Try.underlying31 w' ) ?_
 refine yM 8 1 ?_
 refine yS (kq 9 (.call { callee := .builtin .len, args := #[(.tmp 8)], argTypes := #[31] })) rfl rfl (fun w' hS => hy.lenV rfl Try.underlying31 w' ) ?_
 refine yV (kq 10 (.binOp .neq 3 (.tmp 7) (.tmp 9) 3)) (fun _ => val_neq rfl rfl) ?_
 refine Sch.nil ?_
 refine run_i 10 rfl (fun h10 => ?_) (fun h10 => ?_)
 ·
  refine run_sq ?_
  refine run_pl [yy 0] ?_
  refine yAc 4 (.bool false) ?_
  refine Sch.nil ?_
  refine run_ret1 (by kernel_rfl) Try.func15 Try.results15 rfl ?_
  exact ⟨by rw [decide_eq_false (fun e => h10 (by rw [e]))], hT.out1 (by decide)⟩
 ·
  have hlen : xs.length = ys.length := by omega
  refine run_sk ?_
  refine run_sq ?_
  refine run_sq ?_
  refine run_pl [yy 0, yy 1, yy 2] ?_
  refine yM 11 0 ?_
  refine yS (kq 12 (.call { callee := .builtin .len, args := #[(.tmp 11)], argTypes := #[31] })) rfl rfl (fun w' hS => hx.lenV rfl Try.underlying31 w' ) ?_
  refine yV (kq 13 (.move (.const (.int .i64 0)))) (fun _ => val_move rfl) ?_
  refine Sch.nil ?_
  refine run_bk 0 ?_
  
  refine run_lp (ι := Nat × (Nat → Nat)) (I := fun x w => x.1 ≤ xs.length ∧ (∀ q (h1 : q < xs.length) (h2 : q < ys.length), q < x.1 → xs[q] = ys[q]) ∧ Lim w x.2 ∧ Stp [2, 3, 4, 5, 6, 7, 8, 9] w₀ (col1 C) w x.2 ∧ RV w (Mc x.2) xs px ∧ RV w (Mc x.2) ys py) (e := fun x => [(0, px), (1, py), (12, .int .i64 xs.length), (13, .int .i64 x.1)]) (m := fun x => xs.length - x.1) (x₀ := (0, col1 C)) (sr 0 (sr 1 (sr 12 (sr 13 (sub_nil _))))) ?_ ?_
  · exact ⟨Nat.zero_le _, (fun q _ _ hq => by simp only at hq; omega), hF, hT, hx, hy⟩
  intro ⟨i, C1⟩ w1 hI next
  obtain ⟨hi, h0, hF, hT, hx, hy⟩ := hI
  try simp only at hi h0 hF hT hx hy
  have next1 := next
  clear next
  show Run _ _ _ _ [(0, px), (1, py), (12, .int .i64 xs.length), (13, .int .i64 i)] _ _
  have hle := hx.le
  refine run_sq ?_
  refine run_pl [yy 0] ?_
  refine yV (kq 14 (.binOp .lss 3 (.tmp 13) (.tmp 12) 3)) (fun _ => val_lss rfl rfl) ?_
  refine Sch.nil ?_
  refine run_sq ?_
  refine run_i 14 rfl (fun h14 => ?_) (fun h14 => ?_)
  ·
   have hil : i < xs.length := by omega
   have hil2 : i < ys.length := by omega
   refine run_sk ?_
   refine run_sq ?_
   refine run_bk 1 ?_
   refine run_sq ?_
   refine run_pl [yy 0, yy 1] ?_
   refine yM 15 13 ?_
   refine yA 5 15 ?_
   refine Sch.nil ?_
   refine run_sq ?_
   refine run_draw (id := 6) (ops := F15.o6) [] (C1) [yy 0, yy 1, yy 2, yy 3, yy 4, yy 5, yy 6, yy 7, yy 8] Try_mixed (by kernel_rfl) (by kernel_rfl) (by kernel_rfl) ?_
   intro w2 hs
   replace hF := hF.st hs
   replace hT := hT.t hs; replace hx := hx.t hs; replace hy := hy.t hs
   refine yM 16 0 ?_
   refine yM 17 5 ?_
   refine iS (e := 47) (kq 18 (.indexAddr 31 (.tmp 16) (.tmp 17))) rfl rfl hx rfl (by kernel_rfl) rfl (by omega) (by omega) ?_
   intro b18 o18 h18
   try simp only [Int.toNat_natCast] at h18
   refine lSA (kq 19 (.load 47 (.tmp 18))) rfl rfl (fun w' hS => h18.sy hS) h18 (by kernel_rfl) (by kernel_rfl) rfl rfl ?_
   intro v19 g19
   obtain rfl := rv_couple.1 g19
   refine yM 20 1 ?_
   refine yM 21 5 ?_
   refine iS (e := 47) (kq 22 (.indexAddr 31 (.tmp 20) (.tmp 21))) rfl rfl hy rfl (by kernel_rfl) rfl (by omega) (by omega) ?_
   intro b22 o22 h22
   try simp only [Int.toNat_natCast] at h22
   refine lSA (kq 23 (.load 47 (.tmp 22))) rfl rfl (fun w' hS => h22.sy hS) h22 (by kernel_rfl) (by kernel_rfl) rfl rfl ?_
   intro v23 g23
   obtain rfl := rv_couple.1 g23
   refine yV (kq 24 (.binOp .neq 47 (.tmp 19) (.tmp 23) 47)) (fun _ => val_neC (a := (xs[i]'hil)) (b := (ys[i]'hil2)) Try.underlying47 (by decide) (by decide) (by kernel_rfl) Try.underlying3 rfl rfl) ?_
   refine Sch.nil ?_
   refine run_i 24 rfl (fun h24 => ?_) (fun h24 => ?_)
   ·
    refine run_sq ?_
    refine run_pl [yy 0] ?_
    refine yAc 4 (.bool false) ?_
    refine Sch.nil ?_
    refine run_ret1 (by kernel_rfl) Try.func15 Try.results15 rfl ?_
    exact ⟨by rw [decide_eq_false (fun e => h24 (by subst e; rfl))], hT.out1 (by decide)⟩
   ·
    refine run_sk ?_
    refine run_inBlock ?_
    refine run_pl [yy 0, yy 1] ?_
    refine yV (kq 25 (.binOp .add 3 (.tmp 13) (.const (.int .i64 1)) 3)) (fun _ => val_addi rfl rfl (by omega) (by omega)) ?_
    refine yM 13 25 ?_
    refine Sch.nil ?_
    refine kp (sub_cons 0 rfl rfl (sub_cons 1 rfl rfl (sub_cons 12 rfl rfl (sub_cons 13 rfl (eq_int (by simp)) (sub_nil _))))) (next1 (i + 1, C1) _ ⟨(by first | omega | (simp only; omega)), (fun q h1 h2 hq => by
        simp only at hq
        by_cases e : q = i
        · subst e; exact Classical.not_not.1 h24
        · exact h0 q h1 h2 (by omega)), hF, hT, hx, hy⟩ (by first | omega | (simp only; omega)))
  ·
   have hil : i = xs.length := by omega
   refine run_ex 0 ?_
   refine run_sq ?_
   refine run_pl [yy 0] ?_
   refine yAc 4 (.bool true) ?_
   refine Sch.nil ?_
   refine run_ret1 (by kernel_rfl) Try.func15 Try.results15 rfl ?_
   exact ⟨by rw [decide_eq_true (List.ext_getElem hlen (fun q h1 h2 => h0 q h1 h2 (by omega)))], hT.out1 (by decide)⟩
end Go.Proofs.Ytognfmeffnjijaa
