/- Steps through functions of the program. -/
import Derived.Test.YtognfmeffnjijaaJHA
import Derived.Test.YtognfmeffnjijaaL3
set_option linter.unusedVariables false
set_option linter.unusedSimpArgs false
set_option maxRecDepth 100000
set_option maxHeartbeats 4000000
namespace Go.Proofs.Ytognfmeffnjijaa
open Go.K Go.K.Rep

namespace F13
noncomputable def c0 := bodyOf Try.f13
noncomputable def c6 := (cl (cl (cl (cr (cl c0)))))
noncomputable def c7 := (cr (cl (cl (cr (cl c0)))))
noncomputable def c18 := (cl (cl (cr (cr (cr c0)))))
noncomputable def c19 := (cr (cl (cr (cr (cr c0)))))
noncomputable def c28 := (cl (cr (cr (cl (cl c19)))))
noncomputable def o8 := rops (cr (cl c28))
noncomputable def c32 := (cr (cr (cr (cl (cl c19)))))
noncomputable def c34 := (cl (cr (cr (cr (cr c0)))))
noncomputable def o11 := rops (cl (cr c34))
noncomputable def c39 := (cr (cr (cr (cr (cr c0)))))
end F13
theorem every_step {N M : Nat} {l : List K.Edge} {al bl : List Nat} {vl va vbl : Value} {bb bm : Nat} (hV : VE N M l) (hH : HH N M al bl) {d : Nat} (IH : ∀ (w₀ : World) (C : Nat → Nat) (i : Nat) (cs : List Couple) (t : Int) (b : List Couple × Int) (vc vb : Value), l.length - i < d → Lim w₀ C → RV w₀ (Mc C) l vl → RV w₀ (Mc C) al va → RV w₀ (Mc C) bl vbl → RV w₀ (Mc C) cs vc → RV w₀ (Mc C) b.1 vb → OwnB w₀ C 5 bb (.cells [vb].toArray 31) → OwnB w₀ C 6 bm (.cells [.int .i64 b.2].toArray 3) → i ≤ l.length → cs.length ≤ i → (cs = [] → vc = .slice none 0 0) → 0 ≤ t → t ≤ 65536 * i → (∀ c ∈ cs, 0 ≤ c.a ∧ c.a < al.length ∧ 0 ≤ c.b ∧ c.b < bl.length) → Calls Try.prog 13 #[vl, va, vbl, .int .i64 i, vc, .int .i64 t, .pointer (some ⟨bb, 0, none⟩), .pointer (some ⟨bm, 0, none⟩)] w₀ (Ret fun v w' => ∃ (B : List Couple × Int) (vb' : Value), B = evH al bl (l.drop i) cs t b ∧ v = .tuple #[] ∧ Stp [5, 6] w₀ C w' C ∧ RV w' (Mc C) B.1 vb' ∧ OwnB w' C 5 bb (.cells [vb'].toArray 31) ∧ OwnB w' C 6 bm (.cells [.int .i64 B.2].toArray 3)))
    {w₀ : World} {C : Nat → Nat} {i : Nat} {cs : List Couple} {t : Int} {b : List Couple × Int} {vc vb : Value} (hd : l.length - i ≤ d) (hF : Lim w₀ C) (he : RV w₀ (Mc C) l vl) (ha : RV w₀ (Mc C) al va) (hbl : RV w₀ (Mc C) bl vbl) (hc : RV w₀ (Mc C) cs vc) (hb : RV w₀ (Mc C) b.1 vb) (hbb : OwnB w₀ C 5 bb (.cells [vb].toArray 31)) (hbm : OwnB w₀ C 6 bm (.cells [.int .i64 b.2].toArray 3)) (hi : i ≤ l.length) (hcl : cs.length ≤ i) (hnil : cs = [] → vc = .slice none 0 0) (ht0 : 0 ≤ t) (ht1 : t ≤ 65536 * i) (hcr : ∀ c ∈ cs, 0 ≤ c.a ∧ c.a < al.length ∧ 0 ≤ c.b ∧ c.b < bl.length) : Calls Try.prog 13 #[vl, va, vbl, .int .i64 i, vc, .int .i64 t, .pointer (some ⟨bb, 0, none⟩), .pointer (some ⟨bm, 0, none⟩)] w₀ (Ret fun v w' => ∃ (B : List Couple × Int) (vb' : Value), B = evH al bl (l.drop i) cs t b ∧ v = .tuple #[] ∧ Stp [5, 6] w₀ C w' C ∧ RV w' (Mc C) B.1 vb' ∧ OwnB w' C 5 bb (.cells [vb'].toArray 31) ∧ OwnB w' C 6 bm (.cells [.int .i64 B.2].toArray 3)) := by
 have hF0 := hF
 have hbb0 := hbb
 have hbm0 := hbm
 have hlen := hV.len
 have hV0 := hV.n1
 have hV1 := hV.m1
 have hla := hH.la
 have hlb := hH.lb
 have hle := hc.le
 have hT := Stp.refl [5, 6, 7, 8] w₀ (colE C)
 replace hF := hF.colE
 replace he : RV w₀ (Mc (colE C)) l vl := by rw [Mc_colE]; exact he
 replace ha : RV w₀ (Mc (colE C)) al va := by rw [Mc_colE]; exact ha
 replace hbl : RV w₀ (Mc (colE C)) bl vbl := by rw [Mc_colE]; exact hbl
 replace hc : RV w₀ (Mc (colE C)) cs vc := by rw [Mc_colE]; exact hc
 replace hb : RV w₀ (Mc (colE C)) b.1 vb := by rw [Mc_colE]; exact hb
 replace hbb := hbb.colE (by decide)
 replace hbm := hbm.colE (by decide)
 refine calls_start (c := F13.c0) (N := 126) [vl, va, vbl, .int .i64 i, vc, .int .i64 t, .pointer (some ⟨bb, 0, none⟩), .pointer (some ⟨bm, 0, none⟩)] Try.func13 (by kernel_rfl) (by kernel_rfl) (by kernel_rfl) ?_
 show Run _ _ _ _ [(0, vl), (1, va), (2, vbl), (3, .int .i64 i), (4, vc), (5, .int .i64 t), (6, .pointer (some ⟨bb, 0, none⟩)), (7, .pointer (some ⟨bm, 0, none⟩))] _ _
 refine run_sq ?_
 refine run_sq ?_
 refine run_pl [yy 0, yy 1, yy 2, yy 3] ?_
 refine yM 20 3 ?_
 refine yM 21 0 ?_
 refine yS (kq 22 (.call { callee := .builtin .len, args := #[(.tmp 21)], argTypes := #[29] })) rfl rfl (fun w' hS => he.lenV rfl Try.underlying29 w' ) ?_
 refine yV (kq 23 (.binOp .eql 3 (.tmp 20) (.tmp 22) 3)) (fun _ => val_eql rfl rfl) ?_
 refine Sch.nil ?_
 refine run_i 23 rfl (fun h23 => ?_) (fun h23 => ?_)
 ·
  have hil : i = l.length := by omega
  refine run_sq ?_
  refine run_sq ?_
  refine run_pl [yy 0, yy 1, yy 2, nn 3, yy 4] ?_
  refine yM 24 5 ?_
  refine yM 25 7 ?_
  refine yN 26 25 ?_
  refine nS (kq 27 (.load 3 (.tmp 26))) rfl rfl trivial (val_loadOwn hbm.at_ (by kernel_rfl) rfl rfl) ?_
  refine yV (kq 28 (.binOp .gtr 3 (.tmp 24) (.tmp 27) 3)) (fun _ => val_gtr rfl rfl) ?_
  refine Sch.nil ?_
  refine run_i 28 rfl (fun h28 => ?_) (fun h28 => ?_)
  ·
   refine run_pl [yy 0, yy 1, yy 2, nn 3, yy 4, yy 5, nn 6, yy 7, nn 8] ?_
   refine yM 29 6 ?_
   refine yM 30 7 ?_
   refine yM 31 4 ?_
   refine aS (kq 32 (.call { callee := .builtin .append, args := #[(.const (.slice none 0 0)), (.tmp 31)], argTypes := #[31, 31] })) rfl rfl (a_append (e := 47) (bytes := 16) hF (by decide) rfl rfl (by kernel_rfl) (by decide) (OwnL.nil (α := Couple) (j := 7)) hc (by simp only [List.length_append, List.length_cons, List.length_nil]; omega) (by simp only [List.length_append, List.length_cons, List.length_nil]; omega)) ?_
   rintro v32 w1 ⟨Cw1, hs, hn, hF⟩
   refine ⟨trivial, ?_⟩
   replace hT := hT.t hs; replace he := he.t hs; replace ha := ha.t hs; replace hbl := hbl.t hs; replace hc := hc.t hs; replace hb := hb.t hs; replace hbb := hbb.t hs; replace hbm := hbm.t hs
   refine yM 33 5 ?_
   refine yN 34 29 ?_
   refine aN (k0 (.store 31 (.tmp 34) (.tmp 32))) rfl (a_store1 rfl rfl (by kernel_rfl) hn.one.1 hn.one.2 hbb (by simp)) ?_
   rintro _ w2 ⟨rfl, hs, hbb⟩
   refine ⟨trivial, ?_⟩
   replace hF := hF.st hs
   replace hT := hT.t hs; replace he := he.t hs; replace ha := ha.t hs; replace hbl := hbl.t hs; replace hc := hc.t hs; replace hb := hb.t hs; replace hbm := hbm.t hs; replace hn := hn.t hs
   simp only [List.nil_append] at hn
   refine yN 35 30 ?_
   refine aN (k0 (.store 3 (.tmp 35) (.tmp 33))) rfl (a_store1 rfl rfl (by kernel_rfl) rfl rfl hbm (by simp)) ?_
   rintro _ w3 ⟨rfl, hs, hbm⟩
   refine ⟨trivial, ?_⟩
   replace hF := hF.st hs
   replace hT := hT.t hs; replace he := he.t hs; replace ha := ha.t hs; replace hbl := hbl.t hs; replace hc := hc.t hs; replace hb := hb.t hs; replace hbb := hbb.t hs; replace hn := hn.t hs
   refine Sch.nil ?_
   refine run_ret0 (by kernel_rfl) Try.func13 Try.results13 ?_
   refine ⟨(cs, t), _, ?_, rfl, hT.outJ (by decide), (hn.out hT hF0 (Mc_colE C) (fun b _ => Nat.ne_of_lt (colE_lt7 C b)) (by omega)), hbb.back hbb0, hbm.back hbm0⟩
   rw [hil, List.drop_length]; unfold evH; rw [if_pos (by omega)]
  ·
   refine run_sk ?_
   refine run_ret0 (by kernel_rfl) Try.func13 Try.results13 ?_
   refine ⟨b, _, ?_, rfl, hT.outJ (by decide), (hb.out hT hF0 (Mc_colE C)), hbb.back hbb0, hbm.back hbm0⟩
   rw [hil, List.drop_length]; unfold evH; rw [if_neg (by omega)]
 ·
  have hil : i < l.length := by omega
  have hxo := hV.ok _ (List.getElem_mem hil)
  unfold okE at hxo
  have hdr := List.drop_eq_getElem_cons hil
  refine run_sk ?_
  refine run_sq ?_
  refine run_pl [yy 0, yy 1, yy 2, nn 3, nn 4, nn 5] ?_
  refine yM 36 0 ?_
  refine yM 37 3 ?_
  refine iS (e := 45) (kq 38 (.indexAddr 29 (.tmp 36) (.tmp 37))) rfl rfl he rfl (by kernel_rfl) rfl (by omega) (by omega) ?_
  intro b38 o38 h38
  try simp only [Int.toNat_natCast] at h38
  refine lNA (kq 39 (.load 45 (.tmp 38))) rfl rfl trivial h38 (by kernel_rfl) (by kernel_rfl) rfl rfl ?_
  intro v39 g39
  obtain rfl := rv_edge.1 g39
  refine aS (kq 16 (.alloc 45)) rfl rfl (a_alloc (cs := [.int .i64 0, .int .i64 0, .int .i64 0]) hF 7 (by kernel_rfl)) ?_
  rintro _ w4 ⟨Cw4, bw4, rfl, hs, hx, hF⟩
  refine ⟨trivial, ?_⟩
  replace hT := hT.t hs; replace he := he.t hs; replace ha := ha.t hs; replace hbl := hbl.t hs; replace hc := hc.t hs; replace hb := hb.t hs; replace hbb := hbb.t hs; replace hbm := hbm.t hs; replace h38 := h38.t hs
  refine aN (k0 (.store 45 (.tmp 16) (.tmp 39))) rfl (a_storeAll (vs := encE (l[i]'hil)) (n := 3) rfl rfl (by kernel_rfl) rfl rfl (by intro u hu; simp only [encE, List.mem_cons, List.not_mem_nil, or_false] at hu; rcases hu with rfl | rfl | rfl <;> rfl) hx rfl) ?_
  rintro _ w5 ⟨rfl, hs, hx⟩
  refine ⟨trivial, ?_⟩
  replace hF := hF.st hs
  replace hT := hT.t hs; replace he := he.t hs; replace ha := ha.t hs; replace hbl := hbl.t hs; replace hc := hc.t hs; replace hb := hb.t hs; replace hbb := hbb.t hs; replace hbm := hbm.t hs; replace h38 := h38.t hs
  refine Sch.nil ?_
  have hxr := hx.fra (n := 7) (x := l[i]'hil) (by decide) (rep_edge.2 rfl)
  clear hx
  replace hF := hF.frz 7
  replace hT := hT.frz (n := 7) (fun b => by first | exact colE_lt7 C b | exact frz_lt (by decide) _ b)
  replace he := he.frz 7
  replace ha := ha.frz 7
  replace hbl := hbl.frz 7
  replace hc := hc.frz 7
  replace hb := hb.frz 7
  replace hbb := hbb.frz (n := 7) (by decide)
  replace hbm := hbm.frz (n := 7) (by decide)
  replace h38 := h38.frz 7
  have hx := hxr
  clear hxr
  refine run_sq ?_
  refine run_pl [yy 0, nn 1, yy 2, yy 3] ?_
  have h40 := RA.ew hx
  refine yF 40 45 16 2 2 ?_
  refine lN (kq 41 (.load 3 (.tmp 40))) rfl rfl trivial h40 (by kernel_rfl) rfl rfl ?_
  intro v41 g41
  first | (obtain rfl := rv_nat.1 g41) | (obtain rfl := rv_int.1 g41)
  refine yV (kq 42 (.binOp .gtr 3 (.tmp 41) (.const (.int .i64 0)) 3)) (fun _ => val_gtr rfl rfl) ?_
  refine yA 17 42 ?_
  refine Sch.nil ?_
  refine run_sq ?_
  refine run_sq ?_
  refine run_pl [yy 0, yy 1, yy 2] ?_
  refine yM 43 4 ?_
  refine yS (kq 44 (.call { callee := .builtin .len, args := #[(.tmp 43)], argTypes := #[31] })) rfl rfl (fun w' hS => hc.lenV rfl Try.underlying31 w' ) ?_
  refine yV (kq 45 (.move (.const (.int .i64 0)))) (fun _ => val_move rfl) ?_
  refine Sch.nil ?_
  refine run_bk 0 ?_
  obtain ⟨bx, hbxe⟩ : ∃ x, x = bw4 := ⟨_, rfl⟩
  rw [← hbxe] at hx
  rw [← hbxe]
  clear hbxe
  refine run_lp (ι := Nat × (Nat → Nat)) (I := fun x w => x.1 ≤ cs.length ∧ Lim w x.2 ∧ Stp [5, 6, 7, 8] w₀ (colE C) w x.2 ∧ RV w (Mc x.2) l vl ∧ RV w (Mc x.2) al va ∧ RV w (Mc x.2) bl vbl ∧ RV w (Mc x.2) cs vc ∧ RV w (Mc x.2) b.1 vb ∧ OwnB w x.2 5 bb (.cells [vb].toArray 31) ∧ OwnB w x.2 6 bm (.cells [.int .i64 b.2].toArray 3) ∧ RA w (Mc x.2) (l[i]'hil) bx 0) (e := fun x => [(0, vl), (1, va), (2, vbl), (3, .int .i64 i), (4, vc), (5, .int .i64 t), (6, .pointer (some ⟨bb, 0, none⟩)), (7, .pointer (some ⟨bm, 0, none⟩)), (16, .pointer (some ⟨bx, 0, none⟩)), (17, .bool (decide (mayH al bl (l[i]'hil) (cs.take x.1)))), (43, vc), (44, .int .i64 cs.length), (45, .int .i64 x.1)]) (m := fun x => cs.length - x.1) (x₀ := (0, K.frz 7 Cw4)) (sr 0 (sr 1 (sr 2 (sr 3 (sr 4 (sr 5 (sr 6 (sr 7 (sr 16 (sub_cons 17 rfl (congrArg Value.bool (decide_eq_decide.2 (by rw [List.take_zero]; exact mayH_nil.symm))) (sr 43 (sr 44 (sr 45 (sub_nil _)))))))))))))) ?_ ?_
  · exact ⟨Nat.zero_le _, hF, hT, he, ha, hbl, hc, hb, hbb, hbm, hx⟩
  intro ⟨k, C1⟩ w6 hI next
  obtain ⟨hk, hF, hT, he, ha, hbl, hc, hb, hbb, hbm, hx⟩ := hI
  try simp only at hk hF hT he ha hbl hc hb hbb hbm hx
  have next1 := next
  clear next
  show Run _ _ _ _ [(0, vl), (1, va), (2, vbl), (3, .int .i64 i), (4, vc), (5, .int .i64 t), (6, .pointer (some ⟨bb, 0, none⟩)), (7, .pointer (some ⟨bm, 0, none⟩)), (16, .pointer (some ⟨bx, 0, none⟩)), (17, .bool (decide (mayH al bl (l[i]'hil) (cs.take k)))), (43, vc), (44, .int .i64 cs.length), (45, .int .i64 k)] _ _
  refine run_sq ?_
  refine run_pl [yy 0] ?_
  refine yV (kq 46 (.binOp .lss 3 (.tmp 45) (.tmp 44) 3)) (fun _ => val_lss rfl rfl) ?_
  refine Sch.nil ?_
  refine run_sq ?_
  refine run_i 46 rfl (fun h46 => ?_) (fun h46 => ?_)
  ·
   have hkl : k < cs.length := by omega
   have hcx := hcr _ (List.getElem_mem hkl)
   have hmt := mayH_take (al := al) (bl := bl) (x := l[i]'hil) hkl
   have g1 : gN al (cs[k]'hkl).a.toNat = al[(cs[k]'hkl).a.toNat]'(by omega) := getD_in _
   have g2 : gN al (l[i]'hil).a.toNat = al[(l[i]'hil).a.toNat]'(by omega) := getD_in _
   have g3 : gN bl (cs[k]'hkl).b.toNat = bl[(cs[k]'hkl).b.toNat]'(by omega) := getD_in _
   have g4 : gN bl (l[i]'hil).b.toNat = bl[(l[i]'hil).b.toNat]'(by omega) := getD_in _
   refine run_sk ?_
   refine run_sq ?_
   refine run_bk 1 ?_
   refine run_sq ?_
   refine run_pl [yy 0, nn 1, nn 2, nn 3] ?_
   refine iS (e := 47) (kq 47 (.indexAddr 31 (.tmp 43) (.tmp 45))) rfl rfl hc rfl (by kernel_rfl) rfl (by omega) (by omega) ?_
   intro b47 o47 h47
   try simp only [Int.toNat_natCast] at h47
   refine lNA (kq 48 (.load 47 (.tmp 47))) rfl rfl trivial h47 (by kernel_rfl) (by kernel_rfl) rfl rfl ?_
   intro v48 g48
   obtain rfl := rv_couple.1 g48
   refine aS (kq 19 (.alloc 47)) rfl rfl (a_alloc (cs := [.int .i64 0, .int .i64 0]) hF 8 (by kernel_rfl)) ?_
   rintro _ w7 ⟨Cw7, bw7, rfl, hs, hy, hF⟩
   refine ⟨trivial, ?_⟩
   replace hT := hT.t hs; replace he := he.t hs; replace ha := ha.t hs; replace hbl := hbl.t hs; replace hc := hc.t hs; replace hb := hb.t hs; replace hbb := hbb.t hs; replace hbm := hbm.t hs; replace hx := hx.t hs; replace h47 := h47.t hs
   refine aN (k0 (.store 47 (.tmp 19) (.tmp 48))) rfl (a_storeAll (vs := [.int .i64 (cs[k]'hkl).a, .int .i64 (cs[k]'hkl).b]) (n := 2) rfl rfl (by kernel_rfl) rfl rfl (by intro u hu; simp only [List.mem_cons, List.not_mem_nil, or_false] at hu; rcases hu with rfl | rfl <;> rfl) hy rfl) ?_
   rintro _ w8 ⟨rfl, hs, hy⟩
   refine ⟨trivial, ?_⟩
   replace hF := hF.st hs
   replace hT := hT.t hs; replace he := he.t hs; replace ha := ha.t hs; replace hbl := hbl.t hs; replace hc := hc.t hs; replace hb := hb.t hs; replace hbb := hbb.t hs; replace hbm := hbm.t hs; replace hx := hx.t hs; replace h47 := h47.t hs
   refine Sch.nil ?_
   rcases Bool.eq_false_or_eq_true (decide (mayH al bl (l[i]'hil) (cs.take k))) with hP | hP
   ·
    rw [hP]
    by_cases hA : (cs[k]'hkl).a ≠ (l[i]'hil).a
    ·
     by_cases hB : (cs[k]'hkl).b ≠ (l[i]'hil).b
     ·
      by_cases hC : ((gN al (cs[k]'hkl).a.toNat : Nat) : Int) = ((gN al (l[i]'hil).a.toNat : Nat) : Int)
      ·
       by_cases hD : ((gN bl (cs[k]'hkl).b.toNat : Nat) : Int) = ((gN bl (l[i]'hil).b.toNat : Nat) : Int)
       ·
        refine run_draw (id := 8) (ops := F13.o8) [] (Cw7) [yy 0, yy 1, yy 2, yy 3, yy 4, yy 5, yy 6, yy 7, yy 8, yy 9, yy 10, yy 11, yy 12, yy 13, yy 14, yy 15, yy 16, yy 17, yy 18, yy 19, yy 20, yy 21, yy 22, yy 23, yy 24, yy 25, yy 26, yy 27, yy 28, yy 29, yy 30, yy 31, yy 32, yy 33, yy 34, yy 35, yy 36, yy 37, yy 38, yy 39, yy 40] Try_mixed (by kernel_rfl) (by kernel_rfl) (by kernel_rfl) ?_
        intro w9 hs
        replace hF := hF.st hs
        replace hT := hT.t hs; replace he := he.t hs; replace ha := ha.t hs; replace hbl := hbl.t hs; replace hc := hc.t hs; replace hb := hb.t hs; replace hbb := hbb.t hs; replace hbm := hbm.t hs; replace hx := hx.t hs; replace h47 := h47.t hs; replace hy := hy.t hs
        refine yM 49 17 ?_
        refine yM 50 49 ?_
        refine yFg 51 47 19 0 0 1 true ?_
        refine yS (kg 52 (.load 3 (.tmp 51)) 1 true) rfl rfl (fun w' hS => val_loadOwn (hy.sy hS) (by kernel_rfl) rfl rfl) ?_
        have h53 := RA.ea hx
        refine yFg 53 45 16 0 0 1 true ?_
        refine lS (kg 54 (.load 3 (.tmp 53)) 1 true) rfl rfl (fun w' hS => h53.sy hS) h53 (by kernel_rfl) rfl rfl ?_
        intro v54 g54
        first | (obtain rfl := rv_nat.1 g54) | (obtain rfl := rv_int.1 g54)
        refine yV (kg 55 (.binOp .neq 3 (.tmp 52) (.tmp 54) 3) 1 true) (fun _ => val_T (val_neq rfl rfl) hA) ?_
        refine yAt 56 50 55 ?_
        refine yM 57 56 ?_
        refine yFg 58 47 19 1 1 8 true ?_
        refine yS (kg 59 (.load 3 (.tmp 58)) 8 true) rfl rfl (fun w' hS => val_loadOwn (hy.sy hS) (by kernel_rfl) rfl rfl) ?_
        have h60 := RA.eb hx
        refine yFg 60 45 16 1 1 8 true ?_
        refine lS (kg 61 (.load 3 (.tmp 60)) 8 true) rfl rfl (fun w' hS => h60.sy hS) h60 (by kernel_rfl) rfl rfl ?_
        intro v61 g61
        first | (obtain rfl := rv_nat.1 g61) | (obtain rfl := rv_int.1 g61)
        refine yV (kg 62 (.binOp .neq 3 (.tmp 59) (.tmp 61) 3) 8 true) (fun _ => val_T (val_neq rfl rfl) hB) ?_
        refine yAt 63 57 62 ?_
        refine yM 64 63 ?_
        refine yMg 65 1 15 true ?_
        refine yFg 66 47 19 0 0 15 true ?_
        refine yS (kg 67 (.load 3 (.tmp 66)) 15 true) rfl rfl (fun w' hS => val_loadOwn (hy.sy hS) (by kernel_rfl) rfl rfl) ?_
        refine iS (e := 3) (kg 68 (.indexAddr 22 (.tmp 65) (.tmp 67)) 15 true) rfl rfl ha rfl (by kernel_rfl) rfl (by omega) (by omega) ?_
        intro b68 o68 h68
        try simp only [Int.toNat_natCast] at h68
        refine lS (kg 69 (.load 3 (.tmp 68)) 15 true) rfl rfl (fun w' hS => h68.sy hS) h68 (by kernel_rfl) rfl rfl ?_
        intro v69 g69
        first | (obtain rfl := rv_nat.1 g69) | (obtain rfl := rv_int.1 g69)
        rw [← g1]
        refine yMg 70 1 15 true ?_
        have h71 := RA.ea hx
        refine yFg 71 45 16 0 0 15 true ?_
        refine lS (kg 72 (.load 3 (.tmp 71)) 15 true) rfl rfl (fun w' hS => h71.sy hS) h71 (by kernel_rfl) rfl rfl ?_
        intro v72 g72
        first | (obtain rfl := rv_nat.1 g72) | (obtain rfl := rv_int.1 g72)
        refine iS (e := 3) (kg 73 (.indexAddr 22 (.tmp 70) (.tmp 72)) 15 true) rfl rfl ha rfl (by kernel_rfl) rfl (by omega) (by omega) ?_
        intro b73 o73 h73
        try simp only [Int.toNat_natCast] at h73
        refine lS (kg 74 (.load 3 (.tmp 73)) 15 true) rfl rfl (fun w' hS => h73.sy hS) h73 (by kernel_rfl) rfl rfl ?_
        intro v74 g74
        first | (obtain rfl := rv_nat.1 g74) | (obtain rfl := rv_int.1 g74)
        rw [← g2]
        refine yV (kg 75 (.binOp .eql 3 (.tmp 69) (.tmp 74) 3) 15 true) (fun _ => val_T (val_eql rfl rfl) hC) ?_
        refine yMg 76 2 15 true ?_
        refine yFg 77 47 19 1 1 15 true ?_
        refine yS (kg 78 (.load 3 (.tmp 77)) 15 true) rfl rfl (fun w' hS => val_loadOwn (hy.sy hS) (by kernel_rfl) rfl rfl) ?_
        refine iS (e := 3) (kg 79 (.indexAddr 22 (.tmp 76) (.tmp 78)) 15 true) rfl rfl hbl rfl (by kernel_rfl) rfl (by omega) (by omega) ?_
        intro b79 o79 h79
        try simp only [Int.toNat_natCast] at h79
        refine lS (kg 80 (.load 3 (.tmp 79)) 15 true) rfl rfl (fun w' hS => h79.sy hS) h79 (by kernel_rfl) rfl rfl ?_
        intro v80 g80
        first | (obtain rfl := rv_nat.1 g80) | (obtain rfl := rv_int.1 g80)
        rw [← g3]
        refine yMg 81 2 15 true ?_
        have h82 := RA.eb hx
        refine yFg 82 45 16 1 1 15 true ?_
        refine lS (kg 83 (.load 3 (.tmp 82)) 15 true) rfl rfl (fun w' hS => h82.sy hS) h82 (by kernel_rfl) rfl rfl ?_
        intro v83 g83
        first | (obtain rfl := rv_nat.1 g83) | (obtain rfl := rv_int.1 g83)
        refine iS (e := 3) (kg 84 (.indexAddr 22 (.tmp 81) (.tmp 83)) 15 true) rfl rfl hbl rfl (by kernel_rfl) rfl (by omega) (by omega) ?_
        intro b84 o84 h84
        try simp only [Int.toNat_natCast] at h84
        refine lS (kg 85 (.load 3 (.tmp 84)) 15 true) rfl rfl (fun w' hS => h84.sy hS) h84 (by kernel_rfl) rfl rfl ?_
        intro v85 g85
        first | (obtain rfl := rv_nat.1 g85) | (obtain rfl := rv_int.1 g85)
        rw [← g4]
        refine yV (kg 86 (.binOp .eql 3 (.tmp 80) (.tmp 85) 3) 15 true) (fun _ => val_T (val_eql rfl rfl) hD) ?_
        refine yV (kg 87 (.binOp .eql 4 (.tmp 75) (.tmp 86) 4) 15 true) (fun _ => val_is (val_eqBl rfl rfl Try.underlying4) (show _ = Value.bool true from congrArg Value.bool (by decide))) ?_
        refine yAt 88 64 87 ?_
        refine yA 17 88 ?_
        refine Sch.nil ?_
        refine run_inBlock ?_
        refine run_pl [yy 0, yy 1] ?_
        refine yV (kq 89 (.binOp .add 3 (.tmp 45) (.const (.int .i64 1)) 3)) (fun _ => val_addi rfl rfl (by omega) (by omega)) ?_
        refine yM 45 89 ?_
        refine Sch.nil ?_
        refine kp (sub_cons 0 rfl rfl (sub_cons 1 rfl rfl (sub_cons 2 rfl rfl (sub_cons 3 rfl rfl (sub_cons 4 rfl rfl (sub_cons 5 rfl rfl (sub_cons 6 rfl rfl (sub_cons 7 rfl rfl (sub_cons 16 rfl rfl (sub_cons 17 rfl (congrArg Value.bool (decide_eq_true (hmt.2 ⟨of_decide_eq_true hP, hA, hB, ⟨fun _ => by omega, fun _ => by omega⟩⟩)).symm) (sub_cons 43 rfl rfl (sub_cons 44 rfl rfl (sub_cons 45 rfl (eq_int (by simp)) (sub_nil _)))))))))))))) (next1 (k + 1, Cw7) _ ⟨(by first | omega | (simp only; omega)), hF, hT, he, ha, hbl, hc, hb, hbb, hbm, hx⟩ (by first | omega | (simp only; omega)))
       ·
        refine run_draw (id := 8) (ops := F13.o8) [] (Cw7) [yy 0, yy 1, yy 2, yy 3, yy 4, yy 5, yy 6, yy 7, yy 8, yy 9, yy 10, yy 11, yy 12, yy 13, yy 14, yy 15, yy 16, yy 17, yy 18, yy 19, yy 20, yy 21, yy 22, yy 23, yy 24, yy 25, yy 26, yy 27, yy 28, yy 29, yy 30, yy 31, yy 32, yy 33, yy 34, yy 35, yy 36, yy 37, yy 38, yy 39, yy 40] Try_mixed (by kernel_rfl) (by kernel_rfl) (by kernel_rfl) ?_
        intro w10 hs
        replace hF := hF.st hs
        replace hT := hT.t hs; replace he := he.t hs; replace ha := ha.t hs; replace hbl := hbl.t hs; replace hc := hc.t hs; replace hb := hb.t hs; replace hbb := hbb.t hs; replace hbm := hbm.t hs; replace hx := hx.t hs; replace h47 := h47.t hs; replace hy := hy.t hs
        refine yM 49 17 ?_
        refine yM 50 49 ?_
        refine yFg 51 47 19 0 0 1 true ?_
        refine yS (kg 52 (.load 3 (.tmp 51)) 1 true) rfl rfl (fun w' hS => val_loadOwn (hy.sy hS) (by kernel_rfl) rfl rfl) ?_
        have h53 := RA.ea hx
        refine yFg 53 45 16 0 0 1 true ?_
        refine lS (kg 54 (.load 3 (.tmp 53)) 1 true) rfl rfl (fun w' hS => h53.sy hS) h53 (by kernel_rfl) rfl rfl ?_
        intro v54 g54
        first | (obtain rfl := rv_nat.1 g54) | (obtain rfl := rv_int.1 g54)
        refine yV (kg 55 (.binOp .neq 3 (.tmp 52) (.tmp 54) 3) 1 true) (fun _ => val_T (val_neq rfl rfl) hA) ?_
        refine yAt 56 50 55 ?_
        refine yM 57 56 ?_
        refine yFg 58 47 19 1 1 8 true ?_
        refine yS (kg 59 (.load 3 (.tmp 58)) 8 true) rfl rfl (fun w' hS => val_loadOwn (hy.sy hS) (by kernel_rfl) rfl rfl) ?_
        have h60 := RA.eb hx
        refine yFg 60 45 16 1 1 8 true ?_
        refine lS (kg 61 (.load 3 (.tmp 60)) 8 true) rfl rfl (fun w' hS => h60.sy hS) h60 (by kernel_rfl) rfl rfl ?_
        intro v61 g61
        first | (obtain rfl := rv_nat.1 g61) | (obtain rfl := rv_int.1 g61)
        refine yV (kg 62 (.binOp .neq 3 (.tmp 59) (.tmp 61) 3) 8 true) (fun _ => val_T (val_neq rfl rfl) hB) ?_
        refine yAt 63 57 62 ?_
        refine yM 64 63 ?_
        refine yMg 65 1 15 true ?_
        refine yFg 66 47 19 0 0 15 true ?_
        refine yS (kg 67 (.load 3 (.tmp 66)) 15 true) rfl rfl (fun w' hS => val_loadOwn (hy.sy hS) (by kernel_rfl) rfl rfl) ?_
        refine iS (e := 3) (kg 68 (.indexAddr 22 (.tmp 65) (.tmp 67)) 15 true) rfl rfl ha rfl (by kernel_rfl) rfl (by omega) (by omega) ?_
        intro b68 o68 h68
        try simp only [Int.toNat_natCast] at h68
        refine lS (kg 69 (.load 3 (.tmp 68)) 15 true) rfl rfl (fun w' hS => h68.sy hS) h68 (by kernel_rfl) rfl rfl ?_
        intro v69 g69
        first | (obtain rfl := rv_nat.1 g69) | (obtain rfl := rv_int.1 g69)
        rw [← g1]
        refine yMg 70 1 15 true ?_
        have h71 := RA.ea hx
        refine yFg 71 45 16 0 0 15 true ?_
        refine lS (kg 72 (.load 3 (.tmp 71)) 15 true) rfl rfl (fun w' hS => h71.sy hS) h71 (by kernel_rfl) rfl rfl ?_
        intro v72 g72
        first | (obtain rfl := rv_nat.1 g72) | (obtain rfl := rv_int.1 g72)
        refine iS (e := 3) (kg 73 (.indexAddr 22 (.tmp 70) (.tmp 72)) 15 true) rfl rfl ha rfl (by kernel_rfl) rfl (by omega) (by omega) ?_
        intro b73 o73 h73
        try simp only [Int.toNat_natCast] at h73
        refine lS (kg 74 (.load 3 (.tmp 73)) 15 true) rfl rfl (fun w' hS => h73.sy hS) h73 (by kernel_rfl) rfl rfl ?_
        intro v74 g74
        first | (obtain rfl := rv_nat.1 g74) | (obtain rfl := rv_int.1 g74)
        rw [← g2]
        refine yV (kg 75 (.binOp .eql 3 (.tmp 69) (.tmp 74) 3) 15 true) (fun _ => val_T (val_eql rfl rfl) hC) ?_
        refine yMg 76 2 15 true ?_
        refine yFg 77 47 19 1 1 15 true ?_
        refine yS (kg 78 (.load 3 (.tmp 77)) 15 true) rfl rfl (fun w' hS => val_loadOwn (hy.sy hS) (by kernel_rfl) rfl rfl) ?_
        refine iS (e := 3) (kg 79 (.indexAddr 22 (.tmp 76) (.tmp 78)) 15 true) rfl rfl hbl rfl (by kernel_rfl) rfl (by omega) (by omega) ?_
        intro b79 o79 h79
        try simp only [Int.toNat_natCast] at h79
        refine lS (kg 80 (.load 3 (.tmp 79)) 15 true) rfl rfl (fun w' hS => h79.sy hS) h79 (by kernel_rfl) rfl rfl ?_
        intro v80 g80
        first | (obtain rfl := rv_nat.1 g80) | (obtain rfl := rv_int.1 g80)
        rw [← g3]
        refine yMg 81 2 15 true ?_
        have h82 := RA.eb hx
        refine yFg 82 45 16 1 1 15 true ?_
        refine lS (kg 83 (.load 3 (.tmp 82)) 15 true) rfl rfl (fun w' hS => h82.sy hS) h82 (by kernel_rfl) rfl rfl ?_
        intro v83 g83
        first | (obtain rfl := rv_nat.1 g83) | (obtain rfl := rv_int.1 g83)
        refine iS (e := 3) (kg 84 (.indexAddr 22 (.tmp 81) (.tmp 83)) 15 true) rfl rfl hbl rfl (by kernel_rfl) rfl (by omega) (by omega) ?_
        intro b84 o84 h84
        try simp only [Int.toNat_natCast] at h84
        refine lS (kg 85 (.load 3 (.tmp 84)) 15 true) rfl rfl (fun w' hS => h84.sy hS) h84 (by kernel_rfl) rfl rfl ?_
        intro v85 g85
        first | (obtain rfl := rv_nat.1 g85) | (obtain rfl := rv_int.1 g85)
        rw [← g4]
        refine yV (kg 86 (.binOp .eql 3 (.tmp 80) (.tmp 85) 3) 15 true) (fun _ => val_F (val_eql rfl rfl) hD) ?_
        refine yV (kg 87 (.binOp .eql 4 (.tmp 75) (.tmp 86) 4) 15 true) (fun _ => val_is (val_eqBl rfl rfl Try.underlying4) (show _ = Value.bool false from congrArg Value.bool (by decide))) ?_
        refine yAt 88 64 87 ?_
        refine yA 17 88 ?_
        refine Sch.nil ?_
        refine run_inBlock ?_
        refine run_pl [yy 0, yy 1] ?_
        refine yV (kq 89 (.binOp .add 3 (.tmp 45) (.const (.int .i64 1)) 3)) (fun _ => val_addi rfl rfl (by omega) (by omega)) ?_
        refine yM 45 89 ?_
        refine Sch.nil ?_
        refine kp (sub_cons 0 rfl rfl (sub_cons 1 rfl rfl (sub_cons 2 rfl rfl (sub_cons 3 rfl rfl (sub_cons 4 rfl rfl (sub_cons 5 rfl rfl (sub_cons 6 rfl rfl (sub_cons 7 rfl rfl (sub_cons 16 rfl rfl (sub_cons 17 rfl (congrArg Value.bool (decide_eq_false (fun e => hD (by have := (hmt.1 e).2.2.2.1 (by omega); omega))).symm) (sub_cons 43 rfl rfl (sub_cons 44 rfl rfl (sub_cons 45 rfl (eq_int (by simp)) (sub_nil _)))))))))))))) (next1 (k + 1, Cw7) _ ⟨(by first | omega | (simp only; omega)), hF, hT, he, ha, hbl, hc, hb, hbb, hbm, hx⟩ (by first | omega | (simp only; omega)))
      ·
       by_cases hD : ((gN bl (cs[k]'hkl).b.toNat : Nat) : Int) = ((gN bl (l[i]'hil).b.toNat : Nat) : Int)
       ·
        refine run_draw (id := 8) (ops := F13.o8) [] (Cw7) [yy 0, yy 1, yy 2, yy 3, yy 4, yy 5, yy 6, yy 7, yy 8, yy 9, yy 10, yy 11, yy 12, yy 13, yy 14, yy 15, yy 16, yy 17, yy 18, yy 19, yy 20, yy 21, yy 22, yy 23, yy 24, yy 25, yy 26, yy 27, yy 28, yy 29, yy 30, yy 31, yy 32, yy 33, yy 34, yy 35, yy 36, yy 37, yy 38, yy 39, yy 40] Try_mixed (by kernel_rfl) (by kernel_rfl) (by kernel_rfl) ?_
        intro w11 hs
        replace hF := hF.st hs
        replace hT := hT.t hs; replace he := he.t hs; replace ha := ha.t hs; replace hbl := hbl.t hs; replace hc := hc.t hs; replace hb := hb.t hs; replace hbb := hbb.t hs; replace hbm := hbm.t hs; replace hx := hx.t hs; replace h47 := h47.t hs; replace hy := hy.t hs
        refine yM 49 17 ?_
        refine yM 50 49 ?_
        refine yFg 51 47 19 0 0 1 true ?_
        refine yS (kg 52 (.load 3 (.tmp 51)) 1 true) rfl rfl (fun w' hS => val_loadOwn (hy.sy hS) (by kernel_rfl) rfl rfl) ?_
        have h53 := RA.ea hx
        refine yFg 53 45 16 0 0 1 true ?_
        refine lS (kg 54 (.load 3 (.tmp 53)) 1 true) rfl rfl (fun w' hS => h53.sy hS) h53 (by kernel_rfl) rfl rfl ?_
        intro v54 g54
        first | (obtain rfl := rv_nat.1 g54) | (obtain rfl := rv_int.1 g54)
        refine yV (kg 55 (.binOp .neq 3 (.tmp 52) (.tmp 54) 3) 1 true) (fun _ => val_T (val_neq rfl rfl) hA) ?_
        refine yAt 56 50 55 ?_
        refine yM 57 56 ?_
        refine yFg 58 47 19 1 1 8 true ?_
        refine yS (kg 59 (.load 3 (.tmp 58)) 8 true) rfl rfl (fun w' hS => val_loadOwn (hy.sy hS) (by kernel_rfl) rfl rfl) ?_
        have h60 := RA.eb hx
        refine yFg 60 45 16 1 1 8 true ?_
        refine lS (kg 61 (.load 3 (.tmp 60)) 8 true) rfl rfl (fun w' hS => h60.sy hS) h60 (by kernel_rfl) rfl rfl ?_
        intro v61 g61
        first | (obtain rfl := rv_nat.1 g61) | (obtain rfl := rv_int.1 g61)
        refine yV (kg 62 (.binOp .neq 3 (.tmp 59) (.tmp 61) 3) 8 true) (fun _ => val_T (val_neq rfl rfl) hB) ?_
        refine yAt 63 57 62 ?_
        refine yM 64 63 ?_
        refine yMg 65 1 15 true ?_
        refine yFg 66 47 19 0 0 15 true ?_
        refine yS (kg 67 (.load 3 (.tmp 66)) 15 true) rfl rfl (fun w' hS => val_loadOwn (hy.sy hS) (by kernel_rfl) rfl rfl) ?_
        refine iS (e := 3) (kg 68 (.indexAddr 22 (.tmp 65) (.tmp 67)) 15 true) rfl rfl ha rfl (by kernel_rfl) rfl (by omega) (by omega) ?_
        intro b68 o68 h68
        try simp only [Int.toNat_natCast] at h68
        refine lS (kg 69 (.load 3 (.tmp 68)) 15 true) rfl rfl (fun w' hS => h68.sy hS) h68 (by kernel_rfl) rfl rfl ?_
        intro v69 g69
        first | (obtain rfl := rv_nat.1 g69) | (obtain rfl := rv_int.1 g69)
        rw [← g1]
        refine yMg 70 1 15 true ?_
        have h71 := RA.ea hx
        refine yFg 71 45 16 0 0 15 true ?_
        refine lS (kg 72 (.load 3 (.tmp 71)) 15 true) rfl rfl (fun w' hS => h71.sy hS) h71 (by kernel_rfl) rfl rfl ?_
        intro v72 g72
        first | (obtain rfl := rv_nat.1 g72) | (obtain rfl := rv_int.1 g72)
        refine iS (e := 3) (kg 73 (.indexAddr 22 (.tmp 70) (.tmp 72)) 15 true) rfl rfl ha rfl (by kernel_rfl) rfl (by omega) (by omega) ?_
        intro b73 o73 h73
        try simp only [Int.toNat_natCast] at h73
        refine lS (kg 74 (.load 3 (.tmp 73)) 15 true) rfl rfl (fun w' hS => h73.sy hS) h73 (by kernel_rfl) rfl rfl ?_
        intro v74 g74
        first | (obtain rfl := rv_nat.1 g74) | (obtain rfl := rv_int.1 g74)
        rw [← g2]
        refine yV (kg 75 (.binOp .eql 3 (.tmp 69) (.tmp 74) 3) 15 true) (fun _ => val_F (val_eql rfl rfl) hC) ?_
        refine yMg 76 2 15 true ?_
        refine yFg 77 47 19 1 1 15 true ?_
        refine yS (kg 78 (.load 3 (.tmp 77)) 15 true) rfl rfl (fun w' hS => val_loadOwn (hy.sy hS) (by kernel_rfl) rfl rfl) ?_
        refine iS (e := 3) (kg 79 (.indexAddr 22 (.tmp 76) (.tmp 78)) 15 true) rfl rfl hbl rfl (by kernel_rfl) rfl (by omega) (by omega) ?_
        intro b79 o79 h79
        try simp only [Int.toNat_natCast] at h79
        refine lS (kg 80 (.load 3 (.tmp 79)) 15 true) rfl rfl (fun w' hS => h79.sy hS) h79 (by kernel_rfl) rfl rfl ?_
        intro v80 g80
        first | (obtain rfl := rv_nat.1 g80) | (obtain rfl := rv_int.1 g80)
        rw [← g3]
        refine yMg 81 2 15 true ?_
        have h82 := RA.eb hx
        refine yFg 82 45 16 1 1 15 true ?_
        refine lS (kg 83 (.load 3 (.tmp 82)) 15 true) rfl rfl (fun w' hS => h82.sy hS) h82 (by kernel_rfl) rfl rfl ?_
        intro v83 g83
        first | (obtain rfl := rv_nat.1 g83) | (obtain rfl := rv_int.1 g83)
        refine iS (e := 3) (kg 84 (.indexAddr 22 (.tmp 81) (.tmp 83)) 15 true) rfl rfl hbl rfl (by kernel_rfl) rfl (by omega) (by omega) ?_
        intro b84 o84 h84
        try simp only [Int.toNat_natCast] at h84
        refine lS (kg 85 (.load 3 (.tmp 84)) 15 true) rfl rfl (fun w' hS => h84.sy hS) h84 (by kernel_rfl) rfl rfl ?_
        intro v85 g85
        first | (obtain rfl := rv_nat.1 g85) | (obtain rfl := rv_int.1 g85)
        rw [← g4]
        refine yV (kg 86 (.binOp .eql 3 (.tmp 80) (.tmp 85) 3) 15 true) (fun _ => val_T (val_eql rfl rfl) hD) ?_
        refine yV (kg 87 (.binOp .eql 4 (.tmp 75) (.tmp 86) 4) 15 true) (fun _ => val_is (val_eqBl rfl rfl Try.underlying4) (show _ = Value.bool false from congrArg Value.bool (by decide))) ?_
        refine yAt 88 64 87 ?_
        refine yA 17 88 ?_
        refine Sch.nil ?_
        refine run_inBlock ?_
        refine run_pl [yy 0, yy 1] ?_
        refine yV (kq 89 (.binOp .add 3 (.tmp 45) (.const (.int .i64 1)) 3)) (fun _ => val_addi rfl rfl (by omega) (by omega)) ?_
        refine yM 45 89 ?_
        refine Sch.nil ?_
        refine kp (sub_cons 0 rfl rfl (sub_cons 1 rfl rfl (sub_cons 2 rfl rfl (sub_cons 3 rfl rfl (sub_cons 4 rfl rfl (sub_cons 5 rfl rfl (sub_cons 6 rfl rfl (sub_cons 7 rfl rfl (sub_cons 16 rfl rfl (sub_cons 17 rfl (congrArg Value.bool (decide_eq_false (fun e => hC (by have := (hmt.1 e).2.2.2.2 (by omega); omega))).symm) (sub_cons 43 rfl rfl (sub_cons 44 rfl rfl (sub_cons 45 rfl (eq_int (by simp)) (sub_nil _)))))))))))))) (next1 (k + 1, Cw7) _ ⟨(by first | omega | (simp only; omega)), hF, hT, he, ha, hbl, hc, hb, hbb, hbm, hx⟩ (by first | omega | (simp only; omega)))
       ·
        refine run_draw (id := 8) (ops := F13.o8) [] (Cw7) [yy 0, yy 1, yy 2, yy 3, yy 4, yy 5, yy 6, yy 7, yy 8, yy 9, yy 10, yy 11, yy 12, yy 13, yy 14, yy 15, yy 16, yy 17, yy 18, yy 19, yy 20, yy 21, yy 22, yy 23, yy 24, yy 25, yy 26, yy 27, yy 28, yy 29, yy 30, yy 31, yy 32, yy 33, yy 34, yy 35, yy 36, yy 37, yy 38, yy 39, yy 40] Try_mixed (by kernel_rfl) (by kernel_rfl) (by kernel_rfl) ?_
        intro w12 hs
        replace hF := hF.st hs
        replace hT := hT.t hs; replace he := he.t hs; replace ha := ha.t hs; replace hbl := hbl.t hs; replace hc := hc.t hs; replace hb := hb.t hs; replace hbb := hbb.t hs; replace hbm := hbm.t hs; replace hx := hx.t hs; replace h47 := h47.t hs; replace hy := hy.t hs
        refine yM 49 17 ?_
        refine yM 50 49 ?_
        refine yFg 51 47 19 0 0 1 true ?_
        refine yS (kg 52 (.load 3 (.tmp 51)) 1 true) rfl rfl (fun w' hS => val_loadOwn (hy.sy hS) (by kernel_rfl) rfl rfl) ?_
        have h53 := RA.ea hx
        refine yFg 53 45 16 0 0 1 true ?_
        refine lS (kg 54 (.load 3 (.tmp 53)) 1 true) rfl rfl (fun w' hS => h53.sy hS) h53 (by kernel_rfl) rfl rfl ?_
        intro v54 g54
        first | (obtain rfl := rv_nat.1 g54) | (obtain rfl := rv_int.1 g54)
        refine yV (kg 55 (.binOp .neq 3 (.tmp 52) (.tmp 54) 3) 1 true) (fun _ => val_T (val_neq rfl rfl) hA) ?_
        refine yAt 56 50 55 ?_
        refine yM 57 56 ?_
        refine yFg 58 47 19 1 1 8 true ?_
        refine yS (kg 59 (.load 3 (.tmp 58)) 8 true) rfl rfl (fun w' hS => val_loadOwn (hy.sy hS) (by kernel_rfl) rfl rfl) ?_
        have h60 := RA.eb hx
        refine yFg 60 45 16 1 1 8 true ?_
        refine lS (kg 61 (.load 3 (.tmp 60)) 8 true) rfl rfl (fun w' hS => h60.sy hS) h60 (by kernel_rfl) rfl rfl ?_
        intro v61 g61
        first | (obtain rfl := rv_nat.1 g61) | (obtain rfl := rv_int.1 g61)
        refine yV (kg 62 (.binOp .neq 3 (.tmp 59) (.tmp 61) 3) 8 true) (fun _ => val_T (val_neq rfl rfl) hB) ?_
        refine yAt 63 57 62 ?_
        refine yM 64 63 ?_
        refine yMg 65 1 15 true ?_
        refine yFg 66 47 19 0 0 15 true ?_
        refine yS (kg 67 (.load 3 (.tmp 66)) 15 true) rfl rfl (fun w' hS => val_loadOwn (hy.sy hS) (by kernel_rfl) rfl rfl) ?_
        refine iS (e := 3) (kg 68 (.indexAddr 22 (.tmp 65) (.tmp 67)) 15 true) rfl rfl ha rfl (by kernel_rfl) rfl (by omega) (by omega) ?_
        intro b68 o68 h68
        try simp only [Int.toNat_natCast] at h68
        refine lS (kg 69 (.load 3 (.tmp 68)) 15 true) rfl rfl (fun w' hS => h68.sy hS) h68 (by kernel_rfl) rfl rfl ?_
        intro v69 g69
        first | (obtain rfl := rv_nat.1 g69) | (obtain rfl := rv_int.1 g69)
        rw [← g1]
        refine yMg 70 1 15 true ?_
        have h71 := RA.ea hx
        refine yFg 71 45 16 0 0 15 true ?_
        refine lS (kg 72 (.load 3 (.tmp 71)) 15 true) rfl rfl (fun w' hS => h71.sy hS) h71 (by kernel_rfl) rfl rfl ?_
        intro v72 g72
        first | (obtain rfl := rv_nat.1 g72) | (obtain rfl := rv_int.1 g72)
        refine iS (e := 3) (kg 73 (.indexAddr 22 (.tmp 70) (.tmp 72)) 15 true) rfl rfl ha rfl (by kernel_rfl) rfl (by omega) (by omega) ?_
        intro b73 o73 h73
        try simp only [Int.toNat_natCast] at h73
        refine lS (kg 74 (.load 3 (.tmp 73)) 15 true) rfl rfl (fun w' hS => h73.sy hS) h73 (by kernel_rfl) rfl rfl ?_
        intro v74 g74
        first | (obtain rfl := rv_nat.1 g74) | (obtain rfl := rv_int.1 g74)
        rw [← g2]
        refine yV (kg 75 (.binOp .eql 3 (.tmp 69) (.tmp 74) 3) 15 true) (fun _ => val_F (val_eql rfl rfl) hC) ?_
        refine yMg 76 2 15 true ?_
        refine yFg 77 47 19 1 1 15 true ?_
        refine yS (kg 78 (.load 3 (.tmp 77)) 15 true) rfl rfl (fun w' hS => val_loadOwn (hy.sy hS) (by kernel_rfl) rfl rfl) ?_
        refine iS (e := 3) (kg 79 (.indexAddr 22 (.tmp 76) (.tmp 78)) 15 true) rfl rfl hbl rfl (by kernel_rfl) rfl (by omega) (by omega) ?_
        intro b79 o79 h79
        try simp only [Int.toNat_natCast] at h79
        refine lS (kg 80 (.load 3 (.tmp 79)) 15 true) rfl rfl (fun w' hS => h79.sy hS) h79 (by kernel_rfl) rfl rfl ?_
        intro v80 g80
        first | (obtain rfl := rv_nat.1 g80) | (obtain rfl := rv_int.1 g80)
        rw [← g3]
        refine yMg 81 2 15 true ?_
        have h82 := RA.eb hx
        refine yFg 82 45 16 1 1 15 true ?_
        refine lS (kg 83 (.load 3 (.tmp 82)) 15 true) rfl rfl (fun w' hS => h82.sy hS) h82 (by kernel_rfl) rfl rfl ?_
        intro v83 g83
        first | (obtain rfl := rv_nat.1 g83) | (obtain rfl := rv_int.1 g83)
        refine iS (e := 3) (kg 84 (.indexAddr 22 (.tmp 81) (.tmp 83)) 15 true) rfl rfl hbl rfl (by kernel_rfl) rfl (by omega) (by omega) ?_
        intro b84 o84 h84
        try simp only [Int.toNat_natCast] at h84
        refine lS (kg 85 (.load 3 (.tmp 84)) 15 true) rfl rfl (fun w' hS => h84.sy hS) h84 (by kernel_rfl) rfl rfl ?_
        intro v85 g85
        first | (obtain rfl := rv_nat.1 g85) | (obtain rfl := rv_int.1 g85)
        rw [← g4]
        refine yV (kg 86 (.binOp .eql 3 (.tmp 80) (.tmp 85) 3) 15 true) (fun _ => val_F (val_eql rfl rfl) hD) ?_
        refine yV (kg 87 (.binOp .eql 4 (.tmp 75) (.tmp 86) 4) 15 true) (fun _ => val_is (val_eqBl rfl rfl Try.underlying4) (show _ = Value.bool true from congrArg Value.bool (by decide))) ?_
        refine yAt 88 64 87 ?_
        refine yA 17 88 ?_
        refine Sch.nil ?_
        refine run_inBlock ?_
        refine run_pl [yy 0, yy 1] ?_
        refine yV (kq 89 (.binOp .add 3 (.tmp 45) (.const (.int .i64 1)) 3)) (fun _ => val_addi rfl rfl (by omega) (by omega)) ?_
        refine yM 45 89 ?_
        refine Sch.nil ?_
        refine kp (sub_cons 0 rfl rfl (sub_cons 1 rfl rfl (sub_cons 2 rfl rfl (sub_cons 3 rfl rfl (sub_cons 4 rfl rfl (sub_cons 5 rfl rfl (sub_cons 6 rfl rfl (sub_cons 7 rfl rfl (sub_cons 16 rfl rfl (sub_cons 17 rfl (congrArg Value.bool (decide_eq_true (hmt.2 ⟨of_decide_eq_true hP, hA, hB, ⟨fun e => absurd e (by omega), fun e => absurd e (by omega)⟩⟩)).symm) (sub_cons 43 rfl rfl (sub_cons 44 rfl rfl (sub_cons 45 rfl (eq_int (by simp)) (sub_nil _)))))))))))))) (next1 (k + 1, Cw7) _ ⟨(by first | omega | (simp only; omega)), hF, hT, he, ha, hbl, hc, hb, hbb, hbm, hx⟩ (by first | omega | (simp only; omega)))
     ·
      refine run_draw (id := 8) (ops := F13.o8) [] (Cw7) [yy 0, yy 1, yy 2, yy 3, yy 4, yy 5, yy 6, yy 7, yy 8, yy 9, yy 10, yy 11, yy 12, yy 13, yy 14, yy 15, yy 16, yy 17, yy 18, yy 19, yy 20, yy 21, yy 22, yy 23, yy 24, yy 25, yy 26, yy 27, yy 28, yy 29, yy 30, yy 31, yy 32, yy 33, yy 34, yy 35, yy 36, yy 37, yy 38, yy 39, yy 40] Try_mixed (by kernel_rfl) (by kernel_rfl) (by kernel_rfl) ?_
      intro w13 hs
      replace hF := hF.st hs
      replace hT := hT.t hs; replace he := he.t hs; replace ha := ha.t hs; replace hbl := hbl.t hs; replace hc := hc.t hs; replace hb := hb.t hs; replace hbb := hbb.t hs; replace hbm := hbm.t hs; replace hx := hx.t hs; replace h47 := h47.t hs; replace hy := hy.t hs
      refine yM 49 17 ?_
      refine yM 50 49 ?_
      refine yFg 51 47 19 0 0 1 true ?_
      refine yS (kg 52 (.load 3 (.tmp 51)) 1 true) rfl rfl (fun w' hS => val_loadOwn (hy.sy hS) (by kernel_rfl) rfl rfl) ?_
      have h53 := RA.ea hx
      refine yFg 53 45 16 0 0 1 true ?_
      refine lS (kg 54 (.load 3 (.tmp 53)) 1 true) rfl rfl (fun w' hS => h53.sy hS) h53 (by kernel_rfl) rfl rfl ?_
      intro v54 g54
      first | (obtain rfl := rv_nat.1 g54) | (obtain rfl := rv_int.1 g54)
      refine yV (kg 55 (.binOp .neq 3 (.tmp 52) (.tmp 54) 3) 1 true) (fun _ => val_T (val_neq rfl rfl) hA) ?_
      refine yAt 56 50 55 ?_
      refine yM 57 56 ?_
      refine yFg 58 47 19 1 1 8 true ?_
      refine yS (kg 59 (.load 3 (.tmp 58)) 8 true) rfl rfl (fun w' hS => val_loadOwn (hy.sy hS) (by kernel_rfl) rfl rfl) ?_
      have h60 := RA.eb hx
      refine yFg 60 45 16 1 1 8 true ?_
      refine lS (kg 61 (.load 3 (.tmp 60)) 8 true) rfl rfl (fun w' hS => h60.sy hS) h60 (by kernel_rfl) rfl rfl ?_
      intro v61 g61
      first | (obtain rfl := rv_nat.1 g61) | (obtain rfl := rv_int.1 g61)
      refine yV (kg 62 (.binOp .neq 3 (.tmp 59) (.tmp 61) 3) 8 true) (fun _ => val_F (val_neq rfl rfl) hB) ?_
      refine yAt 63 57 62 ?_
      refine yM 64 63 ?_
      refine pX 65 15 true ?_
      refine pX 66 15 true ?_
      refine pX 67 15 true ?_
      refine pX 68 15 true ?_
      refine pX 69 15 true ?_
      refine pX 70 15 true ?_
      refine pX 71 15 true ?_
      refine pX 72 15 true ?_
      refine pX 73 15 true ?_
      refine pX 74 15 true ?_
      refine pX 75 15 true ?_
      refine pX 76 15 true ?_
      refine pX 77 15 true ?_
      refine pX 78 15 true ?_
      refine pX 79 15 true ?_
      refine pX 80 15 true ?_
      refine pX 81 15 true ?_
      refine pX 82 15 true ?_
      refine pX 83 15 true ?_
      refine pX 84 15 true ?_
      refine pX 85 15 true ?_
      refine pX 86 15 true ?_
      refine pX 87 15 true ?_
      refine yAf 88 64 87 ?_
      refine yA 17 88 ?_
      refine Sch.nil ?_
      refine run_inBlock ?_
      refine run_pl [yy 0, yy 1] ?_
      refine yV (kq 89 (.binOp .add 3 (.tmp 45) (.const (.int .i64 1)) 3)) (fun _ => val_addi rfl rfl (by omega) (by omega)) ?_
      refine yM 45 89 ?_
      refine Sch.nil ?_
      refine kp (sub_cons 0 rfl rfl (sub_cons 1 rfl rfl (sub_cons 2 rfl rfl (sub_cons 3 rfl rfl (sub_cons 4 rfl rfl (sub_cons 5 rfl rfl (sub_cons 6 rfl rfl (sub_cons 7 rfl rfl (sub_cons 16 rfl rfl (sub_cons 17 rfl (congrArg Value.bool (decide_eq_false (fun e => hB (hmt.1 e).2.2.1)).symm) (sub_cons 43 rfl rfl (sub_cons 44 rfl rfl (sub_cons 45 rfl (eq_int (by simp)) (sub_nil _)))))))))))))) (next1 (k + 1, Cw7) _ ⟨(by first | omega | (simp only; omega)), hF, hT, he, ha, hbl, hc, hb, hbb, hbm, hx⟩ (by first | omega | (simp only; omega)))
    ·
     refine run_draw (id := 8) (ops := F13.o8) [] (Cw7) [yy 0, yy 1, yy 2, yy 3, yy 4, yy 5, yy 6, yy 7, yy 8, yy 9, yy 10, yy 11, yy 12, yy 13, yy 14, yy 15, yy 16, yy 17, yy 18, yy 19, yy 20, yy 21, yy 22, yy 23, yy 24, yy 25, yy 26, yy 27, yy 28, yy 29, yy 30, yy 31, yy 32, yy 33, yy 34, yy 35, yy 36, yy 37, yy 38, yy 39, yy 40] Try_mixed (by kernel_rfl) (by kernel_rfl) (by kernel_rfl) ?_
     intro w14 hs
     replace hF := hF.st hs
     replace hT := hT.t hs; replace he := he.t hs; replace ha := ha.t hs; replace hbl := hbl.t hs; replace hc := hc.t hs; replace hb := hb.t hs; replace hbb := hbb.t hs; replace hbm := hbm.t hs; replace hx := hx.t hs; replace h47 := h47.t hs; replace hy := hy.t hs
     refine yM 49 17 ?_
     refine yM 50 49 ?_
     refine yFg 51 47 19 0 0 1 true ?_
     refine yS (kg 52 (.load 3 (.tmp 51)) 1 true) rfl rfl (fun w' hS => val_loadOwn (hy.sy hS) (by kernel_rfl) rfl rfl) ?_
     have h53 := RA.ea hx
     refine yFg 53 45 16 0 0 1 true ?_
     refine lS (kg 54 (.load 3 (.tmp 53)) 1 true) rfl rfl (fun w' hS => h53.sy hS) h53 (by kernel_rfl) rfl rfl ?_
     intro v54 g54
     first | (obtain rfl := rv_nat.1 g54) | (obtain rfl := rv_int.1 g54)
     refine yV (kg 55 (.binOp .neq 3 (.tmp 52) (.tmp 54) 3) 1 true) (fun _ => val_F (val_neq rfl rfl) hA) ?_
     refine yAt 56 50 55 ?_
     refine yM 57 56 ?_
     refine pX 58 8 true ?_
     refine pX 59 8 true ?_
     refine pX 60 8 true ?_
     refine pX 61 8 true ?_
     refine pX 62 8 true ?_
     refine yAf 63 57 62 ?_
     refine yM 64 63 ?_
     refine pX 65 15 true ?_
     refine pX 66 15 true ?_
     refine pX 67 15 true ?_
     refine pX 68 15 true ?_
     refine pX 69 15 true ?_
     refine pX 70 15 true ?_
     refine pX 71 15 true ?_
     refine pX 72 15 true ?_
     refine pX 73 15 true ?_
     refine pX 74 15 true ?_
     refine pX 75 15 true ?_
     refine pX 76 15 true ?_
     refine pX 77 15 true ?_
     refine pX 78 15 true ?_
     refine pX 79 15 true ?_
     refine pX 80 15 true ?_
     refine pX 81 15 true ?_
     refine pX 82 15 true ?_
     refine pX 83 15 true ?_
     refine pX 84 15 true ?_
     refine pX 85 15 true ?_
     refine pX 86 15 true ?_
     refine pX 87 15 true ?_
     refine yAf 88 64 87 ?_
     refine yA 17 88 ?_
     refine Sch.nil ?_
     refine run_inBlock ?_
     refine run_pl [yy 0, yy 1] ?_
     refine yV (kq 89 (.binOp .add 3 (.tmp 45) (.const (.int .i64 1)) 3)) (fun _ => val_addi rfl rfl (by omega) (by omega)) ?_
     refine yM 45 89 ?_
     refine Sch.nil ?_
     refine kp (sub_cons 0 rfl rfl (sub_cons 1 rfl rfl (sub_cons 2 rfl rfl (sub_cons 3 rfl rfl (sub_cons 4 rfl rfl (sub_cons 5 rfl rfl (sub_cons 6 rfl rfl (sub_cons 7 rfl rfl (sub_cons 16 rfl rfl (sub_cons 17 rfl (congrArg Value.bool (decide_eq_false (fun e => hA (hmt.1 e).2.1)).symm) (sub_cons 43 rfl rfl (sub_cons 44 rfl rfl (sub_cons 45 rfl (eq_int (by simp)) (sub_nil _)))))))))))))) (next1 (k + 1, Cw7) _ ⟨(by first | omega | (simp only; omega)), hF, hT, he, ha, hbl, hc, hb, hbb, hbm, hx⟩ (by first | omega | (simp only; omega)))
   ·
    rw [hP]
    refine run_draw (id := 8) (ops := F13.o8) [] (Cw7) [yy 0, yy 1, yy 2, yy 3, yy 4, yy 5, yy 6, yy 7, yy 8, yy 9, yy 10, yy 11, yy 12, yy 13, yy 14, yy 15, yy 16, yy 17, yy 18, yy 19, yy 20, yy 21, yy 22, yy 23, yy 24, yy 25, yy 26, yy 27, yy 28, yy 29, yy 30, yy 31, yy 32, yy 33, yy 34, yy 35, yy 36, yy 37, yy 38, yy 39, yy 40] Try_mixed (by kernel_rfl) (by kernel_rfl) (by kernel_rfl) ?_
    intro w15 hs
    replace hF := hF.st hs
    replace hT := hT.t hs; replace he := he.t hs; replace ha := ha.t hs; replace hbl := hbl.t hs; replace hc := hc.t hs; replace hb := hb.t hs; replace hbb := hbb.t hs; replace hbm := hbm.t hs; replace hx := hx.t hs; replace h47 := h47.t hs; replace hy := hy.t hs
    refine yM 49 17 ?_
    refine yM 50 49 ?_
    refine pX 51 1 true ?_
    refine pX 52 1 true ?_
    refine pX 53 1 true ?_
    refine pX 54 1 true ?_
    refine pX 55 1 true ?_
    refine yAf 56 50 55 ?_
    refine yM 57 56 ?_
    refine pX 58 8 true ?_
    refine pX 59 8 true ?_
    refine pX 60 8 true ?_
    refine pX 61 8 true ?_
    refine pX 62 8 true ?_
    refine yAf 63 57 62 ?_
    refine yM 64 63 ?_
    refine pX 65 15 true ?_
    refine pX 66 15 true ?_
    refine pX 67 15 true ?_
    refine pX 68 15 true ?_
    refine pX 69 15 true ?_
    refine pX 70 15 true ?_
    refine pX 71 15 true ?_
    refine pX 72 15 true ?_
    refine pX 73 15 true ?_
    refine pX 74 15 true ?_
    refine pX 75 15 true ?_
    refine pX 76 15 true ?_
    refine pX 77 15 true ?_
    refine pX 78 15 true ?_
    refine pX 79 15 true ?_
    refine pX 80 15 true ?_
    refine pX 81 15 true ?_
    refine pX 82 15 true ?_
    refine pX 83 15 true ?_
    refine pX 84 15 true ?_
    refine pX 85 15 true ?_
    refine pX 86 15 true ?_
    refine pX 87 15 true ?_
    refine yAf 88 64 87 ?_
    refine yA 17 88 ?_
    refine Sch.nil ?_
    refine run_inBlock ?_
    refine run_pl [yy 0, yy 1] ?_
    refine yV (kq 89 (.binOp .add 3 (.tmp 45) (.const (.int .i64 1)) 3)) (fun _ => val_addi rfl rfl (by omega) (by omega)) ?_
    refine yM 45 89 ?_
    refine Sch.nil ?_
    refine kp (sub_cons 0 rfl rfl (sub_cons 1 rfl rfl (sub_cons 2 rfl rfl (sub_cons 3 rfl rfl (sub_cons 4 rfl rfl (sub_cons 5 rfl rfl (sub_cons 6 rfl rfl (sub_cons 7 rfl rfl (sub_cons 16 rfl rfl (sub_cons 17 rfl (congrArg Value.bool (decide_eq_false (fun e => of_decide_eq_false hP (hmt.1 e).1)).symm) (sub_cons 43 rfl rfl (sub_cons 44 rfl rfl (sub_cons 45 rfl (eq_int (by simp)) (sub_nil _)))))))))))))) (next1 (k + 1, Cw7) _ ⟨(by first | omega | (simp only; omega)), hF, hT, he, ha, hbl, hc, hb, hbb, hbm, hx⟩ (by first | omega | (simp only; omega)))
  ·
   have hkl : k = cs.length := by omega
   refine run_ex 0 ?_
   refine run_sq ?_
   refine run_sq ?_
   refine run_pl [yy 0] ?_
   rw [hkl, List.take_length]
   refine yM 90 17 ?_
   refine Sch.nil ?_
   refine run_i 90 rfl (fun h90 => ?_) (fun h90 => ?_)
   ·
    refine run_draw (id := 11) (ops := F13.o11) [] (C1) [yy 0, yy 1, yy 2, yy 3, yy 4, yy 5, yy 6, yy 7, yy 8, yy 9, yy 10, yy 11, yy 12, yy 13, yy 14, yy 15, yy 18, yy 19, yy 20, yy 21, yy 22, yy 23, nn 16, nn 17, nn 24] Try_mixed (by kernel_rfl) (by kernel_rfl) (by kernel_rfl) ?_
    intro w16 hs
    replace hF := hF.st hs
    replace hT := hT.t hs; replace he := he.t hs; replace ha := ha.t hs; replace hbl := hbl.t hs; replace hc := hc.t hs; replace hb := hb.t hs; replace hbb := hbb.t hs; replace hbm := hbm.t hs; replace hx := hx.t hs
    have hR := Stp.refl [] w16 (C1)
    refine yM 91 0 ?_
    refine yM 92 1 ?_
    refine yM 93 2 ?_
    refine yM 94 3 ?_
    refine yV (kq 95 (.binOp .add 3 (.tmp 94) (.const (.int .i64 1)) 3)) (fun _ => val_addi rfl rfl (by omega) (by omega)) ?_
    rw [show (i : Int) + 1 = ((i + 1 : Nat) : Int) from by omega]
    refine yM 96 4 ?_
    refine yM 97 4 ?_
    refine yS (kq 98 (.call { callee := .builtin .len, args := #[(.tmp 97)], argTypes := #[31] })) rfl rfl (fun w' hS => hc.lenV rfl Try.underlying31 w' ) ?_
    refine yM 99 4 ?_
    refine yS (kq 100 (.call { callee := .builtin .len, args := #[(.tmp 99)], argTypes := #[31] })) rfl rfl (fun w' hS => hc.lenV rfl Try.underlying31 w' ) ?_
    refine sFull (e' := 47) (kq 101 (.slice 31 (.tmp 96) none (some (.tmp 98)) (some (.tmp 100)))) rfl rfl hc rfl (by kernel_rfl) rfl rfl ?_
    intro a101 c101 e101 h101
    have h102 := RA.ea hx
    refine yF 102 45 16 0 0 ?_
    refine lS (kq 103 (.load 3 (.tmp 102))) rfl rfl (fun w' hS => h102.sy hS) h102 (by kernel_rfl) rfl rfl ?_
    intro v103 g103
    first | (obtain rfl := rv_nat.1 g103) | (obtain rfl := rv_int.1 g103)
    have h104 := RA.eb hx
    refine yF 104 45 16 1 1 ?_
    refine lS (kq 105 (.load 3 (.tmp 104))) rfl rfl (fun w' hS => h104.sy hS) h104 (by kernel_rfl) rfl rfl ?_
    intro v105 g105
    first | (obtain rfl := rv_nat.1 g105) | (obtain rfl := rv_int.1 g105)
    refine yV (kq 106 (.build 47 #[(0, (.tmp 103)), (1, (.tmp 105))])) (fun _ => val_build (zs := [.int .i64 0, .int .i64 0]) (ps := [(0, 1), (1, 1)]) (qs := [(0, [.int .i64 (l[i]'hil).a]), (1, [.int .i64 (l[i]'hil).b])]) (cs := [.int .i64 (l[i]'hil).a, .int .i64 (l[i]'hil).b]) (by kernel_rfl) (by kernel_rfl) (by exact ⟨rfl, ⟨_, rfl, rfl⟩, rfl, ⟨_, rfl, rfl⟩, trivial⟩) rfl) ?_
    refine yM 109 5 ?_
    have h110 := RA.ew hx
    refine yF 110 45 16 2 2 ?_
    refine lS (kq 111 (.load 3 (.tmp 110))) rfl rfl (fun w' hS => h110.sy hS) h110 (by kernel_rfl) rfl rfl ?_
    intro v111 g111
    first | (obtain rfl := rv_nat.1 g111) | (obtain rfl := rv_int.1 g111)
    refine yV (kq 112 (.binOp .add 3 (.tmp 109) (.tmp 111) 3)) (fun _ => val_addi rfl rfl (by omega) (by omega)) ?_
    refine yM 113 6 ?_
    refine yM 114 7 ?_
    refine aS (kq 107 (.buildSlice 31 1 #[(0, (.tmp 106))])) rfl rfl (a_buildSlice (ys := ([(l[i]'hil).k] : List Couple)) (e := 47) (bytes := 16) hF (by kernel_rfl) rfl (by decide) (by decide) ⟨rfl, ⟨_, rfl, rv_couple.2 rfl⟩, trivial⟩) ?_
    rintro v107 w17 ⟨hs, g107, hF⟩
    refine ⟨(hR.trans hs (by simp)).ext, ?_⟩
    replace hT := hT.t hs; replace he := he.t hs; replace ha := ha.t hs; replace hbl := hbl.t hs; replace hc := hc.t hs; replace hb := hb.t hs; replace hbb := hbb.t hs; replace hbm := hbm.t hs; replace hx := hx.t hs; replace hR := hR.t hs; replace h101 := h101.t hs; replace h102 := h102.t hs; replace h104 := h104.t hs; replace h110 := h110.t hs
    refine aS (kq 108 (.call { callee := .builtin .append, args := #[(.tmp 101), (.tmp 107)], argTypes := #[31, 31] })) rfl rfl (a_appendR (j := 7) (e := 47) (bytes := 16) hF (by decide) rfl rfl (by kernel_rfl) (by decide) h101 g107 (by simp) (by simp only [List.length_append, List.length_cons, List.length_nil]; omega) (by simp only [List.length_append, List.length_cons, List.length_nil]; omega)) ?_
    rintro v108 w18 ⟨Cw18, hs, hn, hF⟩
    refine ⟨(hR.trans hs (by simp)).ext, ?_⟩
    replace hT := hT.t hs; replace he := he.t hs; replace ha := ha.t hs; replace hbl := hbl.t hs; replace hc := hc.t hs; replace hb := hb.t hs; replace hbb := hbb.t hs; replace hbm := hbm.t hs; replace hx := hx.t hs; replace hR := hR.t hs; replace h101 := h101.t hs; replace h102 := h102.t hs; replace h104 := h104.t hs; replace h110 := h110.t hs; replace g107 := g107.t hs
    clear h101 g107
    refine Sch.free rfl ?_
    have hnl : (cs ++ [(l[i]'hil).k]).length ≤ i + 1 := (by simp only [List.length_append, List.length_cons, List.length_nil]; omega)
    have hwp := h90.1
    have hcr2 : ∀ c ∈ cs ++ [(l[i]'hil).k], 0 ≤ c.a ∧ c.a < al.length ∧ 0 ≤ c.b ∧ c.b < bl.length := fun c hc2 => by
      rcases List.mem_append.1 hc2 with h2 | h2
      · exact hcr c h2
      · rw [List.mem_singleton] at h2; subst h2; unfold Edge.k; simp only; omega
    replace hF := hF.frz 7
    replace hT := hT.frz (n := 7) (fun b => by first | exact colE_lt7 C b | exact frz_lt (by decide) _ b)
    replace he := he.frz 7
    replace ha := ha.frz 7
    replace hbl := hbl.frz 7
    replace hc := hc.frz 7
    replace hb := hb.frz 7
    replace hbb := hbb.frz (n := 7) (by decide)
    replace hbm := hbm.frz (n := 7) (by decide)
    replace hx := hx.frz 7
    replace h102 := h102.frz 7
    replace h104 := h104.frz 7
    replace h110 := h110.frz 7
    have hn_ := hn.frz (n := 7) (by decide) (by omega)
    replace hn := hn_
    clear hn_
    refine cS (kq 115 (.call { callee := .value (.func 13), args := #[(.tmp 91), (.tmp 92), (.tmp 93), (.tmp 95), (.tmp 108), (.tmp 112), (.tmp 113), (.tmp 114)], argTypes := #[29, 22, 22, 3, 31, 3, 33, 34] })) rfl rfl (ent Try.call13 rfl) (IH _ _ _ _ _ _ _ _ (by omega) hF he ha hbl hn hb hbb hbm (by omega) hnl (fun e => by simp at e) (by omega) (by omega) hcr2) ?_
    rintro vw19 w19 ⟨B1, vb1, hB1, rfl, hs, hb, hbb, hbm⟩
    refine ⟨trivial, ?_⟩
    replace hF := hF.st hs
    replace hT := hT.t hs; replace he := he.t hs; replace ha := ha.t hs; replace hbl := hbl.t hs; replace hc := hc.t hs; replace hx := hx.t hs; replace h102 := h102.t hs; replace h104 := h104.t hs; replace h110 := h110.t hs; replace hn := hn.t hs
    refine Sch.nil ?_
    refine run_pl [yy 0, yy 1, yy 2, yy 3, yy 4, yy 5, yy 6, yy 7, yy 8, nn 9] ?_
    refine yM 116 0 ?_
    refine yM 117 1 ?_
    refine yM 118 2 ?_
    refine yM 119 3 ?_
    refine yV (kq 120 (.binOp .add 3 (.tmp 119) (.const (.int .i64 1)) 3)) (fun _ => val_addi rfl rfl (by omega) (by omega)) ?_
    rw [show (i : Int) + 1 = ((i + 1 : Nat) : Int) from by omega]
    refine yM 121 4 ?_
    refine yM 122 5 ?_
    refine yM 123 6 ?_
    refine yM 124 7 ?_
    refine cS (kq 125 (.call { callee := .value (.func 13), args := #[(.tmp 116), (.tmp 117), (.tmp 118), (.tmp 120), (.tmp 121), (.tmp 122), (.tmp 123), (.tmp 124)], argTypes := #[29, 22, 22, 3, 31, 3, 33, 34] })) rfl rfl (ent Try.call13 rfl) (IH _ _ _ _ _ _ _ _ (by omega) hF he ha hbl hc hb hbb hbm (by omega) (by omega) hnil (by omega) (by omega) hcr) ?_
    rintro vw20 w20 ⟨B2, vb2, hB2, rfl, hs, hb, hbb, hbm⟩
    refine ⟨trivial, ?_⟩
    replace hF := hF.st hs
    replace hT := hT.t hs; replace he := he.t hs; replace ha := ha.t hs; replace hbl := hbl.t hs; replace hc := hc.t hs; replace hx := hx.t hs; replace h102 := h102.t hs; replace h104 := h104.t hs; replace h110 := h110.t hs; replace hn := hn.t hs
    refine Sch.nil ?_
    refine run_end0 Try.func13 rfl ?_
    refine ⟨B2, _, ?_, rfl, hT.outJ (by decide), (hb.out hT hF0 (Mc_colE C)), hbb.back hbb0, hbm.back hbm0⟩
    rw [hdr]; unfold evH; rw [hB2]; congr 1
    rw [if_pos h90, hB1]
   ·
    refine run_sk ?_
    refine run_pl [yy 0, yy 1, yy 2, yy 3, yy 4, yy 5, yy 6, yy 7, yy 8, nn 9] ?_
    refine yM 116 0 ?_
    refine yM 117 1 ?_
    refine yM 118 2 ?_
    refine yM 119 3 ?_
    refine yV (kq 120 (.binOp .add 3 (.tmp 119) (.const (.int .i64 1)) 3)) (fun _ => val_addi rfl rfl (by omega) (by omega)) ?_
    rw [show (i : Int) + 1 = ((i + 1 : Nat) : Int) from by omega]
    refine yM 121 4 ?_
    refine yM 122 5 ?_
    refine yM 123 6 ?_
    refine yM 124 7 ?_
    refine cS (kq 125 (.call { callee := .value (.func 13), args := #[(.tmp 116), (.tmp 117), (.tmp 118), (.tmp 120), (.tmp 121), (.tmp 122), (.tmp 123), (.tmp 124)], argTypes := #[29, 22, 22, 3, 31, 3, 33, 34] })) rfl rfl (ent Try.call13 rfl) (IH _ _ _ _ _ _ _ _ (by omega) hF he ha hbl hc hb hbb hbm (by omega) (by omega) hnil (by omega) (by omega) hcr) ?_
    rintro vw21 w21 ⟨B2, vb2, hB2, rfl, hs, hb, hbb, hbm⟩
    refine ⟨trivial, ?_⟩
    replace hF := hF.st hs
    replace hT := hT.t hs; replace he := he.t hs; replace ha := ha.t hs; replace hbl := hbl.t hs; replace hc := hc.t hs; replace hx := hx.t hs
    refine Sch.nil ?_
    refine run_end0 Try.func13 rfl ?_
    refine ⟨B2, _, ?_, rfl, hT.outJ (by decide), (hb.out hT hF0 (Mc_colE C)), hbb.back hbb0, hbm.back hbm0⟩
    rw [hdr]; unfold evH; rw [hB2]; congr 1
    rw [if_neg h90]
theorem every_all {N M : Nat} {l : List K.Edge} {al bl : List Nat} {vl va vbl : Value} {bb bm : Nat} (hV : VE N M l) (hH : HH N M al bl) (d : Nat) : ∀ (w₀ : World) (C : Nat → Nat) (i : Nat) (cs : List Couple) (t : Int) (b : List Couple × Int) (vc vb : Value), l.length - i < d → Lim w₀ C → RV w₀ (Mc C) l vl → RV w₀ (Mc C) al va → RV w₀ (Mc C) bl vbl → RV w₀ (Mc C) cs vc → RV w₀ (Mc C) b.1 vb → OwnB w₀ C 5 bb (.cells [vb].toArray 31) → OwnB w₀ C 6 bm (.cells [.int .i64 b.2].toArray 3) → i ≤ l.length → cs.length ≤ i → (cs = [] → vc = .slice none 0 0) → 0 ≤ t → t ≤ 65536 * i → (∀ c ∈ cs, 0 ≤ c.a ∧ c.a < al.length ∧ 0 ≤ c.b ∧ c.b < bl.length) → Calls Try.prog 13 #[vl, va, vbl, .int .i64 i, vc, .int .i64 t, .pointer (some ⟨bb, 0, none⟩), .pointer (some ⟨bm, 0, none⟩)] w₀ (Ret fun v w' => ∃ (B : List Couple × Int) (vb' : Value), B = evH al bl (l.drop i) cs t b ∧ v = .tuple #[] ∧ Stp [5, 6] w₀ C w' C ∧ RV w' (Mc C) B.1 vb' ∧ OwnB w' C 5 bb (.cells [vb'].toArray 31) ∧ OwnB w' C 6 bm (.cells [.int .i64 B.2].toArray 3)) := by
  induction d with
  | zero => intro w₀ C i cs t b vc vb h; omega
  | succ d ih => intro w₀ C i cs t b vc vb h hF he ha hbl hc hb hbb hbm hi hcl hnil ht0 ht1 hcr; exact every_step hV hH ih (by omega) hF he ha hbl hc hb hbb hbm hi hcl hnil ht0 ht1 hcr
/-- 'every'. -/
theorem every_ok {N M : Nat} {l : List K.Edge} {al bl : List Nat} {vl va vbl : Value} {bb bm : Nat} {w₀ : World} {C : Nat → Nat} {i : Nat} {cs : List Couple} {t : Int} {b : List Couple × Int} {vc vb : Value} (hV : VE N M l) (hH : HH N M al bl) (hF : Lim w₀ C) (he : RV w₀ (Mc C) l vl) (ha : RV w₀ (Mc C) al va) (hbl : RV w₀ (Mc C) bl vbl) (hc : RV w₀ (Mc C) cs vc) (hb : RV w₀ (Mc C) b.1 vb) (hbb : OwnB w₀ C 5 bb (.cells [vb].toArray 31)) (hbm : OwnB w₀ C 6 bm (.cells [.int .i64 b.2].toArray 3)) (hi : i ≤ l.length) (hcl : cs.length ≤ i) (hnil : cs = [] → vc = .slice none 0 0) (ht0 : 0 ≤ t) (ht1 : t ≤ 65536 * i) (hcr : ∀ c ∈ cs, 0 ≤ c.a ∧ c.a < al.length ∧ 0 ≤ c.b ∧ c.b < bl.length) : Calls Try.prog 13 #[vl, va, vbl, .int .i64 i, vc, .int .i64 t, .pointer (some ⟨bb, 0, none⟩), .pointer (some ⟨bm, 0, none⟩)] w₀ (Ret fun v w' => ∃ (B : List Couple × Int) (vb' : Value), B = evH al bl (l.drop i) cs t b ∧ v = .tuple #[] ∧ Stp [5, 6] w₀ C w' C ∧ RV w' (Mc C) B.1 vb' ∧ OwnB w' C 5 bb (.cells [vb'].toArray 31) ∧ OwnB w' C 6 bm (.cells [.int .i64 B.2].toArray 3)) :=
  every_all hV hH _ w₀ C i cs t b vc vb (Nat.lt_succ_self _) hF he ha hbl hc hb hbb hbm hi hcl hnil ht0 ht1 hcr
end Go.Proofs.Ytognfmeffnjijaa
