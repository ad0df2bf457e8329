/- Steps through functions of the program. -/
import Derived.Test.YtognfmeffnjijaaJH2
import Derived.Test.YtognfmeffnjijaaJT4
import Derived.Test.YtognfmeffnjijaaL2
set_option linter.unusedVariables false
set_option linter.unusedSimpArgs false
set_option maxRecDepth 100000
set_option maxHeartbeats 4000000
namespace Go.Proofs.Ytognfmeffnjijaa
open Go.K Go.K.Rep

namespace F37
noncomputable def c0 := bodyOf Try.f37
noncomputable def o1 := rops (cl (cr c0))
end F37
theorem blkA {w : World} {M : Nat → Prop} {A B : List Nat} {s : Sv} {b o : Nat} (h : RA w M ((A, B, s) : List Nat × List Nat × Sv) b o) : RA w M A b o := RA.fst h
theorem blkB {w : World} {M : Nat → Prop} {A B : List Nat} {s : Sv} {b o : Nat} (h : RA w M ((A, B, s) : List Nat × List Nat × Sv) b o) : RA w M B b (o + 1) := RA.fst (RA.snd h)
theorem bweight_ok {w₀ : World} {C : Nat → Nat} {um : List (Couple × Int)} {bm b2 b3 bx : Nat} {A B : List Nat} {s : Sv} {i j : Nat} (hF : Lim w₀ C) (h2 : RA w₀ (Mc C) (⟨.map (some bm)⟩ : Sv) b2 0) (hm : RM w₀ (Mc C) kvC kvI um (.map (some bm)))
    (h3 : RA w₀ (Mc C) (⟨.pointer (some ⟨bx, 0, none⟩)⟩ : Sv) b3 0) (hx : RA w₀ (Mc C) ((A, B, s) : List Nat × List Nat × Sv) bx 0) (hi : i < A.length) (hj : j < B.length) :
    Calls Try.prog 37 #[.int .i64 i, .int .i64 j, .pointer (some ⟨b2, 0, none⟩), .pointer (some ⟨b3, 0, none⟩)] w₀ (Ret fun v w' => v = .int .i64 ((mget um ⟨(gN A i : Nat), (gN B j : Nat)⟩).getD 0) ∧ Stp [] w₀ C w' C) := by
 have hF0 := hF
 have hT := Stp.refl [2, 3, 4, 5, 6, 7, 8, 9] w₀ (col1 C)
 replace hF := hF.col1
 replace h2 := (show RA w₀ (Mc (col1 C)) _ _ _ from by rw [Mc_col1]; exact h2)
 replace h3 := (show RA w₀ (Mc (col1 C)) _ _ _ from by rw [Mc_col1]; exact h3)
 replace hx := (show RA w₀ (Mc (col1 C)) _ _ _ from by rw [Mc_col1]; exact hx)
 replace hm := (show RM w₀ (Mc (col1 C)) _ _ _ _ from by rw [Mc_col1]; exact hm)
 refine calls_start (c := F37.c0) (N := 24) [.int .i64 i, .int .i64 j, .pointer (some ⟨b2, 0, none⟩), .pointer (some ⟨b3, 0, none⟩)] Try.func37 (by kernel_rfl) (by kernel_rfl) (by kernel_rfl) ?_
 show Run _ _ _ _ [(0, .int .i64 i), (1, .int .i64 j), (2, .pointer (some ⟨b2, 0, none⟩)), (3, .pointer (some ⟨b3, 0, none⟩))] _ _
 refine run_sq ?_
 refine run_pl [yy 0] ?_
 refine yAc 6 (.int .i64 0) ?_
 refine Sch.nil ?_
 refine run_sq ?_
 refine run_draw (id := 1) (ops := F37.o1) [] (col1 C) [yy 0, yy 1, yy 2, yy 3, yy 4, yy 5, yy 6, yy 7, yy 8, yy 9, yy 10, yy 11, yy 12, yy 13, yy 14, yy 15, nn 16, yy 17] Try_mixed (by kernel_rfl) (by kernel_rfl) (by kernel_rfl) ?_
 intro w1 hs
 replace hF := hF.st hs
 replace hT := hT.t hs; replace h2 := h2.t hs; replace h3 := h3.t hs; replace hx := hx.t hs; replace hm := hm.t hs
 have hR := Stp.refl [] w1 (col1 C)
 refine lS (kq 7 (.load 84 (.tmp 2))) rfl rfl (fun w' hS => h2.sy hS) h2 (by kernel_rfl) rfl rfl ?_
 intro v7 g7
 obtain ⟨e7, _⟩ := rv_sv.1 g7
 subst e7
 refine lS (kq 8 (.load 65 (.tmp 3))) rfl rfl (fun w' hS => h3.sy hS) h3 (by kernel_rfl) rfl rfl ?_
 intro v8 g8
 obtain ⟨e8, _⟩ := rv_sv.1 g8
 subst e8
 refine yN 9 8 ?_
 have h10 := blkA hx
 refine yF 10 72 9 0 0 ?_
 refine lS (kq 11 (.load 22 (.tmp 10))) rfl rfl (fun w' hS => h10.sy hS) h10 (by kernel_rfl) rfl rfl ?_
 intro v11 g11
 refine yM 12 0 ?_
 refine iS (e := 3) (kq 13 (.indexAddr 22 (.tmp 11) (.tmp 12))) rfl rfl g11 rfl (by kernel_rfl) rfl (by omega) (by omega) ?_
 intro b13 o13 h13
 try simp only [Int.toNat_natCast] at h13
 refine lS (kq 14 (.load 3 (.tmp 13))) rfl rfl (fun w' hS => h13.sy hS) h13 (by kernel_rfl) rfl rfl ?_
 intro v14 g14
 first | (obtain rfl := rv_nat.1 g14) | (obtain rfl := rv_int.1 g14)
 rw [← show gN A i = A[i]'hi from getD_in hi]
 refine lS (kq 15 (.load 65 (.tmp 3))) rfl rfl (fun w' hS => h3.sy hS) h3 (by kernel_rfl) rfl rfl ?_
 intro v15 g15
 obtain ⟨e15, _⟩ := rv_sv.1 g15
 subst e15
 refine yN 16 15 ?_
 have h17 := blkB hx
 refine yF 17 72 16 1 1 ?_
 refine lS (kq 18 (.load 22 (.tmp 17))) rfl rfl (fun w' hS => h17.sy hS) h17 (by kernel_rfl) rfl rfl ?_
 intro v18 g18
 refine yM 19 1 ?_
 refine iS (e := 3) (kq 20 (.indexAddr 22 (.tmp 18) (.tmp 19))) rfl rfl g18 rfl (by kernel_rfl) rfl (by omega) (by omega) ?_
 intro b20 o20 h20
 try simp only [Int.toNat_natCast] at h20
 refine lS (kq 21 (.load 3 (.tmp 20))) rfl rfl (fun w' hS => h20.sy hS) h20 (by kernel_rfl) rfl rfl ?_
 intro v21 g21
 first | (obtain rfl := rv_nat.1 g21) | (obtain rfl := rv_int.1 g21)
 rw [← show gN B j = B[j]'hj from getD_in hj]
 refine yV (kq 22 (.build 85 #[(0, (.tmp 14)), (1, (.tmp 21))])) (fun _ => val_buildArr (zs := [.int .i64 0, .int .i64 0]) (cs := [.int .i64 (gN A i : Nat), .int .i64 (gN B j : Nat)]) (qs := [(0, [.int .i64 (gN A i : Nat)]), (1, [.int .i64 (gN B j : Nat)])]) Try.underlying85 (by kernel_rfl) (by kernel_rfl) (by kernel_rfl) (by exact ⟨rfl, ⟨_, rfl, rfl⟩, rfl, ⟨_, rfl, rfl⟩, trivial⟩) rfl) ?_
 refine nS (kq 23 (.lookup 84 (.tmp 7) (.tmp 22) false)) rfl rfl hR.ext (hm.lookup (z0 := (0 : Int)) (k := (⟨(gN A i : Nat), (gN B j : Nat)⟩ : Couple)) Try.underlying84 (keyOK_arr Try.underlying85 Try.underlying3 (by kernel_rfl) (by kernel_rfl)) Try.zeroValue3 rfl rfl) ?_
 refine yA 6 23 ?_
 refine Sch.nil ?_
 refine run_ret1 (by kernel_rfl) Try.func37 Try.results37 rfl ?_
 exact ⟨rfl, hT.out1 (by decide)⟩
namespace F23
noncomputable def c0 := bodyOf Try.f23
noncomputable def c8 := (cl (cl (cr (cr (cr c0)))))
noncomputable def c9 := (cr (cl (cr (cr (cr c0)))))
noncomputable def c18 := (cl (cr (cr (cl (cl c9)))))
noncomputable def c25 := (cl (cl (cr (cr (cl c18)))))
noncomputable def c26 := (cr (cl (cr (cr (cl c18)))))
noncomputable def o8 := rops c26
noncomputable def c28 := (cr (cr (cr (cl (cl c9)))))
noncomputable def c30 := (cl (cr (cr (cr (cr c0)))))
noncomputable def c37 := (cl (cr (cl (cl (cr c30)))))
noncomputable def c40 := (cr (cr (cl (cl (cr c30)))))
noncomputable def o13 := rops (cl (cr (cl c40)))
noncomputable def o14 := rops (cl (cr (cr (cl c40))))
noncomputable def c48 := (cr (cr (cr (cr (cr c0)))))
end F23
/-- 'blocks'. -/
theorem blocks_ok {w₀ : World} {C : Nat → Nat} {n m : Nat} {l : List K.Edge} {al bl : List Nat} {va vb vl : Value} (hF : Lim w₀ C) (hV : VE n m l) (hH : HH n m al bl) (ha : RV w₀ (Mc C) al va) (hb : RV w₀ (Mc C) bl vb) (hl : RV w₀ (Mc C) l vl) :
    Calls Try.prog 23 #[va, vb, vl] w₀ (Ret fun v w' => ∃ (bm : Nat) (mm : List (Couple × Option Nat)), v = .map (some bm) ∧ Stp [] w₀ C w' C ∧ RM w' (Mc C) kvC vvP mm (.map (some bm)) ∧ BlkM w' C n m (pos (edW l)) (gN al) (gN bl) mm) := by
 have hF0 := hF
 have hT := Stp.refl [2, 3, 4, 5, 6, 7, 8, 9] w₀ (col1 C)
 replace hF := hF.col1
 replace ha : RV w₀ (Mc (col1 C)) al va := by rw [Mc_col1]; exact ha
 replace hb : RV w₀ (Mc (col1 C)) bl vb := by rw [Mc_col1]; exact hb
 replace hl : RV w₀ (Mc (col1 C)) l vl := by rw [Mc_col1]; exact hl
 refine calls_start (c := F23.c0) (N := 80) [va, vb, vl] Try.func23 (by kernel_rfl) (by kernel_rfl) (by kernel_rfl) ?_
 show Run _ _ _ _ [(0, va), (1, vb), (2, vl)] _ _
 refine run_sq ?_
 refine run_pl [yy 0] ?_
 refine yV (kq 6 (.assign (.const (.map none)))) (fun _ => val_assign rfl) ?_
 refine Sch.nil ?_
 refine run_sq ?_
 refine run_pl [nn 0, nn 1, nn 2] ?_
 refine aS (kq 13 (.makeMap 84 none)) rfl rfl (a_makeMap hF 6 kvC kvI) ?_
 rintro _ whwm ⟨Chwm, bwm, rfl, hs, hwm, hF⟩
 refine ⟨trivial, ?_⟩
 replace hT := hT.t hs; replace ha := ha.t hs; replace hb := hb.t hs; replace hl := hl.t hs
 refine aS (kq 7 (.alloc 84)) rfl rfl (a_alloc (cs := [.map none]) hF 7 (by kernel_rfl)) ?_
 rintro _ w1 ⟨Cw1, bw1, rfl, hs, hb7, hF⟩
 refine ⟨trivial, ?_⟩
 replace hT := hT.t hs; replace ha := ha.t hs; replace hb := hb.t hs; replace hl := hl.t hs; replace hwm := hwm.t hs
 refine aN (k0 (.store 84 (.tmp 7) (.tmp 13))) rfl (a_storeAll (vs := [.map (some bwm)]) (n := 1) rfl rfl (by kernel_rfl) rfl rfl (by intro u hu2; rw [List.mem_singleton.1 hu2]; rfl) hb7 rfl) ?_
 rintro _ w2 ⟨rfl, hs, hb7⟩
 refine ⟨trivial, ?_⟩
 replace hF := hF.st hs
 replace hT := hT.t hs; replace ha := ha.t hs; replace hb := hb.t hs; replace hl := hl.t hs; replace hwm := hwm.t hs
 refine Sch.nil ?_
 refine run_sq ?_
 refine run_pl [nn 0, yy 1] ?_
 refine aS (kq 14 (.makeMap 57 none)) rfl rfl (a_makeMap hF 3 kvC vvP) ?_
 rintro _ whom ⟨Chom, bo, rfl, hs, hom, hF⟩
 refine ⟨trivial, ?_⟩
 replace hT := hT.t hs; replace ha := ha.t hs; replace hb := hb.t hs; replace hl := hl.t hs; replace hwm := hwm.t hs; replace hb7 := hb7.t hs
 refine yA 8 14 ?_
 refine Sch.nil ?_
 refine run_sq ?_
 refine run_sq ?_
 refine run_pl [yy 0, yy 1, yy 2] ?_
 refine yM 15 2 ?_
 refine yS (kq 16 (.call { callee := .builtin .len, args := #[(.tmp 15)], argTypes := #[29] })) rfl rfl (fun w' hS => hl.lenV rfl Try.underlying29 w' ) ?_
 refine yV (kq 17 (.move (.const (.int .i64 0)))) (fun _ => val_move rfl) ?_
 refine Sch.nil ?_
 refine run_bk 0 ?_
 
 refine run_lp (ι := Nat × (List (Couple × Option Nat)) × (Nat → Nat)) (I := fun x w => x.1 ≤ l.length ∧ KeyJ (l.take x.1) al bl x.2.1 ∧ Lim w x.2.2 ∧ Stp [2, 3, 4, 5, 6, 7, 8, 9] w₀ (col1 C) w x.2.2 ∧ RV w (Mc x.2.2) al va ∧ RV w (Mc x.2.2) bl vb ∧ RV w (Mc x.2.2) l vl ∧ OwnM w x.2.2 6 bwm kvC kvI (edM ((l.take x.1).filter (fun x => decide (0 < x.w)))) ∧ OwnB w x.2.2 7 bw1 (.cells [.map (some bwm)].toArray 84) ∧ OwnM w x.2.2 3 bo kvC vvP x.2.1) (e := fun x => [(0, va), (1, vb), (7, .pointer (some ⟨bw1, 0, none⟩)), (8, .map (some bo)), (15, vl), (16, .int .i64 l.length), (17, .int .i64 x.1)]) (m := fun x => l.length - x.1) (x₀ := (0, [], Chom)) (sr 0 (sr 1 (sr 7 (sr 8 (sr 15 (sr 16 (sr 17 (sub_nil _)))))))) ?_ ?_
 · exact ⟨Nat.zero_le _, KeyJ.start, hF, hT, ha, hb, hl, hwm, hb7, hom⟩
 intro ⟨i, mm, C1⟩ w3 hI next
 obtain ⟨hi, hK, hF, hT, ha, hb, hl, hwm, hb7, hom⟩ := hI
 try simp only at hi hK hF hT ha hb hl hwm hb7 hom
 have next1 := next
 clear next
 show Run _ _ _ _ [(0, va), (1, vb), (7, .pointer (some ⟨bw1, 0, none⟩)), (8, .map (some bo)), (15, vl), (16, .int .i64 l.length), (17, .int .i64 i)] _ _
 have hle := hl.le
 refine run_sq ?_
 refine run_pl [yy 0] ?_
 refine yV (kq 18 (.binOp .lss 3 (.tmp 17) (.tmp 16) 3)) (fun _ => val_lss rfl rfl) ?_
 refine Sch.nil ?_
 refine run_sq ?_
 refine run_i 18 rfl (fun h18 => ?_) (fun h18 => ?_)
 ·
  have hil : i < l.length := by omega
  have hxo := hV.ok _ (List.getElem_mem hil)
  unfold okE at hxo
  have hla := hH.la
  have hlb := hH.lb
  have hga : gN al (l[i]'hil).a.toNat = al[(l[i]'hil).a.toNat]'(by omega) := getD_in _
  have hgb : gN bl (l[i]'hil).b.toNat = bl[(l[i]'hil).b.toNat]'(by omega) := getD_in _
  refine run_sk ?_
  refine run_sq ?_
  refine run_bk 1 ?_
  refine run_sq ?_
  refine run_pl [yy 0, nn 1, nn 2, nn 3] ?_
  refine iS (e := 45) (kq 19 (.indexAddr 29 (.tmp 15) (.tmp 17))) rfl rfl hl rfl (by kernel_rfl) rfl (by omega) (by omega) ?_
  intro b19 o19 h19
  try simp only [Int.toNat_natCast] at h19
  refine lNA (kq 20 (.load 45 (.tmp 19))) rfl rfl trivial h19 (by kernel_rfl) (by kernel_rfl) rfl rfl ?_
  intro v20 g20
  obtain rfl := rv_edge.1 g20
  refine aS (kq 10 (.alloc 45)) rfl rfl (a_alloc (cs := [.int .i64 0, .int .i64 0, .int .i64 0]) hF 8 (by kernel_rfl)) ?_
  rintro _ w4 ⟨Cw4, bw4, rfl, hs, hx, hF⟩
  refine ⟨trivial, ?_⟩
  replace hT := hT.t hs; replace ha := ha.t hs; replace hb := hb.t hs; replace hl := hl.t hs; replace hwm := hwm.t hs; replace hb7 := hb7.t hs; replace hom := hom.t hs; replace h19 := h19.t hs
  refine aN (k0 (.store 45 (.tmp 10) (.tmp 20))) rfl (a_storeAll (vs := encE (l[i]'hil)) (n := 3) rfl rfl (by kernel_rfl) rfl rfl (by intro u hu; simp only [encE, List.mem_cons, List.not_mem_nil, or_false] at hu; rcases hu with rfl | rfl | rfl <;> rfl) hx rfl) ?_
  rintro _ w5 ⟨rfl, hs, hx⟩
  refine ⟨trivial, ?_⟩
  replace hF := hF.st hs
  replace hT := hT.t hs; replace ha := ha.t hs; replace hb := hb.t hs; replace hl := hl.t hs; replace hwm := hwm.t hs; replace hb7 := hb7.t hs; replace hom := hom.t hs; replace h19 := h19.t hs
  refine Sch.nil ?_
  refine run_sq ?_
  refine run_pl [yy 0, nn 1, yy 2] ?_
  refine yF 21 45 10 2 2 ?_
  refine nS (kq 22 (.load 3 (.tmp 21))) rfl rfl trivial (val_loadOwn hx.at_ (by kernel_rfl) rfl rfl) ?_
  refine yV (kq 23 (.binOp .gtr 3 (.tmp 22) (.const (.int .i64 0)) 3)) (fun _ => val_gtr rfl rfl) ?_
  refine Sch.nil ?_
  refine run_i 23 rfl (fun h23 => ?_) (fun h23 => ?_)
  ·
   have hfl : edM ((l.take (i + 1)).filter (fun x => decide (0 < x.w))) = mput (edM ((l.take i).filter (fun x => decide (0 < x.w)))) (l[i]'hil).k (l[i]'hil).w := by
     rw [List.take_succ_eq_append_getElem hil, List.filter_append, List.filter_cons, if_pos (by simpa using h23), List.filter_nil]
     unfold edM; rw [List.foldl_append]; rfl
   refine run_sq ?_
   refine run_pl [nn 0, yy 1, nn 2, yy 3, nn 4, yy 5, yy 6, nn 7, nn 8] ?_
   refine nS (kq 24 (.load 84 (.tmp 7))) rfl rfl trivial (val_loadOwn hb7.at_ (by kernel_rfl) rfl rfl) ?_
   refine yF 25 45 10 0 0 ?_
   refine nS (kq 26 (.load 3 (.tmp 25))) rfl rfl trivial (val_loadOwn hx.at_ (by kernel_rfl) rfl rfl) ?_
   refine yF 27 45 10 1 1 ?_
   refine nS (kq 28 (.load 3 (.tmp 27))) rfl rfl trivial (val_loadOwn hx.at_ (by kernel_rfl) rfl rfl) ?_
   refine yV (kq 29 (.build 85 #[(0, (.tmp 26)), (1, (.tmp 28))])) (fun _ => val_buildArr (zs := [.int .i64 0, .int .i64 0]) (cs := [.int .i64 (l[i]'hil).a, .int .i64 (l[i]'hil).b]) (qs := [(0, [.int .i64 (l[i]'hil).a]), (1, [.int .i64 (l[i]'hil).b])]) Try.underlying85 (by kernel_rfl) (by kernel_rfl) (by kernel_rfl) (by exact ⟨rfl, ⟨_, rfl, rfl⟩, rfl, ⟨_, rfl, rfl⟩, trivial⟩) rfl) ?_
   refine yF 30 45 10 2 2 ?_
   refine nS (kq 31 (.load 3 (.tmp 30))) rfl rfl trivial (val_loadOwn hx.at_ (by kernel_rfl) rfl rfl) ?_
   refine aN (k0 (.mapUpdate 84 (.tmp 24) (.tmp 29) (.tmp 31))) rfl (a_mapUpdate (k := (l[i]'hil).k) (u := (l[i]'hil).w) hwm Try.underlying84 (keyOK_arr Try.underlying85 Try.underlying3 (by kernel_rfl) (by kernel_rfl)) rfl rfl rfl) ?_
   rintro _ w6 ⟨rfl, hs, hwm⟩
   refine ⟨trivial, ?_⟩
   replace hF := hF.st hs
   replace hT := hT.t hs; replace ha := ha.t hs; replace hb := hb.t hs; replace hl := hl.t hs; replace hb7 := hb7.t hs; replace hom := hom.t hs; replace h19 := h19.t hs; replace hx := hx.t hs
   refine Sch.nil ?_
   refine run_draw (id := 8) (ops := F23.o8) [] (Cw4) [yy 0, yy 1, yy 2, yy 3, yy 4, yy 5, yy 6, yy 7, yy 8, yy 9, yy 10, yy 11, nn 12] Try_mixed (by kernel_rfl) (by kernel_rfl) (by kernel_rfl) ?_
   intro w7 hs
   replace hF := hF.st hs
   replace hT := hT.t hs; replace ha := ha.t hs; replace hb := hb.t hs; replace hl := hl.t hs; replace hwm := hwm.t hs; replace hb7 := hb7.t hs; replace hom := hom.t hs; replace h19 := h19.t hs; replace hx := hx.t hs
   have hR := Stp.refl [] w7 (Cw4)
   refine yM 32 8 ?_
   refine yM 33 0 ?_
   refine yF 34 45 10 0 0 ?_
   refine yS (kq 35 (.load 3 (.tmp 34))) rfl rfl (fun w' hS => val_loadOwn (hx.sy hS) (by kernel_rfl) rfl rfl) ?_
   refine iS (e := 3) (kq 36 (.indexAddr 22 (.tmp 33) (.tmp 35))) rfl rfl ha rfl (by kernel_rfl) rfl (by omega) (by omega) ?_
   intro b36 o36 h36
   try simp only [Int.toNat_natCast] at h36
   refine lS (kq 37 (.load 3 (.tmp 36))) rfl rfl (fun w' hS => h36.sy hS) h36 (by kernel_rfl) rfl rfl ?_
   intro v37 g37
   first | (obtain rfl := rv_nat.1 g37) | (obtain rfl := rv_int.1 g37)
   rw [← hga]
   refine yM 38 1 ?_
   refine yF 39 45 10 1 1 ?_
   refine yS (kq 40 (.load 3 (.tmp 39))) rfl rfl (fun w' hS => val_loadOwn (hx.sy hS) (by kernel_rfl) rfl rfl) ?_
   refine iS (e := 3) (kq 41 (.indexAddr 22 (.tmp 38) (.tmp 40))) rfl rfl hb rfl (by kernel_rfl) rfl (by omega) (by omega) ?_
   intro b41 o41 h41
   try simp only [Int.toNat_natCast] at h41
   refine lS (kq 42 (.load 3 (.tmp 41))) rfl rfl (fun w' hS => h41.sy hS) h41 (by kernel_rfl) rfl rfl ?_
   intro v42 g42
   first | (obtain rfl := rv_nat.1 g42) | (obtain rfl := rv_int.1 g42)
   rw [← hgb]
   refine yV (kq 43 (.build 67 #[(0, (.tmp 37)), (1, (.tmp 42))])) (fun _ => val_build (zs := [.int .i64 0, .int .i64 0]) (ps := [(0, 1), (1, 1)]) (qs := [(0, [.int .i64 (gN al (l[i]'hil).a.toNat : Nat)]), (1, [.int .i64 (gN bl (l[i]'hil).b.toNat : Nat)])]) (cs := [.int .i64 (gN al (l[i]'hil).a.toNat : Nat), .int .i64 (gN bl (l[i]'hil).b.toNat : Nat)]) (by kernel_rfl) (by kernel_rfl) (by exact ⟨rfl, ⟨_, rfl, rfl⟩, rfl, ⟨_, rfl, rfl⟩, trivial⟩) rfl) ?_
   refine Sch.free rfl ?_
   refine aN (k0 (.mapUpdate 57 (.tmp 32) (.tmp 43) (.const (.pointer none)))) rfl (a_mapUpdate (k := (⟨(gN al (l[i]'hil).a.toNat : Nat), (gN bl (l[i]'hil).b.toNat : Nat)⟩ : Couple)) (u := none) hom Try.underlying57 (keyOK_couple Try.underlying67 (by decide) (by decide) (by kernel_rfl) Try.underlying3) rfl rfl rfl) ?_
   rintro _ w8 ⟨rfl, hs, hom⟩
   refine ⟨trivial, ?_⟩
   replace hF := hF.st hs
   replace hT := hT.t hs; replace ha := ha.t hs; replace hb := hb.t hs; replace hl := hl.t hs; replace hwm := hwm.t hs; replace hb7 := hb7.t hs; replace h19 := h19.t hs; replace hx := hx.t hs; replace h36 := h36.t hs; replace h41 := h41.t hs
   refine Sch.nil ?_
   refine run_inBlock ?_
   refine run_pl [yy 0, yy 1] ?_
   refine yV (kq 44 (.binOp .add 3 (.tmp 17) (.const (.int .i64 1)) 3)) (fun _ => val_addi rfl rfl (by omega) (by omega)) ?_
   refine yM 17 44 ?_
   refine Sch.nil ?_
   refine kp (sub_cons 0 rfl rfl (sub_cons 1 rfl rfl (sub_cons 7 rfl rfl (sub_cons 8 rfl rfl (sub_cons 15 rfl rfl (sub_cons 16 rfl rfl (sub_cons 17 rfl (eq_int (by simp)) (sub_nil _)))))))) (next1 (i + 1, mput mm (⟨(gN al (l[i]'hil).a.toNat : Nat), (gN bl (l[i]'hil).b.toNat : Nat)⟩ : Couple) none, Cw4) _ ⟨(by first | omega | (simp only; omega)), (hK.take hil h23), hF, hT, ha, hb, hl, (by simp only; rw [hfl]; exact hwm), hb7, hom⟩ (by first | omega | (simp only; omega)))
  ·
   have hfl : edM ((l.take (i + 1)).filter (fun x => decide (0 < x.w))) = edM ((l.take i).filter (fun x => decide (0 < x.w))) := by
     rw [List.take_succ_eq_append_getElem hil, List.filter_append, List.filter_cons, if_neg (by simpa using h23), List.filter_nil, List.append_nil]
   refine run_sk ?_
   refine run_inBlock ?_
   refine run_pl [yy 0, yy 1] ?_
   refine yV (kq 44 (.binOp .add 3 (.tmp 17) (.const (.int .i64 1)) 3)) (fun _ => val_addi rfl rfl (by omega) (by omega)) ?_
   refine yM 17 44 ?_
   refine Sch.nil ?_
   refine kp (sub_cons 0 rfl rfl (sub_cons 1 rfl rfl (sub_cons 7 rfl rfl (sub_cons 8 rfl rfl (sub_cons 15 rfl rfl (sub_cons 16 rfl rfl (sub_cons 17 rfl (eq_int (by simp)) (sub_nil _)))))))) (next1 (i + 1, mm, Cw4) _ ⟨(by first | omega | (simp only; omega)), (hK.skip hil h23), hF, hT, ha, hb, hl, (by simp only; rw [hfl]; exact hwm), hb7, hom⟩ (by first | omega | (simp only; omega)))
 ·
  have hil : i = l.length := by omega
  subst hil
  rw [List.take_length] at hwm hK
  have hb_ := hb7.frzA (n := 5) (by decide) (by rfl)
  have hm_ := hwm.frz (n := 5) (by decide)
  have ho_ := hom.frzK (n := 5) (by decide)
  replace hF := hF.frz 5
  replace hT := hT.frz (n := 5) (fun b => Nat.lt_of_lt_of_le (col1_lt2 C b) (by decide))
  replace ha := ha.frz 5
  replace hb := hb.frz 5
  replace hl := hl.frz 5
  have hbr : RA _ _ (⟨_⟩ : Sv) _ 0 := hb_
  have hmr := hm_
  replace hom := ho_
  clear hb_ hb7 hm_ hwm ho_
  obtain ⟨bc, hbc⟩ : ∃ x, x = bw1 := ⟨_, rfl⟩
  rw [← hbc] at hbr
  rw [← hbc]
  refine run_ex 0 ?_
  refine run_sq ?_
  refine run_sq ?_
  refine run_pl [yy 0, nn 1] ?_
  refine yM 45 8 ?_
  obtain ⟨hoc, es, clk, hoe, hoi⟩ := hom
  refine aS (kq 46 (.range 57 (.tmp 45))) rfl rfl (a_range hF 4 Try.underlying57 hoe hoi rfl) ?_
  rintro _ w9 ⟨Cw9, it, rfl, hs, hit, hF⟩
  rw [hoc] at hit
  refine ⟨trivial, ?_⟩
  replace hT := hT.t hs; replace ha := ha.t hs; replace hb := hb.t hs; replace hl := hl.t hs; replace hbr := hbr.t hs; replace hmr := hmr.t hs
  clear hoe
  refine Sch.nil ?_
  refine run_bk 2 ?_
  
  refine run_lp (ι := (List (Couple × Option Nat)) × (List (Couple × Option Nat)) × (Option (Couple × Option Nat)) × (Nat → Nat)) (I := fun x w => KeyL l al bl x.1 x.2.1 ∧ Lim w x.2.2.2 ∧ Stp [2, 3, 4, 5, 6, 7, 8, 9] w₀ (col1 C) w x.2.2.2 ∧ RV w (Mc x.2.2.2) al va ∧ RV w (Mc x.2.2.2) bl vb ∧ RA w (Mc x.2.2.2) (⟨.map (some bwm)⟩ : Sv) bc 0 ∧ RM w (Mc x.2.2.2) kvC kvI (edM (l.filter (fun x => decide (0 < x.w)))) (.map (some bwm)) ∧ OwnIt w x.2.2.2 4 it 3 bo kvC vvP x.1 x.2.1 x.2.2.1 ∧ BlkS w x.2.2.2 n m (pos (edW l)) (gN al) (gN bl) x.1) (e := fun x => [(0, va), (1, vb), (7, .pointer (some ⟨bc, 0, none⟩)), (8, .map (some bo)), (46, .pointer (some ⟨it, 0, none⟩))]) (m := fun x => x.2.1.length) (x₀ := (mm, mm, none, Cw9)) (sr 0 (sr 1 (sr 7 (sr 8 (sr 46 (sub_nil _)))))) ?_ ?_
  · exact ⟨hK.left, hF, hT, ha, hb, hbr, hmr, hit, BlkS.none_ hK.none_⟩
  intro ⟨mm, lf, cu, C2⟩ w10 hI next
  obtain ⟨hK, hF, hT, ha, hb, hbr, hmr, hit, hB⟩ := hI
  try simp only at hK hF hT ha hb hbr hmr hit hB
  have next2 := next
  clear next
  show Run _ _ _ _ [(0, va), (1, vb), (7, .pointer (some ⟨bc, 0, none⟩)), (8, .map (some bo)), (46, .pointer (some ⟨it, 0, none⟩))] _ _
  
  have hsb := hit.sub
  have hom := hit.own
  refine run_sq ?_
  refine run_pl [nn 0, yy 1] ?_
  refine aS (kq 47 (.next (.tmp 46) false)) rfl rfl (a_next hF hit rfl) ?_
  rintro _ w11 ⟨hs, _, hnx⟩
  refine ⟨trivial, ?_⟩
  replace hF := hF.st hs
  replace hT := hT.t hs; replace ha := ha.t hs; replace hb := hb.t hs; replace hbr := hbr.t hs; replace hmr := hmr.t hs; replace hB := hB.t hs; replace hom := hom.t hs
  rcases hnx with ⟨hlf, rfl⟩ | ⟨nc, hnc, rfl, hit⟩
  ·
   refine yS (kq 48 (.extract (.tmp 47) 0)) rfl rfl (fun w' hS => val_extract rfl rfl) ?_
   refine Sch.nil ?_
   subst hlf
   refine run_sq ?_
   refine run_cF 48 ?_
   refine run_ex 2 ?_
   refine run_sq ?_
   refine run_pl [yy 0, yy 1] ?_
   refine yM 79 8 ?_
   have hom2 := hom.out hT hF0 (Mc_col1 C) (fun b _ => col1_lt C (by decide) b)
   have hKf := KeyL.fin hV hK (hB.out hT hF0 (Mc_col1 C))
   refine yA 6 79 ?_
   refine Sch.nil ?_
   refine run_ret1 (by kernel_rfl) Try.func23 Try.results23 rfl ?_
   exact ⟨bo, mm, rfl, hT.out1 (by decide), hom2, hKf⟩
  ·
   refine yS (kq 48 (.extract (.tmp 47) 0)) rfl rfl (fun w' hS => val_extract rfl rfl) ?_
   refine Sch.nil ?_
   clear hom
   have hkm : (lf[nc]).1 ∈ keys mm := List.mem_map_of_mem (hsb _ (List.getElem_mem hnc))
   obtain ⟨xj, hxj, hxw, hxe⟩ := (hK.key (lf[nc]).1).1 hkm
   have hxo := hV.ok xj hxj
   unfold okE at hxo
   obtain ⟨p, hp⟩ : ∃ p, p = gN al xj.a.toNat := ⟨_, rfl⟩
   obtain ⟨q, hq⟩ : ∃ q, q = gN bl xj.b.toNat := ⟨_, rfl⟩
   rw [← hp, ← hq] at hxe
   obtain ⟨c, hc⟩ : ∃ c, c = lf[nc] := ⟨_, rfl⟩
   have hce : c.1 = ⟨p, q⟩ := by rw [hc]; exact hxe
   have hKn := hK.next hnc hkm
   rw [← hc] at hit hKn
   have hB2 := hB
   refine run_sq ?_
   refine run_cT 48 ?_
   refine run_sk ?_
   refine run_bk 3 ?_
   refine run_sq ?_
   refine run_pl [nn 0, yy 1, nn 2, nn 3] ?_
   refine nS (kq 49 (.entry (.tmp 46))) rfl rfl trivial (hit.entry rfl) ?_
   refine yV (kq 50 (.extract (.tmp 49) 0)) (fun _ => val_extract rfl rfl) ?_
   rw [hce]
   refine aS (kq 11 (.alloc 67)) rfl rfl (a_alloc (cs := [.int .i64 0, .int .i64 0]) hF 6 (by kernel_rfl)) ?_
   rintro _ w12 ⟨Cw12, bw12, rfl, hs, hk, hF⟩
   refine ⟨trivial, ?_⟩
   replace hT := hT.t hs; replace ha := ha.t hs; replace hb := hb.t hs; replace hbr := hbr.t hs; replace hmr := hmr.t hs
   replace hit := hit.st hs (by first | decide | (simp <;> omega)) (by first | decide | (simp <;> omega))
   replace hB := hB.t hs
   refine aN (k0 (.store 67 (.tmp 11) (.tmp 50))) rfl (a_storeAll (vs := [.int .i64 p, .int .i64 q]) (n := 2) rfl rfl (by kernel_rfl) rfl rfl (by intro u hu; simp only [List.mem_cons, List.not_mem_nil, or_false] at hu; rcases hu with rfl | rfl <;> rfl) hk rfl) ?_
   rintro _ w13 ⟨rfl, hs, hk⟩
   refine ⟨trivial, ?_⟩
   replace hF := hF.st hs
   replace hT := hT.t hs; replace ha := ha.t hs; replace hb := hb.t hs; replace hbr := hbr.t hs; replace hmr := hmr.t hs
   replace hit := hit.st hs (by first | decide | (simp <;> omega)) (by first | decide | (simp <;> omega))
   replace hB := hB.t hs
   refine Sch.nil ?_
   refine run_sq ?_
   refine run_tree (id := 13) (ops := F23.o13) [] (Cw12) 11 (.fork [0, 1, 2, 4, 5, 6] 3 (.fork [] 7 (.fork [8] 9 (.run [nn 10, nn 11]) 10 (.run [nn 9, nn 11])) 10 (.run [nn 7, yy 8, nn 9, nn 11])) 10 (.run [nn 3, nn 7, yy 8, nn 9, nn 11])) Try_mixed (by kernel_rfl) (by kernel_rfl) (by kernel_rfl) ?_
   intro w14 hs
   replace hF := hF.st hs
   replace hT := hT.t hs; replace ha := ha.t hs; replace hb := hb.t hs; replace hbr := hbr.t hs; replace hmr := hmr.t hs
   replace hit := hit.st hs (by first | decide | (simp <;> omega)) (by first | decide | (simp <;> omega))
   replace hB := hB.t hs; replace hk := hk.t hs
   have hR := Stp.refl [] w14 (Cw12)
   refine tr_fork ?_
   show SchQ _ _ _ _ _ [yy 0, yy 1, yy 2, yy 4, yy 5, yy 6] _ _
   refine yM 51 0 ?_
   refine yF 52 67 11 0 0 ?_
   refine yS (kq 53 (.load 3 (.tmp 52))) rfl rfl (fun w' hS => val_loadOwn (hk.sy hS) (by kernel_rfl) rfl rfl) ?_
   refine yM 55 1 ?_
   refine yF 56 67 11 1 1 ?_
   refine yS (kq 57 (.load 3 (.tmp 56))) rfl rfl (fun w' hS => val_loadOwn (hk.sy hS) (by kernel_rfl) rfl rfl) ?_
   refine tr_do2 ?_ ?_
   ·
    show SchQ _ _ _ _ _ [nn 3] _ _
    refine cS (kq 54 (.call { callee := .value (.func 36), args := #[(.tmp 51), (.tmp 53)], argTypes := #[22, 3] })) rfl rfl (ent Try.call36 rfl) (members_ok hF ha (by have := hH.la; have := hV.n1; omega)) ?_
    rintro vA w15 ⟨hs, hA⟩
    rw [hH.la] at hA
    refine ⟨(hR.trans hs (by simp)).ext, ?_⟩
    replace hF := hF.st hs
    replace hT := hT.t hs; replace ha := ha.t hs; replace hb := hb.t hs; replace hbr := hbr.t hs; replace hmr := hmr.t hs
    replace hit := hit.st hs (by first | decide | (simp <;> omega)) (by first | decide | (simp <;> omega))
    replace hB := hB.t hs; replace hk := hk.t hs; replace hR := hR.t hs
    refine tr_next hR.ext ?_
    refine tr_fork ?_
    show SchQ _ _ _ _ _ [] _ _
    refine tr_do2 ?_ ?_
    ·
     show SchQ _ _ _ _ _ [nn 7] _ _
     refine cS (kq 58 (.call { callee := .value (.func 36), args := #[(.tmp 55), (.tmp 57)], argTypes := #[22, 3] })) rfl rfl (ent Try.call36 rfl) (members_ok hF hb (by have := hH.lb; have := hV.m1; omega)) ?_
     rintro vB w16 ⟨hs, hBl⟩
     rw [hH.lb] at hBl
     refine ⟨(hR.trans hs (by simp)).ext, ?_⟩
     replace hF := hF.st hs
     replace hT := hT.t hs; replace ha := ha.t hs; replace hb := hb.t hs; replace hbr := hbr.t hs; replace hmr := hmr.t hs
     replace hit := hit.st hs (by first | decide | (simp <;> omega)) (by first | decide | (simp <;> omega))
     replace hB := hB.t hs; replace hk := hk.t hs; replace hR := hR.t hs; replace hA := hA.t hs
     refine tr_next hR.ext ?_
     refine tr_fork ?_
     show SchQ _ _ _ _ _ [yy 8] _ _
     refine yV (kq 59 (.build 72 #[(0, (.tmp 54)), (1, (.tmp 58))])) (fun _ => val_build (zs := [.slice none 0 0, .slice none 0 0, .pointer none]) (ps := [(0, 1), (1, 1), (2, 1)]) (qs := [(0, [vA]), (1, [vB])]) (cs := [vA, vB, .pointer none]) (by kernel_rfl) (by kernel_rfl) (by exact ⟨rfl, ⟨_, rfl, (hA.one rfl).1⟩, rfl, ⟨_, rfl, (hBl.one rfl).1⟩, trivial⟩) rfl) ?_
     refine tr_do2 ?_ ?_
     ·
      show SchQ _ _ _ _ _ [nn 9] _ _
      refine aS (kq 60 (.box 72 (.tmp 59))) rfl rfl (a_box (cs := [vA, vB, .pointer none]) hF 7 rfl rfl) ?_
      rintro _ w17 ⟨Cw17, bw17, rfl, hs, hbx, hF⟩
      refine ⟨(hR.trans hs (by simp)).ext, ?_⟩
      replace hT := hT.t hs; replace ha := ha.t hs; replace hb := hb.t hs; replace hbr := hbr.t hs; replace hmr := hmr.t hs
      replace hit := hit.st hs (by first | decide | (simp <;> omega)) (by first | decide | (simp <;> omega))
      replace hB := hB.t hs; replace hk := hk.t hs; replace hR := hR.t hs; replace hA := hA.t hs; replace hBl := hBl.t hs
      obtain ⟨bx, hbxe⟩ : ∃ x, x = bw17 := ⟨_, rfl⟩
      rw [← hbxe] at hbx
      rw [← hbxe]
      clear hbxe
      refine tr_next hR.ext ?_
      refine tr_run ?_
      show SchQ _ _ _ _ _ [nn 10, nn 11] _ _
      refine aS (kq 12 (.alloc 65)) rfl rfl (a_alloc (cs := [.pointer none]) hF 8 (by kernel_rfl)) ?_
      rintro _ w18 ⟨Cw18, bw18, rfl, hs, hcx, hF⟩
      refine ⟨(hR.trans hs (by simp)).ext, ?_⟩
      replace hT := hT.t hs; replace ha := ha.t hs; replace hb := hb.t hs; replace hbr := hbr.t hs; replace hmr := hmr.t hs
      replace hit := hit.st hs (by first | decide | (simp <;> omega)) (by first | decide | (simp <;> omega))
      replace hB := hB.t hs; replace hk := hk.t hs; replace hR := hR.t hs; replace hA := hA.t hs; replace hBl := hBl.t hs; replace hbx := hbx.t hs
      obtain ⟨cx, hcxe⟩ : ∃ x, x = bw18 := ⟨_, rfl⟩
      rw [← hcxe] at hcx
      rw [← hcxe]
      clear hcxe
      refine Sch.free rfl ?_
      refine aN (k0 (.store 65 (.tmp 12) (.tmp 60))) rfl (a_storeAll (vs := [.pointer (some ⟨bx, 0, none⟩)]) (n := 1) rfl rfl (by kernel_rfl) rfl rfl (by intro u hu2; rw [List.mem_singleton.1 hu2]; rfl) hcx rfl) ?_
      rintro _ w19 ⟨rfl, hs, hcx⟩
      refine ⟨trivial, ?_⟩
      replace hF := hF.st hs
      replace hT := hT.t hs; replace ha := ha.t hs; replace hb := hb.t hs; replace hbr := hbr.t hs; replace hmr := hmr.t hs
      replace hit := hit.st hs (by first | decide | (simp <;> omega)) (by first | decide | (simp <;> omega))
      replace hB := hB.t hs; replace hk := hk.t hs; replace hA := hA.t hs; replace hBl := hBl.t hs; replace hbx := hbx.t hs
      refine Sch.nil ?_
      have hml1 := memb_len (gN al) p n
      have hml2 := memb_len (gN bl) q m
      have hn1 := hV.n1
      have hm1 := hV.m1
      refine run_sq ?_
      refine run_draw (id := 14) (ops := F23.o14) [] (Cw18) [yy 0, yy 1, yy 2, yy 3, yy 4, yy 5, yy 6, yy 7, yy 8, yy 9, yy 10, yy 11, nn 12, yy 13, yy 14, nn 15] Try_mixed (by kernel_rfl) (by kernel_rfl) (by kernel_rfl) ?_
      intro w20 hs
      replace hF := hF.st hs
      replace hT := hT.t hs; replace ha := ha.t hs; replace hb := hb.t hs; replace hbr := hbr.t hs; replace hmr := hmr.t hs
      replace hit := hit.st hs (by first | decide | (simp <;> omega)) (by first | decide | (simp <;> omega))
      replace hB := hB.t hs; replace hk := hk.t hs; replace hA := hA.t hs; replace hBl := hBl.t hs; replace hbx := hbx.t hs; replace hcx := hcx.t hs
      have hR := Stp.refl [] w20 (Cw18)
      refine yS (kq 61 (.load 65 (.tmp 12))) rfl rfl (fun w' hS => val_loadOwn (hcx.sy hS) (by kernel_rfl) rfl rfl) ?_
      refine yS (kq 62 (.load 65 (.tmp 12))) rfl rfl (fun w' hS => val_loadOwn (hcx.sy hS) (by kernel_rfl) rfl rfl) ?_
      refine yN 63 62 ?_
      refine yF 64 72 63 0 0 ?_
      refine yS (kq 65 (.load 22 (.tmp 64))) rfl rfl (fun w' hS => val_loadOwn (hbx.sy hS) (by kernel_rfl) rfl rfl) ?_
      refine yS (kq 66 (.call { callee := .builtin .len, args := #[(.tmp 65)], argTypes := #[22] })) rfl rfl (fun w' hS => hA.lenV rfl Try.underlying22 w' ) ?_
      refine yS (kq 67 (.load 65 (.tmp 12))) rfl rfl (fun w' hS => val_loadOwn (hcx.sy hS) (by kernel_rfl) rfl rfl) ?_
      refine yN 68 67 ?_
      refine yF 69 72 68 1 1 ?_
      refine yS (kq 70 (.load 22 (.tmp 69))) rfl rfl (fun w' hS => val_loadOwn (hbx.sy hS) (by kernel_rfl) rfl rfl) ?_
      refine yS (kq 71 (.call { callee := .builtin .len, args := #[(.tmp 70)], argTypes := #[22] })) rfl rfl (fun w' hS => hBl.lenV rfl Try.underlying22 w' ) ?_
      refine yV (kq 72 (.makeFunc (.func 37) #[] #[(.tmp 7), (.tmp 12)])) (fun _ => val_makeFunc rfl rfl) ?_
      have hwt : ∀ w1, Stp [] _ (Cw18) w1 (Cw18) → ∀ i j : Nat, i < (memb (gN al) p n).length → j < (memb (gN bl) q m).length → Calls Try.prog 37 ([Value.int .i64 i, Value.int .i64 j] ++ #[Value.pointer (some ⟨bc, 0, none⟩), Value.pointer (some ⟨cx, 0, none⟩)].toList).toArray w1 (Ret fun v w2 => v = .int .i64 (bw (pos (edW l)) (memb (gN al) p n) (memb (gN bl) q m) i j) ∧ Stp [] w1 (Cw18) w2 (Cw18)) := fun w1 hs1 i j hi hj => by
        have hbx1 := hbx.st hs1 (by decide)
        have hcx1 := (hcx.st hs1 (by decide)).frzA (n := 6) (by decide) rfl
        have hA1 := (hA.st hs1 (by decide)).frz 6
        have hB1 := (hBl.st hs1 (by decide)).frz 6
        have hx1 : RA w1 (Mc (K.frz 6 (Cw18))) ((memb (gN al) p n, memb (gN bl) q m, ⟨.pointer none⟩) : List Nat × List Nat × Sv) bx 0 := hbx1.fra (n := 6) (by decide) (rep_blkS hA1 hB1 rfl)
        refine (bweight_ok (i := i) (j := j) ((hF.st hs1).frz 6) ((hbr.st hs1 (by decide)).frz 6) ((hmr.st hs1 (by decide)).frz 6) hcx1 hx1 hi hj).mono (Ret.mono fun v w2 h => ⟨?_, h.2.unfrz _⟩)
        rw [h.1]; congr 1
        exact edW_positive hV.ord _ _
      refine cS (kq 73 (.call { callee := .value (.func 24), args := #[(.tmp 66), (.tmp 71), (.tmp 72)], argTypes := #[3, 3, 73] })) rfl rfl (ent Try.call24 rfl) (tnew_all (n := (memb (gN al) p n).length) (m := (memb (gN bl) q m).length) (wt := bw (pos (edW l)) (memb (gN al) p n) (memb (gN bl) q m)) (W := 65536) hF (by omega) (by omega) (fun args w => Try.call37 args w) hwt (fun i j _ _ => by have := (hV.wle (gN (memb (gN al) p n) i) (gN (memb (gN bl) q m) j)).2; unfold bw pos; omega) (by decide) (by decide) (by omega)) ?_
      rintro vw21 w21 ⟨gb, gr, U, V, rfl, hs, hg, hG, _⟩
      refine ⟨(hR.trans hs (by simp)).ext, ?_⟩
      replace hF := hF.st hs
      replace hT := hT.t hs; replace ha := ha.t hs; replace hb := hb.t hs; replace hbr := hbr.t hs; replace hmr := hmr.t hs
      replace hit := hit.st hs (by first | decide | (simp <;> omega)) (by first | decide | (simp <;> omega))
      replace hB := hB.t hs; replace hk := hk.t hs; replace hA := hA.t hs; replace hBl := hBl.t hs; replace hbx := hbx.t hs; replace hcx := hcx.t hs; replace hR := hR.t hs
      refine yN 74 61 ?_
      refine yF 75 72 74 2 2 ?_
      refine Sch.free rfl ?_
      refine aN (k0 (.store 59 (.tmp 75) (.tmp 73))) rfl (a_store1 rfl rfl (by kernel_rfl) rfl rfl hbx (by simp)) ?_
      rintro _ w22 ⟨rfl, hs, hbx⟩
      refine ⟨trivial, ?_⟩
      replace hF := hF.st hs
      replace hT := hT.t hs; replace ha := ha.t hs; replace hb := hb.t hs; replace hbr := hbr.t hs; replace hmr := hmr.t hs
      replace hit := hit.st hs (by first | decide | (simp <;> omega)) (by first | decide | (simp <;> omega))
      replace hB := hB.t hs; replace hk := hk.t hs; replace hA := hA.t hs; replace hBl := hBl.t hs; replace hcx := hcx.t hs; replace hg := hg.t hs
      refine Sch.nil ?_
      refine run_pl [yy 0, nn 1, nn 2, nn 3] ?_
      refine yM 76 8 ?_
      refine nS (kq 77 (.load 67 (.tmp 11))) rfl rfl trivial (val_loadOwnAgg (n := 2) (vs := [.int .i64 (p : Int), .int .i64 (q : Int)]) hk.at_ (by kernel_rfl) (by kernel_rfl) rfl rfl rfl) ?_
      refine nS (kq 78 (.load 65 (.tmp 12))) rfl rfl trivial (val_loadOwn hcx.at_ (by kernel_rfl) rfl rfl) ?_
      refine aN (k0 (.mapUpdate 57 (.tmp 76) (.tmp 77) (.tmp 78))) rfl (a_itUpdate (u := some bx) hit (by decide) Try.underlying57 (keyOK_couple Try.underlying67 (by decide) (by decide) (by kernel_rfl) Try.underlying3) rfl (by rw [hce]; rfl) rfl) ?_
      rintro _ w23 ⟨rfl, hs, hit⟩
      refine ⟨trivial, ?_⟩
      replace hF := hF.st hs
      replace hT := hT.t hs; replace ha := ha.t hs; replace hb := hb.t hs; replace hbr := hbr.t hs; replace hmr := hmr.t hs; replace hB := hB.t hs; replace hk := hk.t hs; replace hA := hA.t hs; replace hBl := hBl.t hs; replace hbx := hbx.t hs; replace hcx := hcx.t hs; replace hg := hg.t hs
      refine Sch.nil ?_
      refine run_inBlock ?_
      have hA1 := hA.frz 5
      have hB1 := hBl.frz 5
      have hg1 := hg.frz 5
      have hx1 := hbx.fra (n := 5) (x := (⟨memb (gN al) p n, memb (gN bl) q m, ⟨gr⟩⟩ : Blk)) (by decide) (rep_blk hA1 hB1 hg1)
      replace hit := hit.frz (n := 5) (by decide)
      replace hF := hF.frz 5
      replace hT := hT.frz (n := 5) (fun b => Nat.lt_of_lt_of_le (col1_lt2 C b) (by decide))
      replace ha := ha.frz 5
      replace hb := hb.frz 5
      replace hbr := hbr.frz 5
      replace hmr := hmr.frz 5
      replace hB := hB.frz 5
      have hB3 := hB.put (p := p) (q := q) ⟨gr, U, V, hx1, hG⟩
      rw [hce] at hit
      have hKm := hKn bx
      rw [hce] at hKm
      have hless : (lf.eraseIdx nc).length < lf.length := by rw [List.length_eraseIdx_of_lt hnc]; omega
      refine kp (sub_cons 0 rfl rfl (sub_cons 1 rfl rfl (sub_cons 7 rfl rfl (sub_cons 8 rfl rfl (sub_cons 46 rfl rfl (sub_nil _)))))) (next2 (mput mm ⟨p, q⟩ (some bx), lf.eraseIdx nc, none, K.frz 5 Cw18) _ ⟨hKm, hF, hT, ha, hb, hbr, hmr, hit, hB3⟩ hless)
     ·
      show SchQ _ _ _ _ _ [nn 10] _ _
      refine aS (kq 12 (.alloc 65)) rfl rfl (a_alloc (cs := [.pointer none]) hF 8 (by kernel_rfl)) ?_
      rintro _ w24 ⟨Cw24, bw24, rfl, hs, hcx, hF⟩
      refine ⟨(hR.trans hs (by simp)).ext, ?_⟩
      replace hT := hT.t hs; replace ha := ha.t hs; replace hb := hb.t hs; replace hbr := hbr.t hs; replace hmr := hmr.t hs
      replace hit := hit.st hs (by first | decide | (simp <;> omega)) (by first | decide | (simp <;> omega))
      replace hB := hB.t hs; replace hk := hk.t hs; replace hR := hR.t hs; replace hA := hA.t hs; replace hBl := hBl.t hs
      obtain ⟨cx, hcxe⟩ : ∃ x, x = bw24 := ⟨_, rfl⟩
      rw [← hcxe] at hcx
      rw [← hcxe]
      clear hcxe
      refine tr_next hR.ext ?_
      refine tr_run ?_
      show SchQ _ _ _ _ _ [nn 9, nn 11] _ _
      refine aS (kq 60 (.box 72 (.tmp 59))) rfl rfl (a_box (cs := [vA, vB, .pointer none]) hF 7 rfl rfl) ?_
      rintro _ w25 ⟨Cw25, bw25, rfl, hs, hbx, hF⟩
      refine ⟨(hR.trans hs (by simp)).ext, ?_⟩
      replace hT := hT.t hs; replace ha := ha.t hs; replace hb := hb.t hs; replace hbr := hbr.t hs; replace hmr := hmr.t hs
      replace hit := hit.st hs (by first | decide | (simp <;> omega)) (by first | decide | (simp <;> omega))
      replace hB := hB.t hs; replace hk := hk.t hs; replace hR := hR.t hs; replace hA := hA.t hs; replace hBl := hBl.t hs; replace hcx := hcx.t hs
      obtain ⟨bx, hbxe⟩ : ∃ x, x = bw25 := ⟨_, rfl⟩
      rw [← hbxe] at hbx
      rw [← hbxe]
      clear hbxe
      refine Sch.free rfl ?_
      refine aN (k0 (.store 65 (.tmp 12) (.tmp 60))) rfl (a_storeAll (vs := [.pointer (some ⟨bx, 0, none⟩)]) (n := 1) rfl rfl (by kernel_rfl) rfl rfl (by intro u hu2; rw [List.mem_singleton.1 hu2]; rfl) hcx rfl) ?_
      rintro _ w26 ⟨rfl, hs, hcx⟩
      refine ⟨trivial, ?_⟩
      replace hF := hF.st hs
      replace hT := hT.t hs; replace ha := ha.t hs; replace hb := hb.t hs; replace hbr := hbr.t hs; replace hmr := hmr.t hs
      replace hit := hit.st hs (by first | decide | (simp <;> omega)) (by first | decide | (simp <;> omega))
      replace hB := hB.t hs; replace hk := hk.t hs; replace hA := hA.t hs; replace hBl := hBl.t hs; replace hbx := hbx.t hs
      refine Sch.nil ?_
      have hml1 := memb_len (gN al) p n
      have hml2 := memb_len (gN bl) q m
      have hn1 := hV.n1
      have hm1 := hV.m1
      refine run_sq ?_
      refine run_draw (id := 14) (ops := F23.o14) [] (Cw25) [yy 0, yy 1, yy 2, yy 3, yy 4, yy 5, yy 6, yy 7, yy 8, yy 9, yy 10, yy 11, nn 12, yy 13, yy 14, nn 15] Try_mixed (by kernel_rfl) (by kernel_rfl) (by kernel_rfl) ?_
      intro w27 hs
      replace hF := hF.st hs
      replace hT := hT.t hs; replace ha := ha.t hs; replace hb := hb.t hs; replace hbr := hbr.t hs; replace hmr := hmr.t hs
      replace hit := hit.st hs (by first | decide | (simp <;> omega)) (by first | decide | (simp <;> omega))
      replace hB := hB.t hs; replace hk := hk.t hs; replace hA := hA.t hs; replace hBl := hBl.t hs; replace hcx := hcx.t hs; replace hbx := hbx.t hs
      have hR := Stp.refl [] w27 (Cw25)
      refine yS (kq 61 (.load 65 (.tmp 12))) rfl rfl (fun w' hS => val_loadOwn (hcx.sy hS) (by kernel_rfl) rfl rfl) ?_
      refine yS (kq 62 (.load 65 (.tmp 12))) rfl rfl (fun w' hS => val_loadOwn (hcx.sy hS) (by kernel_rfl) rfl rfl) ?_
      refine yN 63 62 ?_
      refine yF 64 72 63 0 0 ?_
      refine yS (kq 65 (.load 22 (.tmp 64))) rfl rfl (fun w' hS => val_loadOwn (hbx.sy hS) (by kernel_rfl) rfl rfl) ?_
      refine yS (kq 66 (.call { callee := .builtin .len, args := #[(.tmp 65)], argTypes := #[22] })) rfl rfl (fun w' hS => hA.lenV rfl Try.underlying22 w' ) ?_
      refine yS (kq 67 (.load 65 (.tmp 12))) rfl rfl (fun w' hS => val_loadOwn (hcx.sy hS) (by kernel_rfl) rfl rfl) ?_
      refine yN 68 67 ?_
      refine yF 69 72 68 1 1 ?_
      refine yS (kq 70 (.load 22 (.tmp 69))) rfl rfl (fun w' hS => val_loadOwn (hbx.sy hS) (by kernel_rfl) rfl rfl) ?_
      refine yS (kq 71 (.call { callee := .builtin .len, args := #[(.tmp 70)], argTypes := #[22] })) rfl rfl (fun w' hS => hBl.lenV rfl Try.underlying22 w' ) ?_
      refine yV (kq 72 (.makeFunc (.func 37) #[] #[(.tmp 7), (.tmp 12)])) (fun _ => val_makeFunc rfl rfl) ?_
      have hwt : ∀ w1, Stp [] _ (Cw25) w1 (Cw25) → ∀ i j : Nat, i < (memb (gN al) p n).length → j < (memb (gN bl) q m).length → Calls Try.prog 37 ([Value.int .i64 i, Value.int .i64 j] ++ #[Value.pointer (some ⟨bc, 0, none⟩), Value.pointer (some ⟨cx, 0, none⟩)].toList).toArray w1 (Ret fun v w2 => v = .int .i64 (bw (pos (edW l)) (memb (gN al) p n) (memb (gN bl) q m) i j) ∧ Stp [] w1 (Cw25) w2 (Cw25)) := fun w1 hs1 i j hi hj => by
        have hbx1 := hbx.st hs1 (by decide)
        have hcx1 := (hcx.st hs1 (by decide)).frzA (n := 6) (by decide) rfl
        have hA1 := (hA.st hs1 (by decide)).frz 6
        have hB1 := (hBl.st hs1 (by decide)).frz 6
        have hx1 : RA w1 (Mc (K.frz 6 (Cw25))) ((memb (gN al) p n, memb (gN bl) q m, ⟨.pointer none⟩) : List Nat × List Nat × Sv) bx 0 := hbx1.fra (n := 6) (by decide) (rep_blkS hA1 hB1 rfl)
        refine (bweight_ok (i := i) (j := j) ((hF.st hs1).frz 6) ((hbr.st hs1 (by decide)).frz 6) ((hmr.st hs1 (by decide)).frz 6) hcx1 hx1 hi hj).mono (Ret.mono fun v w2 h => ⟨?_, h.2.unfrz _⟩)
        rw [h.1]; congr 1
        exact edW_positive hV.ord _ _
      refine cS (kq 73 (.call { callee := .value (.func 24), args := #[(.tmp 66), (.tmp 71), (.tmp 72)], argTypes := #[3, 3, 73] })) rfl rfl (ent Try.call24 rfl) (tnew_all (n := (memb (gN al) p n).length) (m := (memb (gN bl) q m).length) (wt := bw (pos (edW l)) (memb (gN al) p n) (memb (gN bl) q m)) (W := 65536) hF (by omega) (by omega) (fun args w => Try.call37 args w) hwt (fun i j _ _ => by have := (hV.wle (gN (memb (gN al) p n) i) (gN (memb (gN bl) q m) j)).2; unfold bw pos; omega) (by decide) (by decide) (by omega)) ?_
      rintro vw28 w28 ⟨gb, gr, U, V, rfl, hs, hg, hG, _⟩
      refine ⟨(hR.trans hs (by simp)).ext, ?_⟩
      replace hF := hF.st hs
      replace hT := hT.t hs; replace ha := ha.t hs; replace hb := hb.t hs; replace hbr := hbr.t hs; replace hmr := hmr.t hs
      replace hit := hit.st hs (by first | decide | (simp <;> omega)) (by first | decide | (simp <;> omega))
      replace hB := hB.t hs; replace hk := hk.t hs; replace hA := hA.t hs; replace hBl := hBl.t hs; replace hcx := hcx.t hs; replace hbx := hbx.t hs; replace hR := hR.t hs
      refine yN 74 61 ?_
      refine yF 75 72 74 2 2 ?_
      refine Sch.free rfl ?_
      refine aN (k0 (.store 59 (.tmp 75) (.tmp 73))) rfl (a_store1 rfl rfl (by kernel_rfl) rfl rfl hbx (by simp)) ?_
      rintro _ w29 ⟨rfl, hs, hbx⟩
      refine ⟨trivial, ?_⟩
      replace hF := hF.st hs
      replace hT := hT.t hs; replace ha := ha.t hs; replace hb := hb.t hs; replace hbr := hbr.t hs; replace hmr := hmr.t hs
      replace hit := hit.st hs (by first | decide | (simp <;> omega)) (by first | decide | (simp <;> omega))
      replace hB := hB.t hs; replace hk := hk.t hs; replace hA := hA.t hs; replace hBl := hBl.t hs; replace hcx := hcx.t hs; replace hg := hg.t hs
      refine Sch.nil ?_
      refine run_pl [yy 0, nn 1, nn 2, nn 3] ?_
      refine yM 76 8 ?_
      refine nS (kq 77 (.load 67 (.tmp 11))) rfl rfl trivial (val_loadOwnAgg (n := 2) (vs := [.int .i64 (p : Int), .int .i64 (q : Int)]) hk.at_ (by kernel_rfl) (by kernel_rfl) rfl rfl rfl) ?_
      refine nS (kq 78 (.load 65 (.tmp 12))) rfl rfl trivial (val_loadOwn hcx.at_ (by kernel_rfl) rfl rfl) ?_
      refine aN (k0 (.mapUpdate 57 (.tmp 76) (.tmp 77) (.tmp 78))) rfl (a_itUpdate (u := some bx) hit (by decide) Try.underlying57 (keyOK_couple Try.underlying67 (by decide) (by decide) (by kernel_rfl) Try.underlying3) rfl (by rw [hce]; rfl) rfl) ?_
      rintro _ w30 ⟨rfl, hs, hit⟩
      refine ⟨trivial, ?_⟩
      replace hF := hF.st hs
      replace hT := hT.t hs; replace ha := ha.t hs; replace hb := hb.t hs; replace hbr := hbr.t hs; replace hmr := hmr.t hs; replace hB := hB.t hs; replace hk := hk.t hs; replace hA := hA.t hs; replace hBl := hBl.t hs; replace hcx := hcx.t hs; replace hbx := hbx.t hs; replace hg := hg.t hs
      refine Sch.nil ?_
      refine run_inBlock ?_
      have hA1 := hA.frz 5
      have hB1 := hBl.frz 5
      have hg1 := hg.frz 5
      have hx1 := hbx.fra (n := 5) (x := (⟨memb (gN al) p n, memb (gN bl) q m, ⟨gr⟩⟩ : Blk)) (by decide) (rep_blk hA1 hB1 hg1)
      replace hit := hit.frz (n := 5) (by decide)
      replace hF := hF.frz 5
      replace hT := hT.frz (n := 5) (fun b => Nat.lt_of_lt_of_le (col1_lt2 C b) (by decide))
      replace ha := ha.frz 5
      replace hb := hb.frz 5
      replace hbr := hbr.frz 5
      replace hmr := hmr.frz 5
      replace hB := hB.frz 5
      have hB3 := hB.put (p := p) (q := q) ⟨gr, U, V, hx1, hG⟩
      rw [hce] at hit
      have hKm := hKn bx
      rw [hce] at hKm
      have hless : (lf.eraseIdx nc).length < lf.length := by rw [List.length_eraseIdx_of_lt hnc]; omega
      refine kp (sub_cons 0 rfl rfl (sub_cons 1 rfl rfl (sub_cons 7 rfl rfl (sub_cons 8 rfl rfl (sub_cons 46 rfl rfl (sub_nil _)))))) (next2 (mput mm ⟨p, q⟩ (some bx), lf.eraseIdx nc, none, K.frz 5 Cw25) _ ⟨hKm, hF, hT, ha, hb, hbr, hmr, hit, hB3⟩ hless)
    ·
     show SchQ _ _ _ _ _ [nn 10] _ _
     refine aS (kq 12 (.alloc 65)) rfl rfl (a_alloc (cs := [.pointer none]) hF 8 (by kernel_rfl)) ?_
     rintro _ w31 ⟨Cw31, bw31, rfl, hs, hcx, hF⟩
     refine ⟨(hR.trans hs (by simp)).ext, ?_⟩
     replace hT := hT.t hs; replace ha := ha.t hs; replace hb := hb.t hs; replace hbr := hbr.t hs; replace hmr := hmr.t hs
     replace hit := hit.st hs (by first | decide | (simp <;> omega)) (by first | decide | (simp <;> omega))
     replace hB := hB.t hs; replace hk := hk.t hs; replace hR := hR.t hs; replace hA := hA.t hs
     obtain ⟨cx, hcxe⟩ : ∃ x, x = bw31 := ⟨_, rfl⟩
     rw [← hcxe] at hcx
     rw [← hcxe]
     clear hcxe
     refine tr_next hR.ext ?_
     refine tr_run ?_
     show SchQ _ _ _ _ _ [nn 7, yy 8, nn 9, nn 11] _ _
     refine cS (kq 58 (.call { callee := .value (.func 36), args := #[(.tmp 55), (.tmp 57)], argTypes := #[22, 3] })) rfl rfl (ent Try.call36 rfl) (members_ok hF hb (by have := hH.lb; have := hV.m1; omega)) ?_
     rintro vB w32 ⟨hs, hBl⟩
     rw [hH.lb] at hBl
     refine ⟨(hR.trans hs (by simp)).ext, ?_⟩
     replace hF := hF.st hs
     replace hT := hT.t hs; replace ha := ha.t hs; replace hb := hb.t hs; replace hbr := hbr.t hs; replace hmr := hmr.t hs
     replace hit := hit.st hs (by first | decide | (simp <;> omega)) (by first | decide | (simp <;> omega))
     replace hB := hB.t hs; replace hk := hk.t hs; replace hR := hR.t hs; replace hA := hA.t hs; replace hcx := hcx.t hs
     refine yV (kq 59 (.build 72 #[(0, (.tmp 54)), (1, (.tmp 58))])) (fun _ => val_build (zs := [.slice none 0 0, .slice none 0 0, .pointer none]) (ps := [(0, 1), (1, 1), (2, 1)]) (qs := [(0, [vA]), (1, [vB])]) (cs := [vA, vB, .pointer none]) (by kernel_rfl) (by kernel_rfl) (by exact ⟨rfl, ⟨_, rfl, (hA.one rfl).1⟩, rfl, ⟨_, rfl, (hBl.one rfl).1⟩, trivial⟩) rfl) ?_
     refine aS (kq 60 (.box 72 (.tmp 59))) rfl rfl (a_box (cs := [vA, vB, .pointer none]) hF 7 rfl rfl) ?_
     rintro _ w33 ⟨Cw33, bw33, rfl, hs, hbx, hF⟩
     refine ⟨(hR.trans hs (by simp)).ext, ?_⟩
     replace hT := hT.t hs; replace ha := ha.t hs; replace hb := hb.t hs; replace hbr := hbr.t hs; replace hmr := hmr.t hs
     replace hit := hit.st hs (by first | decide | (simp <;> omega)) (by first | decide | (simp <;> omega))
     replace hB := hB.t hs; replace hk := hk.t hs; replace hR := hR.t hs; replace hA := hA.t hs; replace hcx := hcx.t hs; replace hBl := hBl.t hs
     obtain ⟨bx, hbxe⟩ : ∃ x, x = bw33 := ⟨_, rfl⟩
     rw [← hbxe] at hbx
     rw [← hbxe]
     clear hbxe
     refine Sch.free rfl ?_
     refine aN (k0 (.store 65 (.tmp 12) (.tmp 60))) rfl (a_storeAll (vs := [.pointer (some ⟨bx, 0, none⟩)]) (n := 1) rfl rfl (by kernel_rfl) rfl rfl (by intro u hu2; rw [List.mem_singleton.1 hu2]; rfl) hcx rfl) ?_
     rintro _ w34 ⟨rfl, hs, hcx⟩
     refine ⟨trivial, ?_⟩
     replace hF := hF.st hs
     replace hT := hT.t hs; replace ha := ha.t hs; replace hb := hb.t hs; replace hbr := hbr.t hs; replace hmr := hmr.t hs
     replace hit := hit.st hs (by first | decide | (simp <;> omega)) (by first | decide | (simp <;> omega))
     replace hB := hB.t hs; replace hk := hk.t hs; replace hA := hA.t hs; replace hBl := hBl.t hs; replace hbx := hbx.t hs
     refine Sch.nil ?_
     have hml1 := memb_len (gN al) p n
     have hml2 := memb_len (gN bl) q m
     have hn1 := hV.n1
     have hm1 := hV.m1
     refine run_sq ?_
     refine run_draw (id := 14) (ops := F23.o14) [] (Cw33) [yy 0, yy 1, yy 2, yy 3, yy 4, yy 5, yy 6, yy 7, yy 8, yy 9, yy 10, yy 11, nn 12, yy 13, yy 14, nn 15] Try_mixed (by kernel_rfl) (by kernel_rfl) (by kernel_rfl) ?_
     intro w35 hs
     replace hF := hF.st hs
     replace hT := hT.t hs; replace ha := ha.t hs; replace hb := hb.t hs; replace hbr := hbr.t hs; replace hmr := hmr.t hs
     replace hit := hit.st hs (by first | decide | (simp <;> omega)) (by first | decide | (simp <;> omega))
     replace hB := hB.t hs; replace hk := hk.t hs; replace hA := hA.t hs; replace hcx := hcx.t hs; replace hBl := hBl.t hs; replace hbx := hbx.t hs
     have hR := Stp.refl [] w35 (Cw33)
     refine yS (kq 61 (.load 65 (.tmp 12))) rfl rfl (fun w' hS => val_loadOwn (hcx.sy hS) (by kernel_rfl) rfl rfl) ?_
     refine yS (kq 62 (.load 65 (.tmp 12))) rfl rfl (fun w' hS => val_loadOwn (hcx.sy hS) (by kernel_rfl) rfl rfl) ?_
     refine yN 63 62 ?_
     refine yF 64 72 63 0 0 ?_
     refine yS (kq 65 (.load 22 (.tmp 64))) rfl rfl (fun w' hS => val_loadOwn (hbx.sy hS) (by kernel_rfl) rfl rfl) ?_
     refine yS (kq 66 (.call { callee := .builtin .len, args := #[(.tmp 65)], argTypes := #[22] })) rfl rfl (fun w' hS => hA.lenV rfl Try.underlying22 w' ) ?_
     refine yS (kq 67 (.load 65 (.tmp 12))) rfl rfl (fun w' hS => val_loadOwn (hcx.sy hS) (by kernel_rfl) rfl rfl) ?_
     refine yN 68 67 ?_
     refine yF 69 72 68 1 1 ?_
     refine yS (kq 70 (.load 22 (.tmp 69))) rfl rfl (fun w' hS => val_loadOwn (hbx.sy hS) (by kernel_rfl) rfl rfl) ?_
     refine yS (kq 71 (.call { callee := .builtin .len, args := #[(.tmp 70)], argTypes := #[22] })) rfl rfl (fun w' hS => hBl.lenV rfl Try.underlying22 w' ) ?_
     refine yV (kq 72 (.makeFunc (.func 37) #[] #[(.tmp 7), (.tmp 12)])) (fun _ => val_makeFunc rfl rfl) ?_
     have hwt : ∀ w1, Stp [] _ (Cw33) w1 (Cw33) → ∀ i j : Nat, i < (memb (gN al) p n).length → j < (memb (gN bl) q m).length → Calls Try.prog 37 ([Value.int .i64 i, Value.int .i64 j] ++ #[Value.pointer (some ⟨bc, 0, none⟩), Value.pointer (some ⟨cx, 0, none⟩)].toList).toArray w1 (Ret fun v w2 => v = .int .i64 (bw (pos (edW l)) (memb (gN al) p n) (memb (gN bl) q m) i j) ∧ Stp [] w1 (Cw33) w2 (Cw33)) := fun w1 hs1 i j hi hj => by
       have hbx1 := hbx.st hs1 (by decide)
       have hcx1 := (hcx.st hs1 (by decide)).frzA (n := 6) (by decide) rfl
       have hA1 := (hA.st hs1 (by decide)).frz 6
       have hB1 := (hBl.st hs1 (by decide)).frz 6
       have hx1 : RA w1 (Mc (K.frz 6 (Cw33))) ((memb (gN al) p n, memb (gN bl) q m, ⟨.pointer none⟩) : List Nat × List Nat × Sv) bx 0 := hbx1.fra (n := 6) (by decide) (rep_blkS hA1 hB1 rfl)
       refine (bweight_ok (i := i) (j := j) ((hF.st hs1).frz 6) ((hbr.st hs1 (by decide)).frz 6) ((hmr.st hs1 (by decide)).frz 6) hcx1 hx1 hi hj).mono (Ret.mono fun v w2 h => ⟨?_, h.2.unfrz _⟩)
       rw [h.1]; congr 1
       exact edW_positive hV.ord _ _
     refine cS (kq 73 (.call { callee := .value (.func 24), args := #[(.tmp 66), (.tmp 71), (.tmp 72)], argTypes := #[3, 3, 73] })) rfl rfl (ent Try.call24 rfl) (tnew_all (n := (memb (gN al) p n).length) (m := (memb (gN bl) q m).length) (wt := bw (pos (edW l)) (memb (gN al) p n) (memb (gN bl) q m)) (W := 65536) hF (by omega) (by omega) (fun args w => Try.call37 args w) hwt (fun i j _ _ => by have := (hV.wle (gN (memb (gN al) p n) i) (gN (memb (gN bl) q m) j)).2; unfold bw pos; omega) (by decide) (by decide) (by omega)) ?_
     rintro vw36 w36 ⟨gb, gr, U, V, rfl, hs, hg, hG, _⟩
     refine ⟨(hR.trans hs (by simp)).ext, ?_⟩
     replace hF := hF.st hs
     replace hT := hT.t hs; replace ha := ha.t hs; replace hb := hb.t hs; replace hbr := hbr.t hs; replace hmr := hmr.t hs
     replace hit := hit.st hs (by first | decide | (simp <;> omega)) (by first | decide | (simp <;> omega))
     replace hB := hB.t hs; replace hk := hk.t hs; replace hA := hA.t hs; replace hcx := hcx.t hs; replace hBl := hBl.t hs; replace hbx := hbx.t hs; replace hR := hR.t hs
     refine yN 74 61 ?_
     refine yF 75 72 74 2 2 ?_
     refine Sch.free rfl ?_
     refine aN (k0 (.store 59 (.tmp 75) (.tmp 73))) rfl (a_store1 rfl rfl (by kernel_rfl) rfl rfl hbx (by simp)) ?_
     rintro _ w37 ⟨rfl, hs, hbx⟩
     refine ⟨trivial, ?_⟩
     replace hF := hF.st hs
     replace hT := hT.t hs; replace ha := ha.t hs; replace hb := hb.t hs; replace hbr := hbr.t hs; replace hmr := hmr.t hs
     replace hit := hit.st hs (by first | decide | (simp <;> omega)) (by first | decide | (simp <;> omega))
     replace hB := hB.t hs; replace hk := hk.t hs; replace hA := hA.t hs; replace hcx := hcx.t hs; replace hBl := hBl.t hs; replace hg := hg.t hs
     refine Sch.nil ?_
     refine run_pl [yy 0, nn 1, nn 2, nn 3] ?_
     refine yM 76 8 ?_
     refine nS (kq 77 (.load 67 (.tmp 11))) rfl rfl trivial (val_loadOwnAgg (n := 2) (vs := [.int .i64 (p : Int), .int .i64 (q : Int)]) hk.at_ (by kernel_rfl) (by kernel_rfl) rfl rfl rfl) ?_
     refine nS (kq 78 (.load 65 (.tmp 12))) rfl rfl trivial (val_loadOwn hcx.at_ (by kernel_rfl) rfl rfl) ?_
     refine aN (k0 (.mapUpdate 57 (.tmp 76) (.tmp 77) (.tmp 78))) rfl (a_itUpdate (u := some bx) hit (by decide) Try.underlying57 (keyOK_couple Try.underlying67 (by decide) (by decide) (by kernel_rfl) Try.underlying3) rfl (by rw [hce]; rfl) rfl) ?_
     rintro _ w38 ⟨rfl, hs, hit⟩
     refine ⟨trivial, ?_⟩
     replace hF := hF.st hs
     replace hT := hT.t hs; replace ha := ha.t hs; replace hb := hb.t hs; replace hbr := hbr.t hs; replace hmr := hmr.t hs; replace hB := hB.t hs; replace hk := hk.t hs; replace hA := hA.t hs; replace hcx := hcx.t hs; replace hBl := hBl.t hs; replace hbx := hbx.t hs; replace hg := hg.t hs
     refine Sch.nil ?_
     refine run_inBlock ?_
     have hA1 := hA.frz 5
     have hB1 := hBl.frz 5
     have hg1 := hg.frz 5
     have hx1 := hbx.fra (n := 5) (x := (⟨memb (gN al) p n, memb (gN bl) q m, ⟨gr⟩⟩ : Blk)) (by decide) (rep_blk hA1 hB1 hg1)
     replace hit := hit.frz (n := 5) (by decide)
     replace hF := hF.frz 5
     replace hT := hT.frz (n := 5) (fun b => Nat.lt_of_lt_of_le (col1_lt2 C b) (by decide))
     replace ha := ha.frz 5
     replace hb := hb.frz 5
     replace hbr := hbr.frz 5
     replace hmr := hmr.frz 5
     replace hB := hB.frz 5
     have hB3 := hB.put (p := p) (q := q) ⟨gr, U, V, hx1, hG⟩
     rw [hce] at hit
     have hKm := hKn bx
     rw [hce] at hKm
     have hless : (lf.eraseIdx nc).length < lf.length := by rw [List.length_eraseIdx_of_lt hnc]; omega
     refine kp (sub_cons 0 rfl rfl (sub_cons 1 rfl rfl (sub_cons 7 rfl rfl (sub_cons 8 rfl rfl (sub_cons 46 rfl rfl (sub_nil _)))))) (next2 (mput mm ⟨p, q⟩ (some bx), lf.eraseIdx nc, none, K.frz 5 Cw33) _ ⟨hKm, hF, hT, ha, hb, hbr, hmr, hit, hB3⟩ hless)
   ·
    show SchQ _ _ _ _ _ [nn 10] _ _
    refine aS (kq 12 (.alloc 65)) rfl rfl (a_alloc (cs := [.pointer none]) hF 8 (by kernel_rfl)) ?_
    rintro _ w39 ⟨Cw39, bw39, rfl, hs, hcx, hF⟩
    refine ⟨(hR.trans hs (by simp)).ext, ?_⟩
    replace hT := hT.t hs; replace ha := ha.t hs; replace hb := hb.t hs; replace hbr := hbr.t hs; replace hmr := hmr.t hs
    replace hit := hit.st hs (by first | decide | (simp <;> omega)) (by first | decide | (simp <;> omega))
    replace hB := hB.t hs; replace hk := hk.t hs; replace hR := hR.t hs
    obtain ⟨cx, hcxe⟩ : ∃ x, x = bw39 := ⟨_, rfl⟩
    rw [← hcxe] at hcx
    rw [← hcxe]
    clear hcxe
    refine tr_next hR.ext ?_
    refine tr_run ?_
    show SchQ _ _ _ _ _ [nn 3, nn 7, yy 8, nn 9, nn 11] _ _
    refine cS (kq 54 (.call { callee := .value (.func 36), args := #[(.tmp 51), (.tmp 53)], argTypes := #[22, 3] })) rfl rfl (ent Try.call36 rfl) (members_ok hF ha (by have := hH.la; have := hV.n1; omega)) ?_
    rintro vA w40 ⟨hs, hA⟩
    rw [hH.la] at hA
    refine ⟨(hR.trans hs (by simp)).ext, ?_⟩
    replace hF := hF.st hs
    replace hT := hT.t hs; replace ha := ha.t hs; replace hb := hb.t hs; replace hbr := hbr.t hs; replace hmr := hmr.t hs
    replace hit := hit.st hs (by first | decide | (simp <;> omega)) (by first | decide | (simp <;> omega))
    replace hB := hB.t hs; replace hk := hk.t hs; replace hR := hR.t hs; replace hcx := hcx.t hs
    refine cS (kq 58 (.call { callee := .value (.func 36), args := #[(.tmp 55), (.tmp 57)], argTypes := #[22, 3] })) rfl rfl (ent Try.call36 rfl) (members_ok hF hb (by have := hH.lb; have := hV.m1; omega)) ?_
    rintro vB w41 ⟨hs, hBl⟩
    rw [hH.lb] at hBl
    refine ⟨(hR.trans hs (by simp)).ext, ?_⟩
    replace hF := hF.st hs
    replace hT := hT.t hs; replace ha := ha.t hs; replace hb := hb.t hs; replace hbr := hbr.t hs; replace hmr := hmr.t hs
    replace hit := hit.st hs (by first | decide | (simp <;> omega)) (by first | decide | (simp <;> omega))
    replace hB := hB.t hs; replace hk := hk.t hs; replace hR := hR.t hs; replace hcx := hcx.t hs; replace hA := hA.t hs
    refine yV (kq 59 (.build 72 #[(0, (.tmp 54)), (1, (.tmp 58))])) (fun _ => val_build (zs := [.slice none 0 0, .slice none 0 0, .pointer none]) (ps := [(0, 1), (1, 1), (2, 1)]) (qs := [(0, [vA]), (1, [vB])]) (cs := [vA, vB, .pointer none]) (by kernel_rfl) (by kernel_rfl) (by exact ⟨rfl, ⟨_, rfl, (hA.one rfl).1⟩, rfl, ⟨_, rfl, (hBl.one rfl).1⟩, trivial⟩) rfl) ?_
    refine aS (kq 60 (.box 72 (.tmp 59))) rfl rfl (a_box (cs := [vA, vB, .pointer none]) hF 7 rfl rfl) ?_
    rintro _ w42 ⟨Cw42, bw42, rfl, hs, hbx, hF⟩
    refine ⟨(hR.trans hs (by simp)).ext, ?_⟩
    replace hT := hT.t hs; replace ha := ha.t hs; replace hb := hb.t hs; replace hbr := hbr.t hs; replace hmr := hmr.t hs
    replace hit := hit.st hs (by first | decide | (simp <;> omega)) (by first | decide | (simp <;> omega))
    replace hB := hB.t hs; replace hk := hk.t hs; replace hR := hR.t hs; replace hcx := hcx.t hs; replace hA := hA.t hs; replace hBl := hBl.t hs
    obtain ⟨bx, hbxe⟩ : ∃ x, x = bw42 := ⟨_, rfl⟩
    rw [← hbxe] at hbx
    rw [← hbxe]
    clear hbxe
    refine Sch.free rfl ?_
    refine aN (k0 (.store 65 (.tmp 12) (.tmp 60))) rfl (a_storeAll (vs := [.pointer (some ⟨bx, 0, none⟩)]) (n := 1) rfl rfl (by kernel_rfl) rfl rfl (by intro u hu2; rw [List.mem_singleton.1 hu2]; rfl) hcx rfl) ?_
    rintro _ w43 ⟨rfl, hs, hcx⟩
    refine ⟨trivial, ?_⟩
    replace hF := hF.st hs
    replace hT := hT.t hs; replace ha := ha.t hs; replace hb := hb.t hs; replace hbr := hbr.t hs; replace hmr := hmr.t hs
    replace hit := hit.st hs (by first | decide | (simp <;> omega)) (by first | decide | (simp <;> omega))
    replace hB := hB.t hs; replace hk := hk.t hs; replace hA := hA.t hs; replace hBl := hBl.t hs; replace hbx := hbx.t hs
    refine Sch.nil ?_
    have hml1 := memb_len (gN al) p n
    have hml2 := memb_len (gN bl) q m
    have hn1 := hV.n1
    have hm1 := hV.m1
    refine run_sq ?_
    refine run_draw (id := 14) (ops := F23.o14) [] (Cw42) [yy 0, yy 1, yy 2, yy 3, yy 4, yy 5, yy 6, yy 7, yy 8, yy 9, yy 10, yy 11, nn 12, yy 13, yy 14, nn 15] Try_mixed (by kernel_rfl) (by kernel_rfl) (by kernel_rfl) ?_
    intro w44 hs
    replace hF := hF.st hs
    replace hT := hT.t hs; replace ha := ha.t hs; replace hb := hb.t hs; replace hbr := hbr.t hs; replace hmr := hmr.t hs
    replace hit := hit.st hs (by first | decide | (simp <;> omega)) (by first | decide | (simp <;> omega))
    replace hB := hB.t hs; replace hk := hk.t hs; replace hcx := hcx.t hs; replace hA := hA.t hs; replace hBl := hBl.t hs; replace hbx := hbx.t hs
    have hR := Stp.refl [] w44 (Cw42)
    refine yS (kq 61 (.load 65 (.tmp 12))) rfl rfl (fun w' hS => val_loadOwn (hcx.sy hS) (by kernel_rfl) rfl rfl) ?_
    refine yS (kq 62 (.load 65 (.tmp 12))) rfl rfl (fun w' hS => val_loadOwn (hcx.sy hS) (by kernel_rfl) rfl rfl) ?_
    refine yN 63 62 ?_
    refine yF 64 72 63 0 0 ?_
    refine yS (kq 65 (.load 22 (.tmp 64))) rfl rfl (fun w' hS => val_loadOwn (hbx.sy hS) (by kernel_rfl) rfl rfl) ?_
    refine yS (kq 66 (.call { callee := .builtin .len, args := #[(.tmp 65)], argTypes := #[22] })) rfl rfl (fun w' hS => hA.lenV rfl Try.underlying22 w' ) ?_
    refine yS (kq 67 (.load 65 (.tmp 12))) rfl rfl (fun w' hS => val_loadOwn (hcx.sy hS) (by kernel_rfl) rfl rfl) ?_
    refine yN 68 67 ?_
    refine yF 69 72 68 1 1 ?_
    refine yS (kq 70 (.load 22 (.tmp 69))) rfl rfl (fun w' hS => val_loadOwn (hbx.sy hS) (by kernel_rfl) rfl rfl) ?_
    refine yS (kq 71 (.call { callee := .builtin .len, args := #[(.tmp 70)], argTypes := #[22] })) rfl rfl (fun w' hS => hBl.lenV rfl Try.underlying22 w' ) ?_
    refine yV (kq 72 (.makeFunc (.func 37) #[] #[(.tmp 7), (.tmp 12)])) (fun _ => val_makeFunc rfl rfl) ?_
    have hwt : ∀ w1, Stp [] _ (Cw42) w1 (Cw42) → ∀ i j : Nat, i < (memb (gN al) p n).length → j < (memb (gN bl) q m).length → Calls Try.prog 37 ([Value.int .i64 i, Value.int .i64 j] ++ #[Value.pointer (some ⟨bc, 0, none⟩), Value.pointer (some ⟨cx, 0, none⟩)].toList).toArray w1 (Ret fun v w2 => v = .int .i64 (bw (pos (edW l)) (memb (gN al) p n) (memb (gN bl) q m) i j) ∧ Stp [] w1 (Cw42) w2 (Cw42)) := fun w1 hs1 i j hi hj => by
      have hbx1 := hbx.st hs1 (by decide)
      have hcx1 := (hcx.st hs1 (by decide)).frzA (n := 6) (by decide) rfl
      have hA1 := (hA.st hs1 (by decide)).frz 6
      have hB1 := (hBl.st hs1 (by decide)).frz 6
      have hx1 : RA w1 (Mc (K.frz 6 (Cw42))) ((memb (gN al) p n, memb (gN bl) q m, ⟨.pointer none⟩) : List Nat × List Nat × Sv) bx 0 := hbx1.fra (n := 6) (by decide) (rep_blkS hA1 hB1 rfl)
      refine (bweight_ok (i := i) (j := j) ((hF.st hs1).frz 6) ((hbr.st hs1 (by decide)).frz 6) ((hmr.st hs1 (by decide)).frz 6) hcx1 hx1 hi hj).mono (Ret.mono fun v w2 h => ⟨?_, h.2.unfrz _⟩)
      rw [h.1]; congr 1
      exact edW_positive hV.ord _ _
    refine cS (kq 73 (.call { callee := .value (.func 24), args := #[(.tmp 66), (.tmp 71), (.tmp 72)], argTypes := #[3, 3, 73] })) rfl rfl (ent Try.call24 rfl) (tnew_all (n := (memb (gN al) p n).length) (m := (memb (gN bl) q m).length) (wt := bw (pos (edW l)) (memb (gN al) p n) (memb (gN bl) q m)) (W := 65536) hF (by omega) (by omega) (fun args w => Try.call37 args w) hwt (fun i j _ _ => by have := (hV.wle (gN (memb (gN al) p n) i) (gN (memb (gN bl) q m) j)).2; unfold bw pos; omega) (by decide) (by decide) (by omega)) ?_
    rintro vw45 w45 ⟨gb, gr, U, V, rfl, hs, hg, hG, _⟩
    refine ⟨(hR.trans hs (by simp)).ext, ?_⟩
    replace hF := hF.st hs
    replace hT := hT.t hs; replace ha := ha.t hs; replace hb := hb.t hs; replace hbr := hbr.t hs; replace hmr := hmr.t hs
    replace hit := hit.st hs (by first | decide | (simp <;> omega)) (by first | decide | (simp <;> omega))
    replace hB := hB.t hs; replace hk := hk.t hs; replace hcx := hcx.t hs; replace hA := hA.t hs; replace hBl := hBl.t hs; replace hbx := hbx.t hs; replace hR := hR.t hs
    refine yN 74 61 ?_
    refine yF 75 72 74 2 2 ?_
    refine Sch.free rfl ?_
    refine aN (k0 (.store 59 (.tmp 75) (.tmp 73))) rfl (a_store1 rfl rfl (by kernel_rfl) rfl rfl hbx (by simp)) ?_
    rintro _ w46 ⟨rfl, hs, hbx⟩
    refine ⟨trivial, ?_⟩
    replace hF := hF.st hs
    replace hT := hT.t hs; replace ha := ha.t hs; replace hb := hb.t hs; replace hbr := hbr.t hs; replace hmr := hmr.t hs
    replace hit := hit.st hs (by first | decide | (simp <;> omega)) (by first | decide | (simp <;> omega))
    replace hB := hB.t hs; replace hk := hk.t hs; replace hcx := hcx.t hs; replace hA := hA.t hs; replace hBl := hBl.t hs; replace hg := hg.t hs
    refine Sch.nil ?_
    refine run_pl [yy 0, nn 1, nn 2, nn 3] ?_
    refine yM 76 8 ?_
    refine nS (kq 77 (.load 67 (.tmp 11))) rfl rfl trivial (val_loadOwnAgg (n := 2) (vs := [.int .i64 (p : Int), .int .i64 (q : Int)]) hk.at_ (by kernel_rfl) (by kernel_rfl) rfl rfl rfl) ?_
    refine nS (kq 78 (.load 65 (.tmp 12))) rfl rfl trivial (val_loadOwn hcx.at_ (by kernel_rfl) rfl rfl) ?_
    refine aN (k0 (.mapUpdate 57 (.tmp 76) (.tmp 77) (.tmp 78))) rfl (a_itUpdate (u := some bx) hit (by decide) Try.underlying57 (keyOK_couple Try.underlying67 (by decide) (by decide) (by kernel_rfl) Try.underlying3) rfl (by rw [hce]; rfl) rfl) ?_
    rintro _ w47 ⟨rfl, hs, hit⟩
    refine ⟨trivial, ?_⟩
    replace hF := hF.st hs
    replace hT := hT.t hs; replace ha := ha.t hs; replace hb := hb.t hs; replace hbr := hbr.t hs; replace hmr := hmr.t hs; replace hB := hB.t hs; replace hk := hk.t hs; replace hcx := hcx.t hs; replace hA := hA.t hs; replace hBl := hBl.t hs; replace hbx := hbx.t hs; replace hg := hg.t hs
    refine Sch.nil ?_
    refine run_inBlock ?_
    have hA1 := hA.frz 5
    have hB1 := hBl.frz 5
    have hg1 := hg.frz 5
    have hx1 := hbx.fra (n := 5) (x := (⟨memb (gN al) p n, memb (gN bl) q m, ⟨gr⟩⟩ : Blk)) (by decide) (rep_blk hA1 hB1 hg1)
    replace hit := hit.frz (n := 5) (by decide)
    replace hF := hF.frz 5
    replace hT := hT.frz (n := 5) (fun b => Nat.lt_of_lt_of_le (col1_lt2 C b) (by decide))
    replace ha := ha.frz 5
    replace hb := hb.frz 5
    replace hbr := hbr.frz 5
    replace hmr := hmr.frz 5
    replace hB := hB.frz 5
    have hB3 := hB.put (p := p) (q := q) ⟨gr, U, V, hx1, hG⟩
    rw [hce] at hit
    have hKm := hKn bx
    rw [hce] at hKm
    have hless : (lf.eraseIdx nc).length < lf.length := by rw [List.length_eraseIdx_of_lt hnc]; omega
    refine kp (sub_cons 0 rfl rfl (sub_cons 1 rfl rfl (sub_cons 7 rfl rfl (sub_cons 8 rfl rfl (sub_cons 46 rfl rfl (sub_nil _)))))) (next2 (mput mm ⟨p, q⟩ (some bx), lf.eraseIdx nc, none, K.frz 5 Cw42) _ ⟨hKm, hF, hT, ha, hb, hbr, hmr, hit, hB3⟩ hless)
end Go.Proofs.Ytognfmeffnjijaa
