/- Steps through functions of the program. -/
import Derived.Test.YtionghonhnedgaaGreatJVM
set_option linter.unusedVariables false
set_option linter.unusedSimpArgs false
set_option maxRecDepth 100000
set_option maxHeartbeats 4000000
namespace Go.Proofs.YtionghonhnedgaaGreat
open Go.K Go.K.Rep

namespace F31
noncomputable def c0 := bodyOf Tryz.f31
noncomputable def c8 := (cl (cr (cl (cr (cr c0)))))
noncomputable def c14 := (cl (cl (cr (cr (cr c0)))))
noncomputable def c15 := (cr (cl (cr (cr (cr c0)))))
noncomputable def c24 := (cl (cr (cr (cl (cl c15)))))
noncomputable def c31 := (cl (cl (cr (cr (cl c24)))))
noncomputable def c34 := (cr (cr (cr (cl (cl c15)))))
noncomputable def c36 := (cl (cr (cr (cr (cr c0)))))
noncomputable def c37 := (cr (cr (cr (cr (cr c0)))))
noncomputable def c44 := (cl (cr (cl (cl (cr c37)))))
noncomputable def c47 := (cr (cr (cl (cl (cr c37)))))
noncomputable def c59 := (cl (cr (cr (cr (cr c37)))))
end F31
/-- 'Decide', of what is valid, of a decision that comes last. -/
theorem decide_ok {w₀ : World} {C : Nat → Nat} {bud : Int} {sh : List Shw} {ds : List Dcs} {vs vz : Value} {pr : Int} {ag df : List Int} {va vd : Value} {lo hh wt : Int} {p : Nat} {A B : Couple} {same : Bool} {id1 ver1 : Int} {vals1 : List ByteArray} {vv1 : Value} {id2 ver2 : Int} {vals2 : List ByteArray} {vv2 : Value} (hF : Lim w₀ C) (hRo : ROK bud sh ds) (hsh : RV w₀ (Mc C) sh vs) (hds : RV w₀ (Mc C) ds vz) (hW : WOK pr ag df) (ha : RV w₀ (Mc C) ag va) (hd : RV w₀ (Mc C) df vd) (hK : TOK lo hh) (hp : p < 3 ^ ag.length) (hAB : cplOK A B = true) (h1 : A.b = id1) (h2 : B.b = id2) (hQ1 : QOK ag vals1 ver1) (hv1 : RV w₀ (Mc C) vals1 vv1) (hQ2 : QOK ag vals2 ver2) (hv2 : RV w₀ (Mc C) vals2 vv2) (hend : ∀ k (h : k < ds.length), cmpD ds[k] ⟨A, B, ver1, ver2, same⟩ ≤ 0) :
    Calls Tryz.prog 31 #[.agg #[.int .i64 bud, vs, vz], .agg #[.int .i64 pr, va, vd], .agg #[.int .i64 lo, .int .i64 hh], .agg #[.int .i64 A.a, .int .i64 A.b, .int .i64 B.a, .int .i64 B.b, .int .i64 p, .int .i64 wt], .agg #[.int .i64 id1, .int .i64 ver1, vv1], .agg #[.int .i64 id2, .int .i64 ver2, vv2], .bool same] w₀ (Ret fun v w' => ∃ bud' vs' vz' sh' ds' e, v = .tuple #[.agg #[.int .i64 bud', vs', vz'], .int .i64 e] ∧ Stp [] w₀ C w' C ∧ RV w' (Mc C) sh' vs' ∧ RV w' (Mc C) ds' vz' ∧ DecS pr ag df lo hh p bud sh ds A B ver1 ver2 same bud' sh' ds' e) := by
 have hF0 := hF
 have hT := Stp.refl [2, 3, 4, 5, 6, 7, 8, 9] w₀ (col1 C)
 replace hF := hF.col1
 replace ha : RV w₀ (Mc (col1 C)) ag va := by rw [Mc_col1]; exact ha
 replace hd : RV w₀ (Mc (col1 C)) df vd := by rw [Mc_col1]; exact hd
 replace hsh : RV w₀ (Mc (col1 C)) sh vs := by rw [Mc_col1]; exact hsh
 replace hds : RV w₀ (Mc (col1 C)) ds vz := by rw [Mc_col1]; exact hds
 replace hv1 : RV w₀ (Mc (col1 C)) vals1 vv1 := by rw [Mc_col1]; exact hv1
 replace hv2 : RV w₀ (Mc (col1 C)) vals2 vv2 := by rw [Mc_col1]; exact hv2
 refine calls_start (c := F31.c0) (N := 99) [.agg #[.int .i64 bud, vs, vz], .agg #[.int .i64 pr, va, vd], .agg #[.int .i64 lo, .int .i64 hh], .agg #[.int .i64 A.a, .int .i64 A.b, .int .i64 B.a, .int .i64 B.b, .int .i64 p, .int .i64 wt], .agg #[.int .i64 id1, .int .i64 ver1, vv1], .agg #[.int .i64 id2, .int .i64 ver2, vv2], .bool same] Tryz.func31 (by kernel_rfl) (by kernel_rfl) (by kernel_rfl) ?_
 show Run _ _ _ _ [(0, .agg #[.int .i64 bud, vs, vz]), (1, .agg #[.int .i64 pr, va, vd]), (2, .agg #[.int .i64 lo, .int .i64 hh]), (3, .agg #[.int .i64 A.a, .int .i64 A.b, .int .i64 B.a, .int .i64 B.b, .int .i64 p, .int .i64 wt]), (4, .agg #[.int .i64 id1, .int .i64 ver1, vv1]), (5, .agg #[.int .i64 id2, .int .i64 ver2, vv2]), (6, .bool same)] _ _
 refine run_sq ?_
 refine run_pl [nn 0, nn 1, nn 2, nn 3, nn 4, nn 5, nn 6, yy 7] ?_
 refine aS (kq 7 (.box 26 (.tmp 0))) rfl rfl (a_box (cs := [.int .i64 bud, vs, vz]) hF 4 rfl rfl) ?_
 rintro _ w1 ⟨Cw1, bw1, rfl, hs, bx, hF⟩
 refine ⟨trivial, ?_⟩
 replace hT := hT.t hs; replace ha := ha.t hs; replace hd := hd.t hs; replace hsh := hsh.t hs; replace hds := hds.t hs; replace hv1 := hv1.t hs; replace hv2 := hv2.t hs
 refine aS (kq 8 (.box 28 (.tmp 1))) rfl rfl (a_box (cs := [.int .i64 pr, va, vd]) hF 3 rfl rfl) ?_
 rintro _ w2 ⟨Cw2, bw2, rfl, hs, bw, hF⟩
 refine ⟨trivial, ?_⟩
 replace hT := hT.t hs; replace ha := ha.t hs; replace hd := hd.t hs; replace hsh := hsh.t hs; replace hds := hds.t hs; replace hv1 := hv1.t hs; replace hv2 := hv2.t hs; replace bx := bx.t hs
 refine aS (kq 9 (.box 30 (.tmp 2))) rfl rfl (a_box (cs := [.int .i64 lo, .int .i64 hh]) hF 3 rfl rfl) ?_
 rintro _ w3 ⟨Cw3, bw3, rfl, hs, bt, hF⟩
 refine ⟨trivial, ?_⟩
 replace hT := hT.t hs; replace ha := ha.t hs; replace hd := hd.t hs; replace hsh := hsh.t hs; replace hds := hds.t hs; replace hv1 := hv1.t hs; replace hv2 := hv2.t hs; replace bx := bx.t hs; replace bw := bw.t hs
 refine aS (kq 10 (.box 34 (.tmp 3))) rfl rfl (a_box (cs := [.int .i64 A.a, .int .i64 A.b, .int .i64 B.a, .int .i64 B.b, .int .i64 p, .int .i64 wt]) hF 3 rfl rfl) ?_
 rintro _ w4 ⟨Cw4, bw4, rfl, hs, bc, hF⟩
 refine ⟨trivial, ?_⟩
 replace hT := hT.t hs; replace ha := ha.t hs; replace hd := hd.t hs; replace hsh := hsh.t hs; replace hds := hds.t hs; replace hv1 := hv1.t hs; replace hv2 := hv2.t hs; replace bx := bx.t hs; replace bw := bw.t hs; replace bt := bt.t hs
 refine aS (kq 11 (.box 37 (.tmp 4))) rfl rfl (a_box (cs := [.int .i64 id1, .int .i64 ver1, vv1]) hF 3 rfl rfl) ?_
 rintro _ w5 ⟨Cw5, bw5, rfl, hs, b1, hF⟩
 refine ⟨trivial, ?_⟩
 replace hT := hT.t hs; replace ha := ha.t hs; replace hd := hd.t hs; replace hsh := hsh.t hs; replace hds := hds.t hs; replace hv1 := hv1.t hs; replace hv2 := hv2.t hs; replace bx := bx.t hs; replace bw := bw.t hs; replace bt := bt.t hs; replace bc := bc.t hs
 refine aS (kq 12 (.box 37 (.tmp 5))) rfl rfl (a_box (cs := [.int .i64 id2, .int .i64 ver2, vv2]) hF 3 rfl rfl) ?_
 rintro _ w6 ⟨Cw6, bw6, rfl, hs, b2, hF⟩
 refine ⟨trivial, ?_⟩
 replace hT := hT.t hs; replace ha := ha.t hs; replace hd := hd.t hs; replace hsh := hsh.t hs; replace hds := hds.t hs; replace hv1 := hv1.t hs; replace hv2 := hv2.t hs; replace bx := bx.t hs; replace bw := bw.t hs; replace bt := bt.t hs; replace bc := bc.t hs; replace b1 := b1.t hs
 refine aS (kq 14 (.alloc 26)) rfl rfl (a_alloc (cs := [.int .i64 0, .slice none 0 0, .slice none 0 0]) hF 5 (by kernel_rfl)) ?_
 rintro _ w7 ⟨Cw7, bw7, rfl, hs, hy, hF⟩
 refine ⟨trivial, ?_⟩
 replace hT := hT.t hs; replace ha := ha.t hs; replace hd := hd.t hs; replace hsh := hsh.t hs; replace hds := hds.t hs; replace hv1 := hv1.t hs; replace hv2 := hv2.t hs; replace bx := bx.t hs; replace bw := bw.t hs; replace bt := bt.t hs; replace bc := bc.t hs; replace b1 := b1.t hs; replace b2 := b2.t hs
 refine yAc 15 (.int .i64 0) ?_
 refine Sch.nil ?_
 refine run_sq ?_
 refine run_pl [nn 0, nn 1, nn 2, nn 3, nn 4, nn 5, nn 6, yy 7, yy 8, yy 9, yy 10, yy 11] ?_
 refine nS (kq 24 (.load 26 (.tmp 7))) rfl rfl trivial (val_loadOwnAgg (n := 3) (vs := [.int .i64 bud, vs, vz]) bx.at_ (by kernel_rfl) (by kernel_rfl) rfl rfl rfl) ?_
 refine nS (kq 25 (.load 28 (.tmp 8))) rfl rfl trivial (val_loadOwnAgg (n := 3) (vs := [.int .i64 pr, va, vd]) bw.at_ (by kernel_rfl) (by kernel_rfl) rfl rfl rfl) ?_
 refine nS (kq 26 (.load 30 (.tmp 9))) rfl rfl trivial (val_loadOwnAgg (n := 2) (vs := [.int .i64 lo, .int .i64 hh]) bt.at_ (by kernel_rfl) (by kernel_rfl) rfl rfl rfl) ?_
 refine nS (kq 27 (.load 34 (.tmp 10))) rfl rfl trivial (val_loadOwnAgg (n := 6) (vs := [.int .i64 A.a, .int .i64 A.b, .int .i64 B.a, .int .i64 B.b, .int .i64 p, .int .i64 wt]) bc.at_ (by kernel_rfl) (by kernel_rfl) rfl rfl rfl) ?_
 refine nS (kq 28 (.load 37 (.tmp 11))) rfl rfl trivial (val_loadOwnAgg (n := 3) (vs := [.int .i64 id1, .int .i64 ver1, vv1]) b1.at_ (by kernel_rfl) (by kernel_rfl) rfl rfl rfl) ?_
 refine nS (kq 29 (.load 37 (.tmp 12))) rfl rfl trivial (val_loadOwnAgg (n := 3) (vs := [.int .i64 id2, .int .i64 ver2, vv2]) b2.at_ (by kernel_rfl) (by kernel_rfl) rfl rfl rfl) ?_
 refine cS (kq 30 (.call { callee := .value (.func 62), args := #[(.tmp 24), (.tmp 25), (.tmp 26), (.tmp 27), (.tmp 28), (.tmp 29)], argTypes := #[26, 28, 30, 34, 37, 37] })) rfl rfl (ent Tryz.call62 rfl) (acheck_ok hF hRo hsh hds hW ha hd hK hp hAB h1 h2 hQ1 hv1 hQ2 hv2) ?_
 rintro vw8 w8 ⟨u, fl, ok, rfl, hs, hg, hFl⟩
 refine ⟨trivial, ?_⟩
 replace hF := hF.st hs
 replace hT := hT.t hs; replace ha := ha.t hs; replace hd := hd.t hs; replace hsh := hsh.t hs; replace hds := hds.t hs; replace hv1 := hv1.t hs; replace hv2 := hv2.t hs; replace bx := bx.t hs; replace bw := bw.t hs; replace bt := bt.t hs; replace bc := bc.t hs; replace b1 := b1.t hs; replace b2 := b2.t hs; replace hy := hy.t hs
 refine yM 23 30 ?_
 refine yV (kq 31 (.extract (.tmp 23) 0)) (fun _ => val_extract rfl rfl) ?_
 refine yV (kq 32 (.extract (.tmp 23) 1)) (fun _ => val_extract rfl rfl) ?_
 refine yA 16 31 ?_
 refine yA 17 32 ?_
 refine Sch.nil ?_
 refine run_sq ?_
 refine run_sq ?_
 by_cases hok : ok = false
 ·
  refine run_pl [yy 0, yy 1] ?_
  refine yM 33 17 ?_
  refine yV (kq 34 (.binOp .neq 52 (.tmp 33) (.const (.int .i64 0)) 52)) (fun _ => val_is (val_neq rfl rfl) (show _ = Value.bool true from by rw [hok]; rfl)) ?_
  refine Sch.nil ?_
  refine run_cT 34 ?_
  refine run_sq ?_
  refine run_pl [yy 0, yy 1, nn 2, yy 3] ?_
  refine yV (kq 35 (.build 26 #[])) (fun _ => val_build (zs := [.int .i64 0, .slice none 0 0, .slice none 0 0]) (ps := [(0, 1), (1, 1), (2, 1)]) (qs := []) (cs := [.int .i64 0, .slice none 0 0, .slice none 0 0]) (by kernel_rfl) (by kernel_rfl) trivial rfl) ?_
  refine yM 36 17 ?_
  refine aN (k0 (.store 26 (.tmp 14) (.tmp 35))) rfl (a_storeAll (vs := [.int .i64 0, .slice none 0 0, .slice none 0 0]) (n := 3) rfl rfl (by kernel_rfl) rfl rfl (by intro u hu; simp only [List.mem_cons, List.not_mem_nil, or_false] at hu; rcases hu with rfl | rfl | rfl <;> rfl) hy rfl) ?_
  rintro _ w9 ⟨rfl, hs, hy⟩
  refine ⟨trivial, ?_⟩
  replace hF := hF.st hs
  replace hT := hT.t hs; replace ha := ha.t hs; replace hd := hd.t hs; replace hsh := hsh.t hs; replace hds := hds.t hs; replace hv1 := hv1.t hs; replace hv2 := hv2.t hs; replace bx := bx.t hs; replace bw := bw.t hs; replace bt := bt.t hs; replace bc := bc.t hs; replace b1 := b1.t hs; replace b2 := b2.t hs; replace hg := hg.t hs
  refine yA 15 36 ?_
  refine Sch.nil ?_
  refine run_retC2 (by kernel_rfl) Tryz.func31 Tryz.results31 rfl rfl hy.at_ (by kernel_rfl) (by kernel_rfl) rfl ?_
  subst hok
  exact ⟨0, _, _, [], [], 13, rfl, hT.out1 (by decide), rv_nil, rv_nil, ⟨fl, false, hFl, .inl ⟨rfl, rfl⟩⟩⟩
 ·
  refine run_pl [yy 0, yy 1] ?_
  refine yM 33 17 ?_
  refine yV (kq 34 (.binOp .neq 52 (.tmp 33) (.const (.int .i64 0)) 52)) (fun _ => val_is (val_neq rfl rfl) (show _ = Value.bool false from by rw [show ok = true from by simpa using hok]; rfl)) ?_
  refine Sch.nil ?_
  refine run_cF 34 ?_
  refine run_sk ?_
  refine run_sq ?_
  refine run_sq ?_
  refine run_pl [yy 0, yy 1, yy 2] ?_
  replace hok : ok = true := by simpa using hok
  subst hok
  have hrl1 := hRo.ls
  have hrl2 := hRo.ld
  refine yM 37 16 ?_
  refine yS (kq 38 (.call { callee := .builtin .len, args := #[(.tmp 37)], argTypes := #[22] })) rfl rfl (fun w' hS => hg.lenV rfl Tryz.underlying22 w' ) ?_
  refine yV (kq 39 (.move (.const (.int .i64 0)))) (fun _ => val_move rfl) ?_
  refine Sch.nil ?_
  refine run_bk 0 ?_
  
  refine run_lp (ι := Nat × (Nat → Nat)) (I := fun x w => x.1 ≤ fl.length ∧ (∀ i (hi : i < x.1) (hl : i < fl.length), hasS sh A ver1 fl[i] = true ∧ hasS sh B ver2 fl[i] = true) ∧ Lim w x.2 ∧ Stp [2, 3, 4, 5, 6, 7, 8, 9] w₀ (col1 C) w x.2 ∧ RV w (Mc x.2) sh vs ∧ RV w (Mc x.2) ds vz ∧ RV w (Mc x.2) fl u ∧ OwnB w x.2 4 bw1 (.cells [.int .i64 bud, vs, vz].toArray 26) ∧ OwnB w x.2 3 bw4 (.cells [.int .i64 A.a, .int .i64 A.b, .int .i64 B.a, .int .i64 B.b, .int .i64 p, .int .i64 wt].toArray 34) ∧ OwnB w x.2 3 bw5 (.cells [.int .i64 id1, .int .i64 ver1, vv1].toArray 37) ∧ OwnB w x.2 3 bw6 (.cells [.int .i64 id2, .int .i64 ver2, vv2].toArray 37) ∧ OwnB w x.2 5 bw7 (.cells [.int .i64 0, .slice none 0 0, .slice none 0 0].toArray 26)) (e := fun x => [(6, .bool same), (7, .pointer (some ⟨bw1, 0, none⟩)), (10, .pointer (some ⟨bw4, 0, none⟩)), (11, .pointer (some ⟨bw5, 0, none⟩)), (12, .pointer (some ⟨bw6, 0, none⟩)), (14, .pointer (some ⟨bw7, 0, none⟩)), (37, u), (38, .int .i64 fl.length), (39, .int .i64 x.1)]) (m := fun x => fl.length - x.1) (x₀ := (0, Cw7)) (sr 6 (sr 7 (sr 10 (sr 11 (sr 12 (sr 14 (sr 37 (sr 38 (sr 39 (sub_nil _)))))))))) ?_ ?_
  · exact ⟨Nat.zero_le _, fun i hi _ => by simp only at hi; omega, hF, hT, hsh, hds, hg, bx, bc, b1, b2, hy⟩
  intro ⟨k, C1⟩ w10 hI next
  obtain ⟨hk, h0, hF, hT, hsh, hds, hg, bx, bc, b1, b2, hy⟩ := hI
  try simp only at hk h0 hF hT hsh hds hg bx bc b1 b2 hy
  have next1 := next
  clear next
  show Run _ _ _ _ [(6, .bool same), (7, .pointer (some ⟨bw1, 0, none⟩)), (10, .pointer (some ⟨bw4, 0, none⟩)), (11, .pointer (some ⟨bw5, 0, none⟩)), (12, .pointer (some ⟨bw6, 0, none⟩)), (14, .pointer (some ⟨bw7, 0, none⟩)), (37, u), (38, .int .i64 fl.length), (39, .int .i64 k)] _ _
  have hle := hg.le
  refine run_sq ?_
  refine run_pl [yy 0] ?_
  refine yV (kq 40 (.binOp .lss 3 (.tmp 39) (.tmp 38) 3)) (fun _ => val_lss rfl rfl) ?_
  refine Sch.nil ?_
  refine run_sq ?_
  refine run_i 40 rfl (fun h40 => ?_) (fun h40 => ?_)
  ·
   have hkl : k < fl.length := by omega
   refine run_sk ?_
   refine run_sq ?_
   refine run_bk 1 ?_
   refine run_sq ?_
   refine run_pl [yy 0, nn 1, yy 2] ?_
   refine iS (e := 3) (kq 41 (.indexAddr 22 (.tmp 37) (.tmp 39))) rfl rfl hg rfl (by kernel_rfl) rfl (by omega) (by omega) ?_
   intro b41 o41 h41
   try simp only [Int.toNat_natCast] at h41
   refine lN (kq 42 (.load 3 (.tmp 41))) rfl rfl trivial h41 (by kernel_rfl) rfl rfl ?_
   intro v42 g42
   first | (obtain rfl := rv_nat.1 g42) | (obtain rfl := rv_int.1 g42)
   refine yA 19 42 ?_
   refine Sch.nil ?_
   refine run_sq ?_
   by_cases hA : hasS sh A ver1 (fl[k]'hkl) = true
   ·
    by_cases hB : hasS sh B ver2 (fl[k]'hkl) = true
    ·
     refine run_pl [nn 0, yy 1, nn 2, yy 3, nn 4, yy 5, nn 6, yy 7, yy 8, nn 9, yy 10, nn 11, yy 12, nn 13, yy 14, nn 15, yy 16, yy 17] ?_
     refine nS (kq 43 (.load 26 (.tmp 7))) rfl rfl trivial (val_loadOwnAgg (n := 3) (vs := [.int .i64 bud, vs, vz]) bx.at_ (by kernel_rfl) (by kernel_rfl) rfl rfl rfl) ?_
     refine yF 44 34 10 0 0 ?_
     refine nS (kq 45 (.load 32 (.tmp 44))) rfl rfl trivial (val_loadOwnAgg (n := 2) (vs := encR A) bc.at_ (by kernel_rfl) (by kernel_rfl) rfl rfl rfl) ?_
     refine yF 46 37 11 1 1 ?_
     refine nS (kq 47 (.load 3 (.tmp 46))) rfl rfl trivial (val_loadOwn b1.at_ (by kernel_rfl) rfl rfl) ?_
     refine yM 48 19 ?_
     refine cS (kq 49 (.call { callee := .value (.func 59), args := #[(.tmp 43), (.tmp 45), (.tmp 47), (.tmp 48)], argTypes := #[26, 32, 3, 3] })) rfl rfl (ent Tryz.call59 rfl) (shown_ok (bud := bud) (vz := vz) (r := A) hF hsh) ?_
     rintro vw11 w11 ⟨rfl, hs⟩
     rw [hA]
     refine ⟨trivial, ?_⟩
     replace hF := hF.st hs
     replace hT := hT.t hs; replace hsh := hsh.t hs; replace hds := hds.t hs; replace hg := hg.t hs; replace bx := bx.t hs; replace bc := bc.t hs; replace b1 := b1.t hs; replace b2 := b2.t hs; replace hy := hy.t hs; replace h41 := h41.t hs
     refine yV (kq 50 (.unOp .not 4 (.tmp 49))) (fun _ => val_not rfl) ?_
     refine yM 51 50 ?_
     refine nS (kg 52 (.load 26 (.tmp 7)) 8 false) rfl rfl trivial (val_loadOwnAgg (n := 3) (vs := [.int .i64 bud, vs, vz]) bx.at_ (by kernel_rfl) (by kernel_rfl) rfl rfl rfl) ?_
     refine yFg 53 34 10 1 2 8 false ?_
     refine nS (kg 54 (.load 32 (.tmp 53)) 8 false) rfl rfl trivial (val_loadOwnAgg (n := 2) (vs := encR B) bc.at_ (by kernel_rfl) (by kernel_rfl) rfl rfl rfl) ?_
     refine yFg 55 37 12 1 1 8 false ?_
     refine nS (kg 56 (.load 3 (.tmp 55)) 8 false) rfl rfl trivial (val_loadOwn b2.at_ (by kernel_rfl) rfl rfl) ?_
     refine yMg 57 19 8 false ?_
     refine cS (kg 58 (.call { callee := .value (.func 59), args := #[(.tmp 52), (.tmp 54), (.tmp 56), (.tmp 57)], argTypes := #[26, 32, 3, 3] }) 8 false) rfl rfl (ent Tryz.call59 rfl) (shown_ok (bud := bud) (vz := vz) (r := B) hF hsh) ?_
     rintro vw12 w12 ⟨rfl, hs⟩
     rw [hB]
     refine ⟨trivial, ?_⟩
     replace hF := hF.st hs
     replace hT := hT.t hs; replace hsh := hsh.t hs; replace hds := hds.t hs; replace hg := hg.t hs; replace bx := bx.t hs; replace bc := bc.t hs; replace b1 := b1.t hs; replace b2 := b2.t hs; replace hy := hy.t hs; replace h41 := h41.t hs
     refine yV (kg 59 (.unOp .not 4 (.tmp 58)) 8 false) (fun _ => val_not rfl) ?_
     refine yOf 60 51 59 ?_
     refine Sch.nil ?_
     refine run_cF 60 ?_
     refine run_sk ?_
     refine run_inBlock ?_
     refine run_pl [yy 0, yy 1] ?_
     refine yV (kq 62 (.binOp .add 3 (.tmp 39) (.const (.int .i64 1)) 3)) (fun _ => val_addi rfl rfl (by omega) (by omega)) ?_
     refine yM 39 62 ?_
     refine Sch.nil ?_
     refine kp (sub_cons 6 rfl rfl (sub_cons 7 rfl rfl (sub_cons 10 rfl rfl (sub_cons 11 rfl rfl (sub_cons 12 rfl rfl (sub_cons 14 rfl rfl (sub_cons 37 rfl rfl (sub_cons 38 rfl rfl (sub_cons 39 rfl (eq_int (by simp)) (sub_nil _)))))))))) (next1 (k + 1, C1) _ ⟨(by first | omega | (simp only; omega)), (fun i hi hl => by
         by_cases e : i = k
         · subst e; exact ⟨hA, hB⟩
         · exact h0 i (by omega) hl), hF, hT, hsh, hds, hg, bx, bc, b1, b2, hy⟩ (by first | omega | (simp only; omega)))
    ·
     refine run_pl [nn 0, yy 1, nn 2, yy 3, nn 4, yy 5, nn 6, yy 7, yy 8, nn 9, yy 10, nn 11, yy 12, nn 13, yy 14, nn 15, yy 16, yy 17] ?_
     refine nS (kq 43 (.load 26 (.tmp 7))) rfl rfl trivial (val_loadOwnAgg (n := 3) (vs := [.int .i64 bud, vs, vz]) bx.at_ (by kernel_rfl) (by kernel_rfl) rfl rfl rfl) ?_
     refine yF 44 34 10 0 0 ?_
     refine nS (kq 45 (.load 32 (.tmp 44))) rfl rfl trivial (val_loadOwnAgg (n := 2) (vs := encR A) bc.at_ (by kernel_rfl) (by kernel_rfl) rfl rfl rfl) ?_
     refine yF 46 37 11 1 1 ?_
     refine nS (kq 47 (.load 3 (.tmp 46))) rfl rfl trivial (val_loadOwn b1.at_ (by kernel_rfl) rfl rfl) ?_
     refine yM 48 19 ?_
     refine cS (kq 49 (.call { callee := .value (.func 59), args := #[(.tmp 43), (.tmp 45), (.tmp 47), (.tmp 48)], argTypes := #[26, 32, 3, 3] })) rfl rfl (ent Tryz.call59 rfl) (shown_ok (bud := bud) (vz := vz) (r := A) hF hsh) ?_
     rintro vw13 w13 ⟨rfl, hs⟩
     rw [hA]
     refine ⟨trivial, ?_⟩
     replace hF := hF.st hs
     replace hT := hT.t hs; replace hsh := hsh.t hs; replace hds := hds.t hs; replace hg := hg.t hs; replace bx := bx.t hs; replace bc := bc.t hs; replace b1 := b1.t hs; replace b2 := b2.t hs; replace hy := hy.t hs; replace h41 := h41.t hs
     refine yV (kq 50 (.unOp .not 4 (.tmp 49))) (fun _ => val_not rfl) ?_
     refine yM 51 50 ?_
     refine nS (kg 52 (.load 26 (.tmp 7)) 8 false) rfl rfl trivial (val_loadOwnAgg (n := 3) (vs := [.int .i64 bud, vs, vz]) bx.at_ (by kernel_rfl) (by kernel_rfl) rfl rfl rfl) ?_
     refine yFg 53 34 10 1 2 8 false ?_
     refine nS (kg 54 (.load 32 (.tmp 53)) 8 false) rfl rfl trivial (val_loadOwnAgg (n := 2) (vs := encR B) bc.at_ (by kernel_rfl) (by kernel_rfl) rfl rfl rfl) ?_
     refine yFg 55 37 12 1 1 8 false ?_
     refine nS (kg 56 (.load 3 (.tmp 55)) 8 false) rfl rfl trivial (val_loadOwn b2.at_ (by kernel_rfl) rfl rfl) ?_
     refine yMg 57 19 8 false ?_
     refine cS (kg 58 (.call { callee := .value (.func 59), args := #[(.tmp 52), (.tmp 54), (.tmp 56), (.tmp 57)], argTypes := #[26, 32, 3, 3] }) 8 false) rfl rfl (ent Tryz.call59 rfl) (shown_ok (bud := bud) (vz := vz) (r := B) hF hsh) ?_
     rintro vw14 w14 ⟨rfl, hs⟩
     rw [Bool.eq_false_iff.2 hB]
     refine ⟨trivial, ?_⟩
     replace hF := hF.st hs
     replace hT := hT.t hs; replace hsh := hsh.t hs; replace hds := hds.t hs; replace hg := hg.t hs; replace bx := bx.t hs; replace bc := bc.t hs; replace b1 := b1.t hs; replace b2 := b2.t hs; replace hy := hy.t hs; replace h41 := h41.t hs
     refine yV (kg 59 (.unOp .not 4 (.tmp 58)) 8 false) (fun _ => val_not rfl) ?_
     refine yOf 60 51 59 ?_
     refine Sch.nil ?_
     refine run_cT 60 ?_
     refine run_sq ?_
     refine run_pl [yy 0, nn 1, yy 2] ?_
     refine yV (kq 61 (.build 26 #[])) (fun _ => val_build (zs := [.int .i64 0, .slice none 0 0, .slice none 0 0]) (ps := [(0, 1), (1, 1), (2, 1)]) (qs := []) (cs := [.int .i64 0, .slice none 0 0, .slice none 0 0]) (by kernel_rfl) (by kernel_rfl) trivial rfl) ?_
     refine aN (k0 (.store 26 (.tmp 14) (.tmp 61))) rfl (a_storeAll (vs := [.int .i64 0, .slice none 0 0, .slice none 0 0]) (n := 3) rfl rfl (by kernel_rfl) rfl rfl (by intro u hu; simp only [List.mem_cons, List.not_mem_nil, or_false] at hu; rcases hu with rfl | rfl | rfl <;> rfl) hy rfl) ?_
     rintro _ w15 ⟨rfl, hs, hy⟩
     refine ⟨trivial, ?_⟩
     replace hF := hF.st hs
     replace hT := hT.t hs; replace hsh := hsh.t hs; replace hds := hds.t hs; replace hg := hg.t hs; replace bx := bx.t hs; replace bc := bc.t hs; replace b1 := b1.t hs; replace b2 := b2.t hs; replace h41 := h41.t hs
     refine yAc 15 (.int .i64 50) ?_
     refine Sch.nil ?_
     refine run_retC2 (by kernel_rfl) Tryz.func31 Tryz.results31 rfl rfl hy.at_ (by kernel_rfl) (by kernel_rfl) rfl ?_
     have hno : ¬ AllS sh A B ver1 ver2 fl := fun e => hB (e _ (List.getElem_mem hkl)).2
     exact ⟨0, _, _, [], [], 50, rfl, hT.out1 (by decide), rv_nil, rv_nil, ⟨fl, true, hFl, .inr ⟨rfl, .inl ⟨hno, rfl⟩⟩⟩⟩
   ·
    refine run_pl [nn 0, yy 1, nn 2, yy 3, nn 4, yy 5, nn 6, yy 7, yy 8, nn 9, yy 10, nn 11, yy 12, nn 13, yy 14, nn 15, yy 16, yy 17] ?_
    refine nS (kq 43 (.load 26 (.tmp 7))) rfl rfl trivial (val_loadOwnAgg (n := 3) (vs := [.int .i64 bud, vs, vz]) bx.at_ (by kernel_rfl) (by kernel_rfl) rfl rfl rfl) ?_
    refine yF 44 34 10 0 0 ?_
    refine nS (kq 45 (.load 32 (.tmp 44))) rfl rfl trivial (val_loadOwnAgg (n := 2) (vs := encR A) bc.at_ (by kernel_rfl) (by kernel_rfl) rfl rfl rfl) ?_
    refine yF 46 37 11 1 1 ?_
    refine nS (kq 47 (.load 3 (.tmp 46))) rfl rfl trivial (val_loadOwn b1.at_ (by kernel_rfl) rfl rfl) ?_
    refine yM 48 19 ?_
    refine cS (kq 49 (.call { callee := .value (.func 59), args := #[(.tmp 43), (.tmp 45), (.tmp 47), (.tmp 48)], argTypes := #[26, 32, 3, 3] })) rfl rfl (ent Tryz.call59 rfl) (shown_ok (bud := bud) (vz := vz) (r := A) hF hsh) ?_
    rintro vw16 w16 ⟨rfl, hs⟩
    rw [Bool.eq_false_iff.2 hA]
    refine ⟨trivial, ?_⟩
    replace hF := hF.st hs
    replace hT := hT.t hs; replace hsh := hsh.t hs; replace hds := hds.t hs; replace hg := hg.t hs; replace bx := bx.t hs; replace bc := bc.t hs; replace b1 := b1.t hs; replace b2 := b2.t hs; replace hy := hy.t hs; replace h41 := h41.t hs
    refine yV (kq 50 (.unOp .not 4 (.tmp 49))) (fun _ => val_not rfl) ?_
    refine yM 51 50 ?_
    refine pW (kg 52 (.load 26 (.tmp 7)) 8 false) rfl rfl trivial ?_
    refine pX 53 8 false ?_
    refine pW (kg 54 (.load 32 (.tmp 53)) 8 false) rfl rfl trivial ?_
    refine pX 55 8 false ?_
    refine pW (kg 56 (.load 3 (.tmp 55)) 8 false) rfl rfl trivial ?_
    refine pX 57 8 false ?_
    refine pW (kg 58 (.call { callee := .value (.func 59), args := #[(.tmp 52), (.tmp 54), (.tmp 56), (.tmp 57)], argTypes := #[26, 32, 3, 3] }) 8 false) rfl rfl trivial ?_
    refine pX 59 8 false ?_
    refine yOt 60 51 59 ?_
    refine Sch.nil ?_
    refine run_cT 60 ?_
    refine run_sq ?_
    refine run_pl [yy 0, nn 1, yy 2] ?_
    refine yV (kq 61 (.build 26 #[])) (fun _ => val_build (zs := [.int .i64 0, .slice none 0 0, .slice none 0 0]) (ps := [(0, 1), (1, 1), (2, 1)]) (qs := []) (cs := [.int .i64 0, .slice none 0 0, .slice none 0 0]) (by kernel_rfl) (by kernel_rfl) trivial rfl) ?_
    refine aN (k0 (.store 26 (.tmp 14) (.tmp 61))) rfl (a_storeAll (vs := [.int .i64 0, .slice none 0 0, .slice none 0 0]) (n := 3) rfl rfl (by kernel_rfl) rfl rfl (by intro u hu; simp only [List.mem_cons, List.not_mem_nil, or_false] at hu; rcases hu with rfl | rfl | rfl <;> rfl) hy rfl) ?_
    rintro _ w17 ⟨rfl, hs, hy⟩
    refine ⟨trivial, ?_⟩
    replace hF := hF.st hs
    replace hT := hT.t hs; replace hsh := hsh.t hs; replace hds := hds.t hs; replace hg := hg.t hs; replace bx := bx.t hs; replace bc := bc.t hs; replace b1 := b1.t hs; replace b2 := b2.t hs; replace h41 := h41.t hs
    refine yAc 15 (.int .i64 50) ?_
    refine Sch.nil ?_
    refine run_retC2 (by kernel_rfl) Tryz.func31 Tryz.results31 rfl rfl hy.at_ (by kernel_rfl) (by kernel_rfl) rfl ?_
    have hno : ¬ AllS sh A B ver1 ver2 fl := fun e => hA (e _ (List.getElem_mem hkl)).1
    exact ⟨0, _, _, [], [], 50, rfl, hT.out1 (by decide), rv_nil, rv_nil, ⟨fl, true, hFl, .inr ⟨rfl, .inl ⟨hno, rfl⟩⟩⟩⟩
  ·
   have hkl : k = fl.length := by omega
   have hAll : AllS sh A B ver1 ver2 fl := fun f hf => by
     obtain ⟨i, hi, rfl⟩ := List.getElem_of_mem hf
     exact h0 i (by omega) hi
   refine run_ex 0 ?_
   refine run_sq ?_
   refine run_pl [yy 0, nn 1, yy 2, nn 3, yy 4, nn 5, yy 6, nn 7, yy 8, yy 9, nn 10, nn 11] ?_
   refine yF 63 34 10 0 0 ?_
   refine nS (kq 64 (.load 32 (.tmp 63))) rfl rfl trivial (val_loadOwnAgg (n := 2) (vs := encR A) bc.at_ (by kernel_rfl) (by kernel_rfl) rfl rfl rfl) ?_
   refine yF 65 34 10 1 2 ?_
   refine nS (kq 66 (.load 32 (.tmp 65))) rfl rfl trivial (val_loadOwnAgg (n := 2) (vs := encR B) bc.at_ (by kernel_rfl) (by kernel_rfl) rfl rfl rfl) ?_
   refine yF 67 37 11 1 1 ?_
   refine nS (kq 68 (.load 3 (.tmp 67))) rfl rfl trivial (val_loadOwn b1.at_ (by kernel_rfl) rfl rfl) ?_
   refine yF 69 37 12 1 1 ?_
   refine nS (kq 70 (.load 3 (.tmp 69))) rfl rfl trivial (val_loadOwn b2.at_ (by kernel_rfl) rfl rfl) ?_
   refine yM 71 6 ?_
   refine yV (kq 72 (.build 75 #[(0, (.tmp 64)), (1, (.tmp 66)), (2, (.tmp 68)), (3, (.tmp 70)), (4, (.tmp 71))])) (fun _ => val_build (zs := [.int .i64 0, .int .i64 0, .int .i64 0, .int .i64 0, .int .i64 0, .int .i64 0, .bool false]) (ps := [(0, 2), (2, 2), (4, 1), (5, 1), (6, 1)]) (qs := [(0, encR A), (1, encR B), (2, [.int .i64 ver1]), (3, [.int .i64 ver2]), (4, [.bool same])]) (cs := encD (⟨A, B, ver1, ver2, same⟩ : Dcs)) (by kernel_rfl) (by kernel_rfl) (by exact ⟨rfl, ⟨_, rfl, rfl⟩, rfl, ⟨_, rfl, rfl⟩, rfl, ⟨_, rfl, rfl⟩, rfl, ⟨_, rfl, rfl⟩, rfl, ⟨_, rfl, rfl⟩, trivial⟩) rfl) ?_
   refine aS (kq 20 (.alloc 75)) rfl rfl (a_alloc (cs := [.int .i64 0, .int .i64 0, .int .i64 0, .int .i64 0, .int .i64 0, .int .i64 0, .bool false]) hF 7 (by kernel_rfl)) ?_
   rintro _ w18 ⟨Cw18, bw18, rfl, hs, hd1, hF⟩
   refine ⟨trivial, ?_⟩
   replace hT := hT.t hs; replace hsh := hsh.t hs; replace hds := hds.t hs; replace hg := hg.t hs; replace bx := bx.t hs; replace bc := bc.t hs; replace b1 := b1.t hs; replace b2 := b2.t hs; replace hy := hy.t hs
   refine aN (k0 (.store 75 (.tmp 20) (.tmp 72))) rfl (a_storeAll (vs := encD (⟨A, B, ver1, ver2, same⟩ : Dcs)) (n := 7) rfl rfl (by kernel_rfl) rfl rfl (by intro u hu; simp only [encD, List.mem_cons, List.not_mem_nil, or_false] at hu; rcases hu with rfl | rfl | rfl | rfl | rfl | rfl | rfl <;> rfl) hd1 rfl) ?_
   rintro _ w19 ⟨rfl, hs, hd1⟩
   refine ⟨trivial, ?_⟩
   replace hF := hF.st hs
   replace hT := hT.t hs; replace hsh := hsh.t hs; replace hds := hds.t hs; replace hg := hg.t hs; replace bx := bx.t hs; replace bc := bc.t hs; replace b1 := b1.t hs; replace b2 := b2.t hs; replace hy := hy.t hs
   refine Sch.nil ?_
   refine run_sq ?_
   refine run_pl [yy 0, nn 1, nn 2, nn 3, yy 4, yy 5, yy 6, yy 7, yy 8] ?_
   refine yF 74 26 7 2 2 ?_
   refine nS (kq 75 (.load 24 (.tmp 74))) rfl rfl trivial (val_loadOwn bx.at_ (by kernel_rfl) rfl rfl) ?_
   refine nS (kq 76 (.load 75 (.tmp 20))) rfl rfl trivial (val_loadOwnAgg (n := 7) (vs := encD (⟨A, B, ver1, ver2, same⟩ : Dcs)) hd1.at_ (by kernel_rfl) (by kernel_rfl) rfl rfl rfl) ?_
   refine cS (kq 77 (.call { callee := .value (.func 68), args := #[(.tmp 75), (.tmp 76), (.func 69)], argTypes := #[24, 75, 111] })) rfl rfl (ent Tryz.call68 rfl) (bsD_ok (y := (⟨A, B, ver1, ver2, same⟩ : Dcs)) hF hds hRo.da (by omega)) ?_
   rintro vw20 w20 ⟨i, b, rfl, hs, hbs, hb1, hb2⟩
   refine ⟨trivial, ?_⟩
   replace hF := hF.st hs
   replace hT := hT.t hs; replace hsh := hsh.t hs; replace hds := hds.t hs; replace hg := hg.t hs; replace bx := bx.t hs; replace bc := bc.t hs; replace b1 := b1.t hs; replace b2 := b2.t hs; replace hy := hy.t hs; replace hd1 := hd1.t hs
   refine yM 73 77 ?_
   refine yV (kq 78 (.extract (.tmp 73) 0)) (fun _ => val_extract rfl rfl) ?_
   refine yV (kq 79 (.extract (.tmp 73) 1)) (fun _ => val_extract rfl rfl) ?_
   refine yA 21 78 ?_
   refine yA 22 79 ?_
   refine Sch.nil ?_
   refine run_sq ?_
   refine run_bk 2 ?_
   refine run_sq ?_
   refine run_pl [yy 0, yy 1] ?_
   refine yM 81 22 ?_
   refine yA 80 81 ?_
   refine Sch.nil ?_
   refine run_c 80 rfl (fun h80 => ?_) (fun h80 => ?_)
   ·
    have hth := hb1 h80
    refine run_sq ?_
    refine run_pl [yy 0, nn 1, yy 2] ?_
    refine yV (kq 82 (.build 26 #[])) (fun _ => val_build (zs := [.int .i64 0, .slice none 0 0, .slice none 0 0]) (ps := [(0, 1), (1, 1), (2, 1)]) (qs := []) (cs := [.int .i64 0, .slice none 0 0, .slice none 0 0]) (by kernel_rfl) (by kernel_rfl) trivial rfl) ?_
    refine aN (k0 (.store 26 (.tmp 14) (.tmp 82))) rfl (a_storeAll (vs := [.int .i64 0, .slice none 0 0, .slice none 0 0]) (n := 3) rfl rfl (by kernel_rfl) rfl rfl (by intro u hu; simp only [List.mem_cons, List.not_mem_nil, or_false] at hu; rcases hu with rfl | rfl | rfl <;> rfl) hy rfl) ?_
    rintro _ w21 ⟨rfl, hs, hy⟩
    refine ⟨trivial, ?_⟩
    replace hF := hF.st hs
    replace hT := hT.t hs; replace hsh := hsh.t hs; replace hds := hds.t hs; replace hg := hg.t hs; replace bx := bx.t hs; replace bc := bc.t hs; replace b1 := b1.t hs; replace b2 := b2.t hs; replace hd1 := hd1.t hs
    refine yAc 15 (.int .i64 42) ?_
    refine Sch.nil ?_
    refine run_retC2 (by kernel_rfl) Tryz.func31 Tryz.results31 rfl rfl hy.at_ (by kernel_rfl) (by kernel_rfl) rfl ?_
    exact ⟨0, _, _, [], [], 42, rfl, hT.out1 (by decide), rv_nil, rv_nil, ⟨fl, true, hFl, .inr ⟨rfl, .inr ⟨hAll, i, hbs, .inl ⟨hth, rfl⟩⟩⟩⟩⟩
   ·
    have hth := hb2 h80
    have hie := hbs.end_ hend hth
    have hlx := hbs.jl
    refine run_sq ?_
    refine run_pl [yy 0, nn 1, yy 2, yy 3, yy 4] ?_
    refine yF 84 26 7 2 2 ?_
    refine nS (kq 85 (.load 24 (.tmp 84))) rfl rfl trivial (val_loadOwn bx.at_ (by kernel_rfl) rfl rfl) ?_
    refine yS (kq 86 (.call { callee := .builtin .len, args := #[(.tmp 85)], argTypes := #[24] })) rfl rfl (fun w' hS => hds.lenV rfl Tryz.underlying24 w' ) ?_
    refine yV (kq 87 (.binOp .eql 3 (.tmp 86) (.const (.int .i64 4096)) 3)) (fun _ => val_eql rfl rfl) ?_
    refine yA 83 87 ?_
    refine Sch.nil ?_
    refine run_i 83 rfl (fun h83 => ?_) (fun h83 => ?_)
    ·
     refine run_sq ?_
     refine run_pl [yy 0, nn 1, yy 2] ?_
     refine yV (kq 88 (.build 26 #[])) (fun _ => val_build (zs := [.int .i64 0, .slice none 0 0, .slice none 0 0]) (ps := [(0, 1), (1, 1), (2, 1)]) (qs := []) (cs := [.int .i64 0, .slice none 0 0, .slice none 0 0]) (by kernel_rfl) (by kernel_rfl) trivial rfl) ?_
     refine aN (k0 (.store 26 (.tmp 14) (.tmp 88))) rfl (a_storeAll (vs := [.int .i64 0, .slice none 0 0, .slice none 0 0]) (n := 3) rfl rfl (by kernel_rfl) rfl rfl (by intro u hu; simp only [List.mem_cons, List.not_mem_nil, or_false] at hu; rcases hu with rfl | rfl | rfl <;> rfl) hy rfl) ?_
     rintro _ w22 ⟨rfl, hs, hy⟩
     refine ⟨trivial, ?_⟩
     replace hF := hF.st hs
     replace hT := hT.t hs; replace hsh := hsh.t hs; replace hds := hds.t hs; replace hg := hg.t hs; replace bx := bx.t hs; replace bc := bc.t hs; replace b1 := b1.t hs; replace b2 := b2.t hs; replace hd1 := hd1.t hs
     refine yAc 15 (.int .i64 1) ?_
     refine Sch.nil ?_
     refine run_retC2 (by kernel_rfl) Tryz.func31 Tryz.results31 rfl rfl hy.at_ (by kernel_rfl) (by kernel_rfl) rfl ?_
     exact ⟨0, _, _, [], [], 1, rfl, hT.out1 (by decide), rv_nil, rv_nil, ⟨fl, true, hFl, .inr ⟨rfl, .inr ⟨hAll, i, hbs, .inr ⟨hth, .inl ⟨by omega, rfl⟩⟩⟩⟩⟩⟩
    ·
     refine run_sk ?_
     refine run_inBlock ?_
     refine run_sq ?_
     refine run_pl [nn 0, nn 1, nn 2] ?_
     refine nS (kq 89 (.load 26 (.tmp 7))) rfl rfl trivial (val_loadOwnAgg (n := 3) (vs := [.int .i64 bud, vs, vz]) bx.at_ (by kernel_rfl) (by kernel_rfl) rfl rfl rfl) ?_
     refine cS (kq 90 (.call { callee := .value (.func 63), args := #[(.tmp 89)], argTypes := #[26] })) rfl rfl (ent Tryz.call63 rfl) (freshD_ok hF hsh hds (by omega) (by omega) 6 (by decide)) ?_
     rintro vw23 w23 ⟨vs2, vz2, Cb, rfl, hs, hF, hsh2, hz⟩
     refine ⟨trivial, ?_⟩
     replace hT := hT.t hs; replace hsh := hsh.t hs; replace hds := hds.t hs; replace hg := hg.t hs; replace bx := bx.t hs; replace bc := bc.t hs; replace b1 := b1.t hs; replace b2 := b2.t hs; replace hy := hy.t hs; replace hd1 := hd1.t hs
     refine aN (k0 (.store 26 (.tmp 7) (.tmp 90))) rfl (a_storeAll (vs := [.int .i64 bud, vs2, vz2]) (n := 3) rfl rfl (by kernel_rfl) rfl rfl (by intro u hu; simp only [List.mem_cons, List.not_mem_nil, or_false] at hu; rcases hu with rfl | rfl | rfl <;> first | rfl | exact (hsh2.one rfl).2 | exact hz.one.2) bx rfl) ?_
     rintro _ w24 ⟨rfl, hs, bx⟩
     refine ⟨trivial, ?_⟩
     replace hF := hF.st hs
     replace hT := hT.t hs; replace hsh := hsh.t hs; replace hds := hds.t hs; replace hg := hg.t hs; replace bc := bc.t hs; replace b1 := b1.t hs; replace b2 := b2.t hs; replace hy := hy.t hs; replace hd1 := hd1.t hs; replace hsh2 := hsh2.t hs; replace hz := hz.t hs
     refine Sch.nil ?_
     refine run_sq ?_
     refine run_pl [yy 0, nn 1, yy 2, nn 3, nn 4, nn 5, yy 6, nn 7] ?_
     refine yF 91 26 7 2 2 ?_
     refine nS (kq 92 (.load 24 (.tmp 91))) rfl rfl trivial (val_loadOwn bx.at_ (by kernel_rfl) rfl rfl) ?_
     refine yM 93 21 ?_
     refine nS (kq 94 (.load 75 (.tmp 20))) rfl rfl trivial (val_loadOwnAgg (n := 7) (vs := encD (⟨A, B, ver1, ver2, same⟩ : Dcs)) hd1.at_ (by kernel_rfl) (by kernel_rfl) rfl rfl rfl) ?_
     refine aS (kq 95 (.buildSlice 24 1 #[(0, (.tmp 94))])) rfl rfl (a_buildSlice (ys := ([(⟨A, B, ver1, ver2, same⟩ : Dcs)] : List Dcs)) (e := 75) (bytes := 56) hF (by kernel_rfl) rfl (by decide) (by decide) ⟨rfl, ⟨_, rfl, rv_dcs.2 rfl⟩, trivial⟩) ?_
     rintro v95 w25 ⟨hs, g95, hF⟩
     refine ⟨trivial, ?_⟩
     replace hT := hT.t hs; replace hsh := hsh.t hs; replace hds := hds.t hs; replace hg := hg.t hs; replace bx := bx.t hs; replace bc := bc.t hs; replace b1 := b1.t hs; replace b2 := b2.t hs; replace hy := hy.t hs; replace hd1 := hd1.t hs; replace hsh2 := hsh2.t hs; replace hz := hz.t hs
     refine cS (kq 96 (.call { callee := .value (.func 70), args := #[(.tmp 92), (.tmp 93), (.tmp 95)], argTypes := #[24, 3, 24] })) rfl rfl (ent Tryz.call70 rfl) (insD_ok hF (by decide) hz g95 hie (by omega)) ?_
     rintro vq w26 ⟨Cq, hs, hq, hF⟩
     refine ⟨trivial, ?_⟩
     replace hT := hT.t hs; replace hsh := hsh.t hs; replace hds := hds.t hs; replace hg := hg.t hs; replace bx := bx.t hs; replace bc := bc.t hs; replace b1 := b1.t hs; replace b2 := b2.t hs; replace hy := hy.t hs; replace hd1 := hd1.t hs; replace hsh2 := hsh2.t hs; replace g95 := g95.t hs
     refine yF 97 26 7 2 2 ?_
     refine aN (k0 (.store 24 (.tmp 97) (.tmp 96))) rfl (a_store1 rfl rfl (by kernel_rfl) hq.one.1 hq.one.2 bx (by simp)) ?_
     rintro _ w27 ⟨rfl, hs, bx⟩
     refine ⟨trivial, ?_⟩
     replace hF := hF.st hs
     replace hT := hT.t hs; replace hsh := hsh.t hs; replace hds := hds.t hs; replace hg := hg.t hs; replace bc := bc.t hs; replace b1 := b1.t hs; replace b2 := b2.t hs; replace hy := hy.t hs; replace hd1 := hd1.t hs; replace hsh2 := hsh2.t hs; replace g95 := g95.t hs; replace hq := hq.t hs
     refine Sch.nil ?_
     refine run_sq ?_
     refine run_pl [nn 0, nn 1, yy 2] ?_
     refine nS (kq 98 (.load 26 (.tmp 7))) rfl rfl trivial (val_loadOwnAgg (n := 3) (vs := [.int .i64 bud, vs2, vq]) bx.at_ (by kernel_rfl) (by kernel_rfl) rfl rfl rfl) ?_
     refine aN (k0 (.store 26 (.tmp 14) (.tmp 98))) rfl (a_storeAll (vs := [.int .i64 bud, vs2, vq]) (n := 3) rfl rfl (by kernel_rfl) rfl rfl (by intro u hu; simp only [List.mem_cons, List.not_mem_nil, or_false] at hu; rcases hu with rfl | rfl | rfl <;> first | rfl | exact (hsh2.one rfl).2 | exact hq.one.2) hy rfl) ?_
     rintro _ w28 ⟨rfl, hs, hy⟩
     refine ⟨trivial, ?_⟩
     replace hF := hF.st hs
     replace hT := hT.t hs; replace hsh := hsh.t hs; replace hds := hds.t hs; replace hg := hg.t hs; replace bx := bx.t hs; replace bc := bc.t hs; replace b1 := b1.t hs; replace b2 := b2.t hs; replace hd1 := hd1.t hs; replace hsh2 := hsh2.t hs; replace g95 := g95.t hs; replace hq := hq.t hs
     refine yAc 15 (.int .i64 0) ?_
     refine Sch.nil ?_
     refine run_retC2 (by kernel_rfl) Tryz.func31 Tryz.results31 rfl rfl hy.at_ (by kernel_rfl) (by kernel_rfl) rfl ?_
     exact ⟨bud, _, _, sh, ds ++ [(⟨A, B, ver1, ver2, same⟩ : Dcs)], 0, rfl, hT.out1 (by decide), hsh2.out hT hF0 (Mc_col1 C), hq.out hT hF0 (Mc_col1 C) (fun b _ => col1_lt C (by decide) b) (by simp only [List.length_append, List.length_cons, List.length_nil]; omega), ⟨fl, true, hFl, .inr ⟨rfl, .inr ⟨hAll, i, hbs, .inr ⟨hth, .inr ⟨by omega, rfl, rfl, rfl, by rw [hie, List.take_length, List.drop_length, List.append_nil]⟩⟩⟩⟩⟩⟩
end Go.Proofs.YtionghonhnedgaaGreat
