/- Steps through functions of the program. -/
import Derived.Test.YtognfmeffnjijaaJH1
set_option linter.unusedVariables false
set_option linter.unusedSimpArgs false
set_option maxRecDepth 100000
set_option maxHeartbeats 4000000
namespace Go.Proofs.Ytognfmeffnjijaa
open Go.K Go.K.Rep

namespace F30
noncomputable def c0 := bodyOf Try.f30
noncomputable def c7 := (cl (cl (cr (cl (cr c0)))))
end F30
/-- 'of'. -/
theorem of_ok {w : World} {M : Nat → Prop} {l : List Nat} {vl : Value} {i : Int} (hl : RV w M l vl) (h0 : 0 ≤ i) (h1 : i < l.length) : Calls Try.prog 30 #[vl, .int .i64 i] w (Ret fun v w' => v = .tuple #[.int .i64 (gN l i.toNat), .bool true] ∧ w' = w) := by
 have hgi : gN l i.toNat = l[i.toNat]'(by omega) := getD_in _
 refine calls_start (c := F30.c0) (N := 25) [vl, .int .i64 i] Try.func30 (by kernel_rfl) (by kernel_rfl) (by kernel_rfl) ?_
 show Run _ _ _ _ [(0, vl), (1, .int .i64 i)] _ _
 refine run_sq ?_
 refine run_pl [yy 0, yy 1] ?_
 refine yAc 4 (.int .i64 0) ?_
 refine yAc 5 (.bool false) ?_
 refine Sch.nil ?_
 refine run_sq ?_
 refine run_sq ?_
 refine run_pl [yy 0, yy 1, yy 2, yy 3, yy 4, yy 5, yy 6, yy 7, yy 8, yy 9, yy 10, yy 11, nn 12, yy 13, yy 14] ?_
 refine yM 6 1 ?_
 refine yV (kq 7 (.binOp .lss 3 (.tmp 6) (.const (.int .i64 0)) 3)) (fun _ => val_is (val_lss rfl rfl) (show _ = Value.bool false from congrArg Value.bool (decide_eq_false (by omega)))) ?_
 refine yM 8 7 ?_
 refine yMg 9 1 2 false ?_
 refine yMg 10 0 2 false ?_
 refine yS (kg 11 (.call { callee := .builtin .len, args := #[(.tmp 10)], argTypes := #[22] }) 2 false) rfl rfl (fun w' hS => hl.lenV rfl Try.underlying22 w' ) ?_
 refine yV (kg 12 (.binOp .geq 3 (.tmp 9) (.tmp 11) 3) 2 false) (fun _ => val_is (val_geq rfl rfl) (show _ = Value.bool false from congrArg Value.bool (decide_eq_false (by omega)))) ?_
 refine yOf 13 8 12 ?_
 refine yM 14 13 ?_
 refine yMg 15 0 8 false ?_
 refine yMg 16 1 8 false ?_
 refine iS (e := 3) (kg 17 (.indexAddr 22 (.tmp 15) (.tmp 16)) 8 false) rfl rfl hl rfl (by kernel_rfl) rfl (by omega) (by omega) ?_
 intro b17 o17 h17
 try simp only [Int.toNat_natCast] at h17
 refine lN (kg 18 (.load 3 (.tmp 17)) 8 false) rfl rfl trivial h17 (by kernel_rfl) rfl rfl ?_
 intro v18 g18
 first | (obtain rfl := rv_nat.1 g18) | (obtain rfl := rv_int.1 g18)
 refine yV (kg 19 (.binOp .lss 3 (.tmp 18) (.const (.int .i64 0)) 3) 8 false) (fun _ => val_is (val_lss rfl rfl) (show _ = Value.bool false from congrArg Value.bool (decide_eq_false (by omega)))) ?_
 refine yOf 20 14 19 ?_
 refine Sch.nil ?_
 refine run_cF 20 ?_
 refine run_sk ?_
 refine run_sq ?_
 refine run_pl [yy 0, yy 1, yy 2, nn 3, yy 4, yy 5] ?_
 refine yM 21 0 ?_
 refine yM 22 1 ?_
 refine iS (e := 3) (kq 23 (.indexAddr 22 (.tmp 21) (.tmp 22))) rfl rfl hl rfl (by kernel_rfl) rfl (by omega) (by omega) ?_
 intro b23 o23 h23
 try simp only [Int.toNat_natCast] at h23
 refine lN (kq 24 (.load 3 (.tmp 23))) rfl rfl trivial h23 (by kernel_rfl) rfl rfl ?_
 intro v24 g24
 first | (obtain rfl := rv_nat.1 g24) | (obtain rfl := rv_int.1 g24)
 refine yA 4 24 ?_
 refine yAc 5 (.bool true) ?_
 refine Sch.nil ?_
 refine run_ret2 (by kernel_rfl) Try.func30 Try.results30 rfl rfl ?_
 exact ⟨by rw [hgi], rfl⟩
namespace F16
noncomputable def c0 := bodyOf Try.f16
noncomputable def c8 := (cl (cr (cl (cr (cr c0)))))
noncomputable def c17 := (cl (cl (cr (cr (cl c8)))))
noncomputable def c25 := (cl (cl (cr (cr (cr c17)))))
noncomputable def c26 := (cr (cl (cr (cr (cr c17)))))
noncomputable def c32 := (cl (cr (cr (cr (cr c17)))))
noncomputable def c33 := (cr (cr (cr (cr (cr c17)))))
noncomputable def c40 := (cl (cl (cr (cl (cr c33)))))
end F16
/-- 'Consistent', of what is. -/
theorem consistent_ok {w₀ : World} {C : Nat → Nat} {al bl : List Nat} {cs : List Couple} {va vb vc : Value} (hF : Lim w₀ C) (ha : RV w₀ (Mc C) al va) (hb : RV w₀ (Mc C) bl vb) (hc : RV w₀ (Mc C) cs vc)
    (hR : ∀ c ∈ cs, 0 ≤ c.a ∧ c.a < al.length ∧ 0 ≤ c.b ∧ c.b < bl.length) (hC : ∀ d ∈ cs, ∀ c ∈ cs, (gN al d.a.toNat = gN al c.a.toNat ↔ gN bl d.b.toNat = gN bl c.b.toNat)) :
    Calls Try.prog 16 #[va, vb, vc] w₀ (Ret fun v w' => v = .bool true ∧ Stp [] w₀ C w' C) := by
 have hF0 := hF
 have hT := Stp.refl [2, 3, 4, 5, 6, 7, 8, 9] w₀ (col1 C)
 replace hF := hF.col1
 replace ha : RV w₀ (Mc (col1 C)) al va := by rw [Mc_col1]; exact ha
 replace hb : RV w₀ (Mc (col1 C)) bl vb := by rw [Mc_col1]; exact hb
 replace hc : RV w₀ (Mc (col1 C)) cs vc := by rw [Mc_col1]; exact hc
 refine calls_start (c := F16.c0) (N := 80) [va, vb, vc] Try.func16 (by kernel_rfl) (by kernel_rfl) (by kernel_rfl) ?_
 show Run _ _ _ _ [(0, va), (1, vb), (2, vc)] _ _
 refine run_sq ?_
 refine run_pl [yy 0] ?_
 refine yAc 6 (.bool false) ?_
 refine Sch.nil ?_
 refine run_sq ?_
 refine run_pl [nn 0, nn 1, yy 2, yy 3] ?_
 refine aS (kq 19 (.makeMap 77 none)) rfl rfl (a_makeMap hF 3 kvI kvI) ?_
 rintro _ whfm ⟨Chfm, bf, rfl, hs, hfm, hF⟩
 refine ⟨trivial, ?_⟩
 replace hT := hT.t hs; replace ha := ha.t hs; replace hb := hb.t hs; replace hc := hc.t hs
 refine aS (kq 20 (.makeMap 77 none)) rfl rfl (a_makeMap hF 4 kvI kvI) ?_
 rintro _ whsm ⟨Chsm, bs, rfl, hs, hsm, hF⟩
 refine ⟨trivial, ?_⟩
 replace hT := hT.t hs; replace ha := ha.t hs; replace hb := hb.t hs; replace hc := hc.t hs; replace hfm := hfm.t hs
 refine yA 7 19 ?_
 refine yA 8 20 ?_
 refine Sch.nil ?_
 refine run_sq ?_
 refine run_sq ?_
 refine run_pl [yy 0, yy 1, yy 2] ?_
 refine yM 21 2 ?_
 refine yS (kq 22 (.call { callee := .builtin .len, args := #[(.tmp 21)], argTypes := #[31] })) rfl rfl (fun w' hS => hc.lenV rfl Try.underlying31 w' ) ?_
 refine yV (kq 23 (.move (.const (.int .i64 0)))) (fun _ => val_move rfl) ?_
 refine Sch.nil ?_
 refine run_bk 0 ?_
 
 refine run_lp (ι := Nat × (List (Int × Int)) × (List (Int × Int)) × (Nat → Nat)) (I := fun x w => x.1 ≤ cs.length ∧ (∀ p q : Int, mget x.2.1 p = some q → ∃ c ∈ cs, p = (gN al c.a.toNat : Nat) ∧ q = (gN bl c.b.toNat : Nat)) ∧ (∀ p q : Int, mget x.2.2.1 p = some q → ∃ c ∈ cs, p = (gN bl c.b.toNat : Nat) ∧ q = (gN al c.a.toNat : Nat)) ∧ Lim w x.2.2.2 ∧ Stp [2, 3, 4, 5, 6, 7, 8, 9] w₀ (col1 C) w x.2.2.2 ∧ RV w (Mc x.2.2.2) al va ∧ RV w (Mc x.2.2.2) bl vb ∧ RV w (Mc x.2.2.2) cs vc ∧ OwnM w x.2.2.2 3 bf kvI kvI x.2.1 ∧ OwnM w x.2.2.2 4 bs kvI kvI x.2.2.1) (e := fun x => [(0, va), (1, vb), (7, .map (some bf)), (8, .map (some bs)), (21, vc), (22, .int .i64 cs.length), (23, .int .i64 x.1)]) (m := fun x => cs.length - x.1) (x₀ := (0, [], [], Chsm)) (sr 0 (sr 1 (sr 7 (sr 8 (sr 21 (sr 22 (sr 23 (sub_nil _)))))))) ?_ ?_
 · exact ⟨Nat.zero_le _, (fun p q e => by cases e), (fun p q e => by cases e), hF, hT, ha, hb, hc, hfm, hsm⟩
 intro ⟨i, fm, sm, C1⟩ w1 hI next
 obtain ⟨hi, h1, h2, hF, hT, ha, hb, hc, hfm, hsm⟩ := hI
 try simp only at hi h1 h2 hF hT ha hb hc hfm hsm
 have next1 := next
 clear next
 show Run _ _ _ _ [(0, va), (1, vb), (7, .map (some bf)), (8, .map (some bs)), (21, vc), (22, .int .i64 cs.length), (23, .int .i64 i)] _ _
 have hle := hc.le
 refine run_sq ?_
 refine run_pl [yy 0] ?_
 refine yV (kq 24 (.binOp .lss 3 (.tmp 23) (.tmp 22) 3)) (fun _ => val_lss rfl rfl) ?_
 refine Sch.nil ?_
 refine run_sq ?_
 refine run_i 24 rfl (fun h24 => ?_) (fun h24 => ?_)
 ·
  have hil : i < cs.length := by omega
  have hxr := hR _ (List.getElem_mem hil)
  have hcx := fun d hd => hC d hd _ (List.getElem_mem hil)
  have hm : (cs[i]'hil) ∈ cs := List.getElem_mem hil
  refine run_sk ?_
  refine run_sq ?_
  refine run_bk 1 ?_
  refine run_sq ?_
  refine run_pl [yy 0, nn 1, nn 2, nn 3] ?_
  refine iS (e := 47) (kq 25 (.indexAddr 31 (.tmp 21) (.tmp 23))) rfl rfl hc rfl (by kernel_rfl) rfl (by omega) (by omega) ?_
  intro b25 o25 h25
  try simp only [Int.toNat_natCast] at h25
  refine lNA (kq 26 (.load 47 (.tmp 25))) rfl rfl trivial h25 (by kernel_rfl) (by kernel_rfl) rfl rfl ?_
  intro v26 g26
  obtain rfl := rv_couple.1 g26
  refine aS (kq 10 (.alloc 47)) rfl rfl (a_alloc (cs := [.int .i64 0, .int .i64 0]) hF 5 (by kernel_rfl)) ?_
  rintro _ w2 ⟨Cw2, bw2, rfl, hs, hx, hF⟩
  refine ⟨trivial, ?_⟩
  replace hT := hT.t hs; replace ha := ha.t hs; replace hb := hb.t hs; replace hc := hc.t hs; replace hfm := hfm.t hs; replace hsm := hsm.t hs; replace h25 := h25.t hs
  refine aN (k0 (.store 47 (.tmp 10) (.tmp 26))) rfl (a_storeAll (vs := [.int .i64 (cs[i]'hil).a, .int .i64 (cs[i]'hil).b]) (n := 2) rfl rfl (by kernel_rfl) rfl rfl (by intro u hu; simp only [List.mem_cons, List.not_mem_nil, or_false] at hu; rcases hu with rfl | rfl <;> rfl) hx rfl) ?_
  rintro _ w3 ⟨rfl, hs, hx⟩
  refine ⟨trivial, ?_⟩
  replace hF := hF.st hs
  replace hT := hT.t hs; replace ha := ha.t hs; replace hb := hb.t hs; replace hc := hc.t hs; replace hfm := hfm.t hs; replace hsm := hsm.t hs; replace h25 := h25.t hs
  refine Sch.nil ?_
  refine run_sq ?_
  refine run_pl [yy 0, yy 1, nn 2, nn 3, yy 4, yy 5, yy 6, yy 7, yy 8] ?_
  refine yM 28 0 ?_
  refine yF 29 47 10 0 0 ?_
  refine nS (kq 30 (.load 3 (.tmp 29))) rfl rfl trivial (val_loadOwn hx.at_ (by kernel_rfl) rfl rfl) ?_
  refine cS (kq 31 (.call { callee := .value (.func 30), args := #[(.tmp 28), (.tmp 30)], argTypes := #[22, 3] })) rfl rfl (ent Try.call30 rfl) (of_ok ha (by omega) (by omega)) ?_
  rintro vw4 w4 ⟨rfl, rfl⟩
  refine ⟨trivial, ?_⟩
  refine yM 27 31 ?_
  refine yV (kq 32 (.extract (.tmp 27) 0)) (fun _ => val_extract rfl rfl) ?_
  refine yV (kq 33 (.extract (.tmp 27) 1)) (fun _ => val_extract rfl rfl) ?_
  refine yA 11 32 ?_
  refine yA 12 33 ?_
  refine Sch.nil ?_
  refine run_sq ?_
  refine run_pl [yy 0, yy 1, nn 2, nn 3, yy 4, yy 5, yy 6, yy 7, yy 8] ?_
  refine yM 35 1 ?_
  refine yF 36 47 10 1 1 ?_
  refine nS (kq 37 (.load 3 (.tmp 36))) rfl rfl trivial (val_loadOwn hx.at_ (by kernel_rfl) rfl rfl) ?_
  refine cS (kq 38 (.call { callee := .value (.func 30), args := #[(.tmp 35), (.tmp 37)], argTypes := #[22, 3] })) rfl rfl (ent Try.call30 rfl) (of_ok hb (by omega) (by omega)) ?_
  rintro vw5 w5 ⟨rfl, rfl⟩
  refine ⟨trivial, ?_⟩
  refine yM 34 38 ?_
  refine yV (kq 39 (.extract (.tmp 34) 0)) (fun _ => val_extract rfl rfl) ?_
  refine yV (kq 40 (.extract (.tmp 34) 1)) (fun _ => val_extract rfl rfl) ?_
  refine yA 13 39 ?_
  refine yA 14 40 ?_
  refine Sch.nil ?_
  refine run_sq ?_
  refine run_sq ?_
  refine run_pl [yy 0, yy 1, yy 2, yy 3, yy 4, yy 5] ?_
  refine yM 41 12 ?_
  refine yV (kq 42 (.unOp .not 4 (.tmp 41))) (fun _ => val_not rfl) ?_
  refine yM 43 42 ?_
  refine yMg 44 14 2 false ?_
  refine yV (kg 45 (.unOp .not 4 (.tmp 44)) 2 false) (fun _ => val_not rfl) ?_
  refine yOf 46 43 45 ?_
  refine Sch.nil ?_
  refine run_cF 46 ?_
  refine run_sk ?_
  refine run_sq ?_
  refine run_pl [yy 0, yy 1, nn 2, yy 3, yy 4, yy 5, yy 6, yy 7] ?_
  refine yM 48 7 ?_
  refine yM 49 11 ?_
  refine nS (kq 50 (.lookup 77 (.tmp 48) (.tmp 49) true)) rfl rfl trivial (hfm.lookupOk (z0 := (0 : Int)) (k := ((gN al (cs[i]'hil).a.toNat : Nat) : Int)) Try.underlying77 (keyOK_int Try.underlying3) Try.zeroValue3 rfl rfl) ?_
  refine yM 47 50 ?_
  refine yV (kq 51 (.extract (.tmp 47) 0)) (fun _ => val_extract rfl rfl) ?_
  refine yV (kq 52 (.extract (.tmp 47) 1)) (fun _ => val_extract rfl rfl) ?_
  refine yA 15 51 ?_
  refine yA 16 52 ?_
  refine Sch.nil ?_
  refine run_sq ?_
  refine run_pl [yy 0, yy 1, nn 2, yy 3, yy 4, yy 5, yy 6, yy 7] ?_
  refine yM 54 8 ?_
  refine yM 55 13 ?_
  refine nS (kq 56 (.lookup 77 (.tmp 54) (.tmp 55) true)) rfl rfl trivial (hsm.lookupOk (z0 := (0 : Int)) (k := ((gN bl (cs[i]'hil).b.toNat : Nat) : Int)) Try.underlying77 (keyOK_int Try.underlying3) Try.zeroValue3 rfl rfl) ?_
  refine yM 53 56 ?_
  refine yV (kq 57 (.extract (.tmp 53) 0)) (fun _ => val_extract rfl rfl) ?_
  refine yV (kq 58 (.extract (.tmp 53) 1)) (fun _ => val_extract rfl rfl) ?_
  refine yA 17 57 ?_
  refine yA 18 58 ?_
  refine Sch.nil ?_
  refine run_sq ?_
  refine run_sq ?_
  rcases Bool.eq_false_or_eq_true ((mget fm ((gN al (cs[i]'hil).a.toNat : Nat) : Int)).isSome) with hA | hA
  ·
   rw [hA]
   rcases Bool.eq_false_or_eq_true ((mget sm ((gN bl (cs[i]'hil).b.toNat : Nat) : Int)).isSome) with hB | hB
   ·
    rw [hB]
    refine run_pl [yy 0, yy 1, yy 2, yy 3, yy 4, yy 5, yy 6, yy 7, yy 8, yy 9, yy 10, yy 11, yy 12, yy 13] ?_
    refine yM 59 16 ?_
    refine yM 60 59 ?_
    refine yMg 61 15 1 true ?_
    refine yMg 62 13 1 true ?_
    refine yV (kg 63 (.binOp .neq 3 (.tmp 61) (.tmp 62) 3) 1 true) (fun _ => val_is (val_neq rfl rfl) (show _ = Value.bool false from congrArg Value.bool (decide_eq_false (by
 obtain ⟨q, e⟩ := Option.isSome_iff_exists.1 hA
 obtain ⟨d, hd, e1, e2⟩ := h1 _ _ e
 rw [e]; simp only [Option.getD_some]
 have := (hcx d hd).1 (by omega)
 omega)))) ?_
    refine yAt 64 60 63 ?_
    refine yM 65 64 ?_
    refine yMg 66 18 6 false ?_
    refine yMg 67 66 6 false ?_
    refine yMg 68 17 8 true ?_
    refine yMg 69 11 8 true ?_
    refine yV (kg 70 (.binOp .neq 3 (.tmp 68) (.tmp 69) 3) 8 true) (fun _ => val_is (val_neq rfl rfl) (show _ = Value.bool false from congrArg Value.bool (decide_eq_false (by
 obtain ⟨q, e⟩ := Option.isSome_iff_exists.1 hB
 obtain ⟨d, hd, e1, e2⟩ := h2 _ _ e
 rw [e]; simp only [Option.getD_some]
 have := (hcx d hd).2 (by omega)
 omega)))) ?_
    refine yV (kg 71 (.pick (.tmp 67) (.tmp 70) (.const (.bool false))) 6 false) (fun _ => val_pick_t rfl rfl) ?_
    refine yOf 72 65 71 ?_
    refine Sch.nil ?_
    refine run_cF 72 ?_
    refine run_sk ?_
    refine run_pl [yy 0, yy 1, yy 2, yy 3, yy 4, yy 5, nn 6, nn 7] ?_
    refine yM 73 7 ?_
    refine yM 74 11 ?_
    refine yM 75 8 ?_
    refine yM 76 13 ?_
    refine yM 77 13 ?_
    refine yM 78 11 ?_
    refine aN (k0 (.mapUpdate 77 (.tmp 73) (.tmp 74) (.tmp 77))) rfl (a_mapUpdate (k := ((gN al (cs[i]'hil).a.toNat : Nat) : Int)) (u := ((gN bl (cs[i]'hil).b.toNat : Nat) : Int)) hfm Try.underlying77 (keyOK_int Try.underlying3) rfl rfl rfl) ?_
    rintro _ w6 ⟨rfl, hs, hfm⟩
    refine ⟨trivial, ?_⟩
    replace hF := hF.st hs
    replace hT := hT.t hs; replace ha := ha.t hs; replace hb := hb.t hs; replace hc := hc.t hs; replace hsm := hsm.t hs; replace h25 := h25.t hs; replace hx := hx.t hs
    refine aN (k0 (.mapUpdate 77 (.tmp 75) (.tmp 76) (.tmp 78))) rfl (a_mapUpdate (k := ((gN bl (cs[i]'hil).b.toNat : Nat) : Int)) (u := ((gN al (cs[i]'hil).a.toNat : Nat) : Int)) hsm Try.underlying77 (keyOK_int Try.underlying3) rfl rfl rfl) ?_
    rintro _ w7 ⟨rfl, hs, hsm⟩
    refine ⟨trivial, ?_⟩
    replace hF := hF.st hs
    replace hT := hT.t hs; replace ha := ha.t hs; replace hb := hb.t hs; replace hc := hc.t hs; replace hfm := hfm.t hs; replace h25 := h25.t hs; replace hx := hx.t hs
    refine Sch.nil ?_
    refine run_inBlock ?_
    refine run_pl [yy 0, yy 1] ?_
    refine yV (kq 79 (.binOp .add 3 (.tmp 23) (.const (.int .i64 1)) 3)) (fun _ => val_addi rfl rfl (by omega) (by omega)) ?_
    refine yM 23 79 ?_
    refine Sch.nil ?_
    refine kp (sub_cons 0 rfl rfl (sub_cons 1 rfl rfl (sub_cons 7 rfl rfl (sub_cons 8 rfl rfl (sub_cons 21 rfl rfl (sub_cons 22 rfl rfl (sub_cons 23 rfl (eq_int (by simp)) (sub_nil _)))))))) (next1 (i + 1, mput fm ((gN al (cs[i]'hil).a.toNat : Nat) : Int) ((gN bl (cs[i]'hil).b.toNat : Nat) : Int), mput sm ((gN bl (cs[i]'hil).b.toNat : Nat) : Int) ((gN al (cs[i]'hil).a.toNat : Nat) : Int), Cw2) _ ⟨(by first | omega | (simp only; omega)), (fun p q e => by
        rw [mget_mput] at e
        split at e
        · rename_i e2; cases e; exact ⟨_, hm, e2.symm, rfl⟩
        · exact h1 p q e), (fun p q e => by
        rw [mget_mput] at e
        split at e
        · rename_i e2; cases e; exact ⟨_, hm, e2.symm, rfl⟩
        · exact h2 p q e), hF, hT, ha, hb, hc, hfm, hsm⟩ (by first | omega | (simp only; omega)))
   ·
    rw [hB]
    refine run_pl [yy 0, yy 1, yy 2, yy 3, yy 4, yy 5, yy 6, yy 7, yy 8, yy 9, yy 10, yy 11, yy 12, yy 13] ?_
    refine yM 59 16 ?_
    refine yM 60 59 ?_
    refine yMg 61 15 1 true ?_
    refine yMg 62 13 1 true ?_
    refine yV (kg 63 (.binOp .neq 3 (.tmp 61) (.tmp 62) 3) 1 true) (fun _ => val_is (val_neq rfl rfl) (show _ = Value.bool false from congrArg Value.bool (decide_eq_false (by
 obtain ⟨q, e⟩ := Option.isSome_iff_exists.1 hA
 obtain ⟨d, hd, e1, e2⟩ := h1 _ _ e
 rw [e]; simp only [Option.getD_some]
 have := (hcx d hd).1 (by omega)
 omega)))) ?_
    refine yAt 64 60 63 ?_
    refine yM 65 64 ?_
    refine yMg 66 18 6 false ?_
    refine yMg 67 66 6 false ?_
    refine pX 68 8 true ?_
    refine pX 69 8 true ?_
    refine pX 70 8 true ?_
    refine yV (kg 71 (.pick (.tmp 67) (.tmp 70) (.const (.bool false))) 6 false) (fun _ => val_pick_f rfl rfl) ?_
    refine yOf 72 65 71 ?_
    refine Sch.nil ?_
    refine run_cF 72 ?_
    refine run_sk ?_
    refine run_pl [yy 0, yy 1, yy 2, yy 3, yy 4, yy 5, nn 6, nn 7] ?_
    refine yM 73 7 ?_
    refine yM 74 11 ?_
    refine yM 75 8 ?_
    refine yM 76 13 ?_
    refine yM 77 13 ?_
    refine yM 78 11 ?_
    refine aN (k0 (.mapUpdate 77 (.tmp 73) (.tmp 74) (.tmp 77))) rfl (a_mapUpdate (k := ((gN al (cs[i]'hil).a.toNat : Nat) : Int)) (u := ((gN bl (cs[i]'hil).b.toNat : Nat) : Int)) hfm Try.underlying77 (keyOK_int Try.underlying3) rfl rfl rfl) ?_
    rintro _ w8 ⟨rfl, hs, hfm⟩
    refine ⟨trivial, ?_⟩
    replace hF := hF.st hs
    replace hT := hT.t hs; replace ha := ha.t hs; replace hb := hb.t hs; replace hc := hc.t hs; replace hsm := hsm.t hs; replace h25 := h25.t hs; replace hx := hx.t hs
    refine aN (k0 (.mapUpdate 77 (.tmp 75) (.tmp 76) (.tmp 78))) rfl (a_mapUpdate (k := ((gN bl (cs[i]'hil).b.toNat : Nat) : Int)) (u := ((gN al (cs[i]'hil).a.toNat : Nat) : Int)) hsm Try.underlying77 (keyOK_int Try.underlying3) rfl rfl rfl) ?_
    rintro _ w9 ⟨rfl, hs, hsm⟩
    refine ⟨trivial, ?_⟩
    replace hF := hF.st hs
    replace hT := hT.t hs; replace ha := ha.t hs; replace hb := hb.t hs; replace hc := hc.t hs; replace hfm := hfm.t hs; replace h25 := h25.t hs; replace hx := hx.t hs
    refine Sch.nil ?_
    refine run_inBlock ?_
    refine run_pl [yy 0, yy 1] ?_
    refine yV (kq 79 (.binOp .add 3 (.tmp 23) (.const (.int .i64 1)) 3)) (fun _ => val_addi rfl rfl (by omega) (by omega)) ?_
    refine yM 23 79 ?_
    refine Sch.nil ?_
    refine kp (sub_cons 0 rfl rfl (sub_cons 1 rfl rfl (sub_cons 7 rfl rfl (sub_cons 8 rfl rfl (sub_cons 21 rfl rfl (sub_cons 22 rfl rfl (sub_cons 23 rfl (eq_int (by simp)) (sub_nil _)))))))) (next1 (i + 1, mput fm ((gN al (cs[i]'hil).a.toNat : Nat) : Int) ((gN bl (cs[i]'hil).b.toNat : Nat) : Int), mput sm ((gN bl (cs[i]'hil).b.toNat : Nat) : Int) ((gN al (cs[i]'hil).a.toNat : Nat) : Int), Cw2) _ ⟨(by first | omega | (simp only; omega)), (fun p q e => by
        rw [mget_mput] at e
        split at e
        · rename_i e2; cases e; exact ⟨_, hm, e2.symm, rfl⟩
        · exact h1 p q e), (fun p q e => by
        rw [mget_mput] at e
        split at e
        · rename_i e2; cases e; exact ⟨_, hm, e2.symm, rfl⟩
        · exact h2 p q e), hF, hT, ha, hb, hc, hfm, hsm⟩ (by first | omega | (simp only; omega)))
  ·
   rw [hA]
   rcases Bool.eq_false_or_eq_true ((mget sm ((gN bl (cs[i]'hil).b.toNat : Nat) : Int)).isSome) with hB | hB
   ·
    rw [hB]
    refine run_pl [yy 0, yy 1, yy 2, yy 3, yy 4, yy 5, yy 6, yy 7, yy 8, yy 9, yy 10, yy 11, yy 12, yy 13] ?_
    refine yM 59 16 ?_
    refine yM 60 59 ?_
    refine pX 61 1 true ?_
    refine pX 62 1 true ?_
    refine pX 63 1 true ?_
    refine yAf 64 60 63 ?_
    refine yM 65 64 ?_
    refine yMg 66 18 6 false ?_
    refine yMg 67 66 6 false ?_
    refine yMg 68 17 8 true ?_
    refine yMg 69 11 8 true ?_
    refine yV (kg 70 (.binOp .neq 3 (.tmp 68) (.tmp 69) 3) 8 true) (fun _ => val_is (val_neq rfl rfl) (show _ = Value.bool false from congrArg Value.bool (decide_eq_false (by
 obtain ⟨q, e⟩ := Option.isSome_iff_exists.1 hB
 obtain ⟨d, hd, e1, e2⟩ := h2 _ _ e
 rw [e]; simp only [Option.getD_some]
 have := (hcx d hd).2 (by omega)
 omega)))) ?_
    refine yV (kg 71 (.pick (.tmp 67) (.tmp 70) (.const (.bool false))) 6 false) (fun _ => val_pick_t rfl rfl) ?_
    refine yOf 72 65 71 ?_
    refine Sch.nil ?_
    refine run_cF 72 ?_
    refine run_sk ?_
    refine run_pl [yy 0, yy 1, yy 2, yy 3, yy 4, yy 5, nn 6, nn 7] ?_
    refine yM 73 7 ?_
    refine yM 74 11 ?_
    refine yM 75 8 ?_
    refine yM 76 13 ?_
    refine yM 77 13 ?_
    refine yM 78 11 ?_
    refine aN (k0 (.mapUpdate 77 (.tmp 73) (.tmp 74) (.tmp 77))) rfl (a_mapUpdate (k := ((gN al (cs[i]'hil).a.toNat : Nat) : Int)) (u := ((gN bl (cs[i]'hil).b.toNat : Nat) : Int)) hfm Try.underlying77 (keyOK_int Try.underlying3) rfl rfl rfl) ?_
    rintro _ w10 ⟨rfl, hs, hfm⟩
    refine ⟨trivial, ?_⟩
    replace hF := hF.st hs
    replace hT := hT.t hs; replace ha := ha.t hs; replace hb := hb.t hs; replace hc := hc.t hs; replace hsm := hsm.t hs; replace h25 := h25.t hs; replace hx := hx.t hs
    refine aN (k0 (.mapUpdate 77 (.tmp 75) (.tmp 76) (.tmp 78))) rfl (a_mapUpdate (k := ((gN bl (cs[i]'hil).b.toNat : Nat) : Int)) (u := ((gN al (cs[i]'hil).a.toNat : Nat) : Int)) hsm Try.underlying77 (keyOK_int Try.underlying3) rfl rfl rfl) ?_
    rintro _ w11 ⟨rfl, hs, hsm⟩
    refine ⟨trivial, ?_⟩
    replace hF := hF.st hs
    replace hT := hT.t hs; replace ha := ha.t hs; replace hb := hb.t hs; replace hc := hc.t hs; replace hfm := hfm.t hs; replace h25 := h25.t hs; replace hx := hx.t hs
    refine Sch.nil ?_
    refine run_inBlock ?_
    refine run_pl [yy 0, yy 1] ?_
    refine yV (kq 79 (.binOp .add 3 (.tmp 23) (.const (.int .i64 1)) 3)) (fun _ => val_addi rfl rfl (by omega) (by omega)) ?_
    refine yM 23 79 ?_
    refine Sch.nil ?_
    refine kp (sub_cons 0 rfl rfl (sub_cons 1 rfl rfl (sub_cons 7 rfl rfl (sub_cons 8 rfl rfl (sub_cons 21 rfl rfl (sub_cons 22 rfl rfl (sub_cons 23 rfl (eq_int (by simp)) (sub_nil _)))))))) (next1 (i + 1, mput fm ((gN al (cs[i]'hil).a.toNat : Nat) : Int) ((gN bl (cs[i]'hil).b.toNat : Nat) : Int), mput sm ((gN bl (cs[i]'hil).b.toNat : Nat) : Int) ((gN al (cs[i]'hil).a.toNat : Nat) : Int), Cw2) _ ⟨(by first | omega | (simp only; omega)), (fun p q e => by
        rw [mget_mput] at e
        split at e
        · rename_i e2; cases e; exact ⟨_, hm, e2.symm, rfl⟩
        · exact h1 p q e), (fun p q e => by
        rw [mget_mput] at e
        split at e
        · rename_i e2; cases e; exact ⟨_, hm, e2.symm, rfl⟩
        · exact h2 p q e), hF, hT, ha, hb, hc, hfm, hsm⟩ (by first | omega | (simp only; omega)))
   ·
    rw [hB]
    refine run_pl [yy 0, yy 1, yy 2, yy 3, yy 4, yy 5, yy 6, yy 7, yy 8, yy 9, yy 10, yy 11, yy 12, yy 13] ?_
    refine yM 59 16 ?_
    refine yM 60 59 ?_
    refine pX 61 1 true ?_
    refine pX 62 1 true ?_
    refine pX 63 1 true ?_
    refine yAf 64 60 63 ?_
    refine yM 65 64 ?_
    refine yMg 66 18 6 false ?_
    refine yMg 67 66 6 false ?_
    refine pX 68 8 true ?_
    refine pX 69 8 true ?_
    refine pX 70 8 true ?_
    refine yV (kg 71 (.pick (.tmp 67) (.tmp 70) (.const (.bool false))) 6 false) (fun _ => val_pick_f rfl rfl) ?_
    refine yOf 72 65 71 ?_
    refine Sch.nil ?_
    refine run_cF 72 ?_
    refine run_sk ?_
    refine run_pl [yy 0, yy 1, yy 2, yy 3, yy 4, yy 5, nn 6, nn 7] ?_
    refine yM 73 7 ?_
    refine yM 74 11 ?_
    refine yM 75 8 ?_
    refine yM 76 13 ?_
    refine yM 77 13 ?_
    refine yM 78 11 ?_
    refine aN (k0 (.mapUpdate 77 (.tmp 73) (.tmp 74) (.tmp 77))) rfl (a_mapUpdate (k := ((gN al (cs[i]'hil).a.toNat : Nat) : Int)) (u := ((gN bl (cs[i]'hil).b.toNat : Nat) : Int)) hfm Try.underlying77 (keyOK_int Try.underlying3) rfl rfl rfl) ?_
    rintro _ w12 ⟨rfl, hs, hfm⟩
    refine ⟨trivial, ?_⟩
    replace hF := hF.st hs
    replace hT := hT.t hs; replace ha := ha.t hs; replace hb := hb.t hs; replace hc := hc.t hs; replace hsm := hsm.t hs; replace h25 := h25.t hs; replace hx := hx.t hs
    refine aN (k0 (.mapUpdate 77 (.tmp 75) (.tmp 76) (.tmp 78))) rfl (a_mapUpdate (k := ((gN bl (cs[i]'hil).b.toNat : Nat) : Int)) (u := ((gN al (cs[i]'hil).a.toNat : Nat) : Int)) hsm Try.underlying77 (keyOK_int Try.underlying3) rfl rfl rfl) ?_
    rintro _ w13 ⟨rfl, hs, hsm⟩
    refine ⟨trivial, ?_⟩
    replace hF := hF.st hs
    replace hT := hT.t hs; replace ha := ha.t hs; replace hb := hb.t hs; replace hc := hc.t hs; replace hfm := hfm.t hs; replace h25 := h25.t hs; replace hx := hx.t hs
    refine Sch.nil ?_
    refine run_inBlock ?_
    refine run_pl [yy 0, yy 1] ?_
    refine yV (kq 79 (.binOp .add 3 (.tmp 23) (.const (.int .i64 1)) 3)) (fun _ => val_addi rfl rfl (by omega) (by omega)) ?_
    refine yM 23 79 ?_
    refine Sch.nil ?_
    refine kp (sub_cons 0 rfl rfl (sub_cons 1 rfl rfl (sub_cons 7 rfl rfl (sub_cons 8 rfl rfl (sub_cons 21 rfl rfl (sub_cons 22 rfl rfl (sub_cons 23 rfl (eq_int (by simp)) (sub_nil _)))))))) (next1 (i + 1, mput fm ((gN al (cs[i]'hil).a.toNat : Nat) : Int) ((gN bl (cs[i]'hil).b.toNat : Nat) : Int), mput sm ((gN bl (cs[i]'hil).b.toNat : Nat) : Int) ((gN al (cs[i]'hil).a.toNat : Nat) : Int), Cw2) _ ⟨(by first | omega | (simp only; omega)), (fun p q e => by
        rw [mget_mput] at e
        split at e
        · rename_i e2; cases e; exact ⟨_, hm, e2.symm, rfl⟩
        · exact h1 p q e), (fun p q e => by
        rw [mget_mput] at e
        split at e
        · rename_i e2; cases e; exact ⟨_, hm, e2.symm, rfl⟩
        · exact h2 p q e), hF, hT, ha, hb, hc, hfm, hsm⟩ (by first | omega | (simp only; omega)))
 ·
  have hil : i = cs.length := by omega
  refine run_ex 0 ?_
  refine run_sq ?_
  refine run_pl [yy 0] ?_
  refine yAc 6 (.bool true) ?_
  refine Sch.nil ?_
  refine run_ret1 (by kernel_rfl) Try.func16 Try.results16 rfl ?_
  exact ⟨rfl, hT.out1 (by decide)⟩
end Go.Proofs.Ytognfmeffnjijaa
