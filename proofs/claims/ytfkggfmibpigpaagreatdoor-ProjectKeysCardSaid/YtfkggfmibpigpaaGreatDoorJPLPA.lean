/- Steps through functions of the program. -/
import Derived.Test.YtfkggfmibpigpaaGreatDoorJPKPE
import Derived.Test.YtfkggfmibpigpaaGreatDoorL2
import Derived.Test.YtfkggfmibpigpaaGreatDoorL1
set_option linter.unusedVariables false
set_option linter.unusedSimpArgs false
set_option maxRecDepth 100000
set_option maxHeartbeats 4000000
namespace Go.Proofs.YtfkggfmibpigpaaGreatDoor
open Go.K Go.K.Rep
namespace F26
noncomputable def c0 := bodyOf Tryz.f26
noncomputable def c41 := (cr (cr (cr (cr (cr c0)))))
noncomputable def c71 := (cl (cr (cr (cr (cr c41)))))
noncomputable def c81 := (cr (cr (cl (cl (cr c71)))))
noncomputable def c88 := (cl (cr (cr (cl (cl c81)))))
noncomputable def o27 := rops (cl (cl (cl (cl c88))))
noncomputable def c98 := (cr (cr (cr (cl (cl c81)))))
noncomputable def o29 := rops (cl c98)
end F26
theorem pparts_ok {w₀ : World} {C : Nat → Nat} {num reg id : Nat} {ka kb : Int} {rs : List Int} {vr : Value} {lv : Bool} {l tl : List Couple} {vl vd : Value} (hF : Lim w₀ C) (htb : Tb Tryz.prog w₀ C) (hr : RV w₀ (Mc C) rs vr) (hrs : RgsOK rs) (hn1 : 1 ≤ num) (hn4 : num ≤ 4) (hl : RV w₀ (Mc C) ([l] : List (List Couple)) vl) (hd : RV w₀ (Mc C) ([] : List Couple) vd) (hPs : PsnOK l) (hl5 : l.length ≤ 100000) (hrefs : (l.filter fun r => decide (r.a ∈ rs)) = ⟨(reg : Int), (id : Int)⟩ :: tl) (htl : 1 ≤ tl.length) (htl2 : tl.length ≤ 100000) (hreg : reg ≤ 9223372036854775807) (hid : id ≤ 9223372036854775807) : Calls Tryz.prog 26 #[.agg #[.int .i64 num, .int .u64 ka, .int .u64 kb, vr, .bool lv], vl, vd] w₀ (Ret fun v w' => ∃ u, v = .tuple #[u, .int .i64 0] ∧ Stp [] w₀ C w' C ∧ RV w' (Mc C) ([⟨(⟨psdW ka kb num reg id 0⟩ : U64), (⟨(reg : Int), (id : Int)⟩ :: tl : List Couple)⟩] : List Nam) u) := by
 have hF0 := hF
 have hT := Stp.refl [2, 3, 4, 5, 6, 7, 8, 9] w₀ (col1 C)
 replace hF := hF.col1
 replace hr : RV w₀ (Mc (col1 C)) rs vr := by rw [Mc_col1]; exact hr
 replace hl : RV w₀ (Mc (col1 C)) ([l] : List (List Couple)) vl := by rw [Mc_col1]; exact hl
 replace hd : RV w₀ (Mc (col1 C)) ([] : List Couple) vd := by rw [Mc_col1]; exact hd
 replace htb := htb.col1
 have hrl : (⟨(reg : Int), (id : Int)⟩ :: tl : List Couple).length = tl.length + 1 := List.length_cons
 refine calls_start (c := F26.c0) (N := 107) [.agg #[.int .i64 num, .int .u64 ka, .int .u64 kb, vr, .bool lv], vl, vd] Tryz.func26 (by kernel_rfl) (by kernel_rfl) (by kernel_rfl) ?_
 show Run _ _ _ _ [(0, .agg #[.int .i64 num, .int .u64 ka, .int .u64 kb, vr, .bool lv]), (1, vl), (2, vd)] _ _
 refine run_sq ?_
 refine run_pl [nn 0, yy 1, yy 2] ?_
 refine aS (kq 3 (.box 31 (.tmp 0))) rfl rfl (a_box (cs := [.int .i64 num, .int .u64 ka, .int .u64 kb, vr, .bool lv]) hF 3 rfl rfl) ?_
 rintro _ w1 ⟨Cw1, bw1, rfl, hs, hp, hF⟩
 refine ⟨trivial, ?_⟩
 replace hT := hT.t hs; replace hr := hr.t hs; replace hl := hl.t hs; replace hd := hd.t hs
 replace htb := htb.st hs (by first | decide | (simp <;> omega))
 refine yV (kq 6 (.assign (.const (.slice none 0 0)))) (fun _ => val_assign rfl) ?_
 refine yAc 7 (.int .i64 0) ?_
 refine Sch.nil ?_
 refine run_sq ?_
 refine run_sq ?_
 refine run_pl [nn 0, nn 1, yy 2] ?_
 refine nS (kq 21 (.load 31 (.tmp 3))) rfl rfl trivial (val_loadOwnAgg (n := 5) (vs := [.int .i64 num, .int .u64 ka, .int .u64 kb, vr, .bool lv]) hp.at_ (by kernel_rfl) (by kernel_rfl) rfl rfl rfl) ?_
 refine cS (kq 22 (.call { callee := .value (.func 14), args := #[(.tmp 21)], argTypes := #[31] })) rfl rfl (ent Tryz.call14 rfl) (check_ok hF hr hrs (by omega) (by omega)) ?_
 rintro vw2 w2 ⟨rfl, hs⟩
 refine ⟨trivial, ?_⟩
 replace hF := hF.st hs
 replace hT := hT.t hs; replace hr := hr.t hs; replace hl := hl.t hs; replace hd := hd.t hs
 replace htb := htb.st hs (by first | decide | (simp <;> omega))
 replace hp := hp.t hs
 refine yA 8 22 ?_
 refine Sch.nil ?_
 refine run_sq ?_
 refine run_pl [yy 0, yy 1] ?_
 refine yM 23 8 ?_
 refine yV (kq 24 (.binOp .neq 39 (.tmp 23) (.const (.int .i64 0)) 39)) (fun _ => val_is (val_neq rfl rfl) (show _ = Value.bool false from congrArg Value.bool (decide_eq_false (by decide)))) ?_
 refine Sch.nil ?_
 refine run_cF 24 ?_
 refine run_sk ?_
 refine run_sq ?_
 refine run_sq ?_
 refine run_pl [yy 0, nn 1, yy 2] ?_
 refine yM 26 1 ?_
 refine cS (kq 27 (.call { callee := .value (.func 16), args := #[(.tmp 26)], argTypes := #[43] })) rfl rfl (ent Tryz.call16 rfl) (persons_ok hF hl (by simp) (by simpa using hPs)) ?_
 rintro vw3 w3 ⟨rfl, hs⟩
 refine ⟨trivial, ?_⟩
 replace hF := hF.st hs
 replace hT := hT.t hs; replace hr := hr.t hs; replace hl := hl.t hs; replace hd := hd.t hs
 replace htb := htb.st hs (by first | decide | (simp <;> omega))
 replace hp := hp.t hs
 refine yA 9 27 ?_
 refine Sch.nil ?_
 refine run_sq ?_
 refine run_pl [yy 0, yy 1] ?_
 refine yM 28 9 ?_
 refine yV (kq 29 (.binOp .neq 39 (.tmp 28) (.const (.int .i64 0)) 39)) (fun _ => val_is (val_neq rfl rfl) (show _ = Value.bool false from congrArg Value.bool (decide_eq_false (by decide)))) ?_
 refine Sch.nil ?_
 refine run_cF 29 ?_
 refine run_sk ?_
 refine run_sq ?_
 refine run_pl [nn 0, nn 1, nn 2] ?_
 refine aS (kq 31 (.makeMap 81 none)) rfl rfl (a_makeMap hF 5 kvC vvB) ?_
 rintro _ whm ⟨Chm, bm, rfl, hs, hm, hF⟩
 refine ⟨trivial, ?_⟩
 replace hT := hT.t hs; replace hr := hr.t hs; replace hl := hl.t hs; replace hd := hd.t hs
 replace htb := htb.st hs (by first | decide | (simp <;> omega))
 replace hp := hp.t hs
 refine aS (kq 10 (.alloc 81)) rfl rfl (a_alloc (cs := [.map none]) hF 6 (by kernel_rfl)) ?_
 rintro _ w4 ⟨Cw4, bw4, rfl, hs, hg, hF⟩
 refine ⟨trivial, ?_⟩
 replace hT := hT.t hs; replace hr := hr.t hs; replace hl := hl.t hs; replace hd := hd.t hs
 replace htb := htb.st hs (by first | decide | (simp <;> omega))
 replace hp := hp.t hs; replace hm := hm.t hs
 refine aN (k0 (.store 81 (.tmp 10) (.tmp 31))) rfl (a_store1 rfl rfl (by kernel_rfl) rfl rfl hg (by simp)) ?_
 rintro _ w5 ⟨rfl, hs, hg⟩
 refine ⟨trivial, ?_⟩
 replace hF := hF.st hs
 replace hT := hT.t hs; replace hr := hr.t hs; replace hl := hl.t hs; replace hd := hd.t hs
 replace htb := htb.st hs (by first | decide | (simp <;> omega))
 replace hp := hp.t hs; replace hm := hm.t hs
 refine Sch.nil ?_
 refine run_sq ?_
 refine run_sq ?_
 refine run_pl [yy 0, yy 1, yy 2] ?_
 refine yM 32 2 ?_
 refine yS (kq 33 (.call { callee := .builtin .len, args := #[(.tmp 32)], argTypes := #[42] })) rfl rfl (fun w' hS => hd.lenV rfl Tryz.underlying42 w' ) ?_
 refine yV (kq 34 (.move (.const (.int .i64 0)))) (fun _ => val_move rfl) ?_
 refine Sch.nil ?_
 refine run_bk 0 ?_
 
 refine run_lp (ι := Nat × (Nat → Nat)) (I := fun x w => Lim w x.2 ∧ Stp [2, 3, 4, 5, 6, 7, 8, 9] w₀ (col1 C) w x.2 ∧ RV w (Mc x.2) rs vr ∧ Tb Tryz.prog w x.2 ∧ OwnB w x.2 3 bw1 (.cells [.int .i64 num, .int .u64 ka, .int .u64 kb, vr, .bool lv].toArray 31) ∧ OwnM w x.2 5 bm kvC vvB ([] : List (Couple × Bool)) ∧ OwnB w x.2 6 bw4 (.cells ([.map (some bm)] : List Value).toArray 81) ∧ RV w (Mc x.2) ([l] : List (List Couple)) vl ∧ RV w (Mc x.2) ([] : List Couple) vd) (e := fun x => [(1, vl), (3, .pointer (some ⟨bw1, 0, none⟩)), (10, .pointer (some ⟨bw4, 0, none⟩)), (32, vd), (33, .int .i64 0), (34, .int .i64 0)]) (m := fun x => 0) (x₀ := (0, Cw4)) (sr 1 (sr 3 (sr 10 (sr 32 (sr 33 (sr 34 (sub_nil _))))))) ?_ ?_
 · exact ⟨hF, hT, hr, htb, hp, hm, hg, hl, hd⟩
 intro ⟨z, C1⟩ w6 hI next
 obtain ⟨hF, hT, hr, htb, hp, hm, hg, hl, hd⟩ := hI
 try simp only at hF hT hr htb hp hm hg hl hd
 have next1 := next
 clear next
 show Run _ _ _ _ [(1, vl), (3, .pointer (some ⟨bw1, 0, none⟩)), (10, .pointer (some ⟨bw4, 0, none⟩)), (32, vd), (33, .int .i64 0), (34, .int .i64 0)] _ _
 refine run_sq ?_
 refine run_pl [yy 0] ?_
 refine yV (kq 35 (.binOp .lss 3 (.tmp 34) (.tmp 33) 3)) (fun _ => val_is (val_lss rfl rfl) (show _ = Value.bool false from congrArg Value.bool (decide_eq_false (by decide)))) ?_
 refine Sch.nil ?_
 refine run_sq ?_
 refine run_cF 35 ?_
 refine run_ex 0 ?_
 refine run_sq ?_
 refine run_pl [yy 0] ?_
 refine yV (kq 13 (.assign (.const (.slice none 0 0)))) (fun _ => val_assign rfl) ?_
 refine Sch.nil ?_
 refine run_sq ?_
 refine run_sq ?_
 refine run_pl [yy 0, yy 1, yy 2] ?_
 refine yM 43 1 ?_
 refine yS (kq 44 (.call { callee := .builtin .len, args := #[(.tmp 43)], argTypes := #[43] })) rfl rfl (fun w' hS => hl.lenV rfl Tryz.underlying43 w' ) ?_
 refine yV (kq 45 (.move (.const (.int .i64 0)))) (fun _ => val_move rfl) ?_
 refine Sch.nil ?_
 refine run_bk 2 ?_
 
 refine run_lp (ι := Nat × Value × (Nat → Nat)) (I := fun x w => x.1 ≤ 1 ∧ Lim w x.2.2 ∧ Stp [2, 3, 4, 5, 6, 7, 8, 9] w₀ (col1 C) w x.2.2 ∧ RV w (Mc x.2.2) rs vr ∧ Tb Tryz.prog w x.2.2 ∧ OwnB w x.2.2 3 bw1 (.cells [.int .i64 num, .int .u64 ka, .int .u64 kb, vr, .bool lv].toArray 31) ∧ OwnM w x.2.2 5 bm kvC vvB ([] : List (Couple × Bool)) ∧ OwnB w x.2.2 6 bw4 (.cells ([.map (some bm)] : List Value).toArray 81) ∧ RV w (Mc x.2.2) ([l] : List (List Couple)) vl ∧ OwnL w x.2.2 7 66 x.2.1 (([⟨⟨0⟩, (⟨(reg : Int), (id : Int)⟩ :: tl : List Couple)⟩] : List Nam).take x.1)) (e := fun x => [(3, .pointer (some ⟨bw1, 0, none⟩)), (10, .pointer (some ⟨bw4, 0, none⟩)), (13, x.2.1), (43, vl), (44, .int .i64 1), (45, .int .i64 x.1)]) (m := fun x => 1 - x.1) (x₀ := (0, .slice none 0 0, C1)) (sr 3 (sr 10 (sr 13 (sr 43 (sr 44 (sr 45 (sub_nil _))))))) ?_ ?_
 · exact ⟨by omega, hF, hT, hr, htb, hp, hm, hg, hl, OwnL.nil⟩
 intro ⟨k, vo, C2⟩ w7 hI next
 obtain ⟨hk, hF, hT, hr, htb, hp, hm, hg, hl, ho⟩ := hI
 try simp only at hk hF hT hr htb hp hm hg hl ho
 have next2 := next
 clear next
 show Run _ _ _ _ [(3, .pointer (some ⟨bw1, 0, none⟩)), (10, .pointer (some ⟨bw4, 0, none⟩)), (13, vo), (43, vl), (44, .int .i64 1), (45, .int .i64 k)] _ _
 refine run_sq ?_
 refine run_pl [yy 0] ?_
 refine yV (kq 46 (.binOp .lss 3 (.tmp 45) (.tmp 44) 3)) (fun _ => val_lss rfl rfl) ?_
 refine Sch.nil ?_
 refine run_sq ?_
 refine run_i 46 rfl (fun h46 => ?_) (fun h46 => ?_)
 ·
  obtain rfl : k = 0 := by omega
  have hln : ([l] : List (List Couple)).length = 1 := rfl
  replace ho : OwnL _ _ 7 66 vo ([] : List Nam) := ho
  refine run_sk ?_
  refine run_sq ?_
  refine run_bk 3 ?_
  refine run_sq ?_
  refine run_pl [yy 0, nn 1, yy 2] ?_
  refine iS (e := 42) (kq 47 (.indexAddr 43 (.tmp 43) (.tmp 45))) rfl rfl hl rfl (by kernel_rfl) rfl (by omega) (by omega) ?_
  intro b47 o47 h47
  try simp only [Int.toNat_natCast] at h47
  refine lN (kq 48 (.load 42 (.tmp 47))) rfl rfl trivial h47 (by kernel_rfl) rfl rfl ?_
  intro v48 g48
  replace g48 : RV _ _ l v48 := g48
  refine yA 15 48 ?_
  refine Sch.nil ?_
  refine run_sq ?_
  refine run_pl [nn 0, yy 1, nn 2, yy 3] ?_
  refine nS (kq 49 (.load 31 (.tmp 3))) rfl rfl trivial (val_loadOwnAgg (n := 5) (vs := [.int .i64 num, .int .u64 ka, .int .u64 kb, vr, .bool lv]) hp.at_ (by kernel_rfl) (by kernel_rfl) rfl rfl rfl) ?_
  refine yM 50 15 ?_
  refine cS (kq 51 (.call { callee := .value (.func 44), args := #[(.tmp 49), (.tmp 50)], argTypes := #[31, 42] })) rfl rfl (ent Tryz.call44 rfl) (part_ok hF hr g48 hl5) ?_
  rintro v51 w8 ⟨hs, g51⟩
  rw [hrefs] at g51
  refine ⟨trivial, ?_⟩
  replace hF := hF.st hs
  replace hT := hT.t hs; replace hr := hr.t hs
  replace htb := htb.st hs (by first | decide | (simp <;> omega))
  replace hp := hp.t hs; replace hm := hm.t hs; replace hg := hg.t hs; replace hl := hl.t hs; replace ho := ho.t hs; replace h47 := h47.t hs; replace g48 := g48.t hs
  refine yA 16 51 ?_
  refine Sch.nil ?_
  refine run_sq ?_
  refine run_pl [yy 0, yy 1, yy 2, yy 3, yy 4, yy 5, nn 6, yy 7, yy 8] ?_
  refine yM 52 16 ?_
  refine yS (kq 53 (.call { callee := .builtin .len, args := #[(.tmp 52)], argTypes := #[42] })) rfl rfl (fun w' hS => g51.lenV rfl Tryz.underlying42 w' ) ?_
  refine yV (kq 54 (.binOp .geq 3 (.tmp 53) (.const (.int .i64 2)) 3)) (fun _ => val_is (val_geq rfl rfl) (show _ = Value.bool true from congrArg Value.bool (decide_eq_true (by omega)))) ?_
  refine yM 55 54 ?_
  refine yMg 56 16 3 true ?_
  refine yV (kg 57 (.makeFunc (.func 46) #[] #[(.tmp 10)]) 3 true) (fun _ => val_makeFunc rfl rfl) ?_
  have hcl : ∀ w1, Stp [] w8 (C2) w1 (C2) → ∀ x ∈ (⟨(reg : Int), (id : Int)⟩ :: tl : List Couple), Calls Tryz.prog 46 ([kvC x] ++ (#[.pointer (some ⟨bw4, 0, none⟩)] : Array Value).toList).toArray w1 (Ret fun v w' => v = .bool ((fun _ => false) x) ∧ Stp [] w1 (C2) w' (C2)) := by
    intro w1 h1 x hx
    exact gone_ok (hF.st h1) (by decide) (by decide) (hg.st h1 (by decide)) (hm.st h1 (by decide))
  refine cS (kg 58 (.call { callee := .value (.func 45), args := #[(.tmp 56), (.tmp 57)], argTypes := #[42, 89] }) 3 true) rfl rfl (ent Tryz.call45 rfl) (containsR_ok (p := fun _ => false) (nf := 46) (caps := #[.pointer (some ⟨bw4, 0, none⟩)]) (fun args w => Tryz.call46 args w) hcl hF g51) ?_
  rintro vw9 w9 ⟨rfl, hs⟩
  rw [show ((⟨(reg : Int), (id : Int)⟩ :: tl : List Couple)).any (fun _ => false) = false from List.any_eq_false.2 fun x hx => by simp]
  refine ⟨trivial, ?_⟩
  replace hF := hF.st hs
  replace hT := hT.t hs; replace hr := hr.t hs
  replace htb := htb.st hs (by first | decide | (simp <;> omega))
  replace hp := hp.t hs; replace hm := hm.t hs; replace hg := hg.t hs; replace hl := hl.t hs; replace ho := ho.t hs; replace h47 := h47.t hs; replace g48 := g48.t hs; replace g51 := g51.t hs
  refine yV (kg 59 (.unOp .not 4 (.tmp 58)) 3 true) (fun _ => val_not rfl) ?_
  refine yAt 60 55 59 ?_
  refine Sch.nil ?_
  refine run_cT 60 ?_
  refine run_pl [yy 0, yy 1, yy 2, nn 3, nn 4, yy 5] ?_
  refine yM 61 13 ?_
  refine yM 62 16 ?_
  refine yV (kq 63 (.build 66 #[(1, (.tmp 62))])) (fun _ => val_build (zs := [.int .u64 0, .slice none 0 0]) (ps := [(0, 1), (1, 1)]) (qs := [(1, [v51])]) (cs := [.int .u64 0, v51]) (by kernel_rfl) (by kernel_rfl) (by exact ⟨rfl, ⟨_, rfl, (g51.one rfl).1⟩, trivial⟩) rfl) ?_
  refine aS (kq 64 (.buildSlice 62 1 #[(0, (.tmp 63))])) rfl rfl (a_buildSlice (ys := ([⟨⟨0⟩, (⟨(reg : Int), (id : Int)⟩ :: tl : List Couple)⟩] : List Nam)) (e := 66) (bytes := 32) hF (by kernel_rfl) rfl (by decide) (by decide) ⟨rfl, ⟨_, rfl, rv_nam.2 ⟨v51, rfl, g51⟩⟩, trivial⟩) ?_
  rintro v64 w10 ⟨hs, g64, hF⟩
  refine ⟨trivial, ?_⟩
  replace hT := hT.t hs; replace hr := hr.t hs
  replace htb := htb.st hs (by first | decide | (simp <;> omega))
  replace hp := hp.t hs; replace hm := hm.t hs; replace hg := hg.t hs; replace hl := hl.t hs; replace ho := ho.t hs; replace h47 := h47.t hs; replace g48 := g48.t hs; replace g51 := g51.t hs
  refine aS (kq 65 (.call { callee := .builtin .append, args := #[(.tmp 61), (.tmp 64)], argTypes := #[62, 62] })) rfl rfl (a_append (e := 66) (bytes := 32) hF (by decide) rfl rfl (by kernel_rfl) (by decide) ho g64 (by simp) (by simp)) ?_
  rintro v65 w11 ⟨Cw11, hs, ho, hF⟩
  refine ⟨trivial, ?_⟩
  replace hT := hT.t hs; replace hr := hr.t hs
  replace htb := htb.st hs (by first | decide | (simp <;> omega))
  replace hp := hp.t hs; replace hm := hm.t hs; replace hg := hg.t hs; replace hl := hl.t hs; replace h47 := h47.t hs; replace g48 := g48.t hs; replace g51 := g51.t hs; replace g64 := g64.t hs
  refine yA 13 65 ?_
  refine Sch.nil ?_
  refine run_inBlock ?_
  refine run_pl [yy 0, yy 1] ?_
  refine yV (kq 66 (.binOp .add 3 (.tmp 45) (.const (.int .i64 1)) 3)) (fun _ => val_addi rfl rfl (by omega) (by omega)) ?_
  refine yM 45 66 ?_
  refine Sch.nil ?_
  refine kp (sub_cons 3 rfl rfl (sub_cons 10 rfl rfl (sub_cons 13 rfl rfl (sub_cons 43 rfl rfl (sub_cons 44 rfl rfl (sub_cons 45 rfl rfl (sub_nil _))))))) (next2 (1, v65, Cw11) _ ⟨(by first | omega | (simp only; omega)), hF, hT, hr, htb, hp, hm, hg, hl, ho⟩ (by first | omega | (simp only; omega)))
 ·
  obtain rfl : k = 1 := by omega
  replace ho : OwnL _ _ 7 66 vo ([⟨⟨0⟩, (⟨(reg : Int), (id : Int)⟩ :: tl : List Couple)⟩] : List Nam) := ho
  obtain ⟨ao, co, rfl⟩ := ho.own.len
  refine run_ex 2 ?_
  refine run_sq ?_
  refine run_pl [yy 0, nn 1] ?_
  refine yM 67 13 ?_
  refine cS (kq 68 (.call { callee := .value (.func 47), args := #[(.tmp 67), (.func 48)], argTypes := #[62, 91] })) rfl rfl (ent Tryz.call47 rfl) (sort1N_ok _) ?_
  rintro vw12 w12 ⟨rfl, rfl⟩
  refine ⟨trivial, ?_⟩
  refine Sch.nil ?_
  refine run_sq ?_
  refine run_pl [nn 0, yy 1] ?_
  refine aS (kq 69 (.makeMap 92 none)) rfl rfl (a_makeMap hF 8 (fun n : Int => Value.int .u64 n) vvB) ?_
  rintro _ whq ⟨Chq, bq, rfl, hs, hq, hF⟩
  refine ⟨trivial, ?_⟩
  replace hT := hT.t hs; replace hr := hr.t hs
  replace htb := htb.st hs (by first | decide | (simp <;> omega))
  replace hp := hp.t hs; replace hm := hm.t hs; replace hg := hg.t hs; replace hl := hl.t hs; replace ho := ho.t hs
  refine yA 17 69 ?_
  refine Sch.nil ?_
  refine run_sq ?_
  refine run_sq ?_
  refine run_pl [yy 0, yy 1, yy 2] ?_
  refine yM 70 13 ?_
  refine yS (kq 71 (.call { callee := .builtin .len, args := #[(.tmp 70)], argTypes := #[62] })) rfl rfl (fun w' hS => ho.lenV rfl Tryz.underlying62 w' ) ?_
  refine yV (kq 72 (.move (.const (.int .i64 0)))) (fun _ => val_move rfl) ?_
  refine Sch.nil ?_
  refine run_bk 4 ?_
  
  refine run_lp (ι := Nat × U64 × (List (Int × Bool)) × (Nat → Nat)) (I := fun x w => x.1 ≤ 1 ∧ (x.1 = 0 → x.2.1 = ⟨0⟩ ∧ x.2.2.1 = []) ∧ (x.1 = 1 → x.2.1 = (⟨psdW ka kb num reg id 0⟩ : U64)) ∧ Lim w x.2.2.2 ∧ Stp [2, 3, 4, 5, 6, 7, 8, 9] w₀ (col1 C) w x.2.2.2 ∧ RV w (Mc x.2.2.2) rs vr ∧ Tb Tryz.prog w x.2.2.2 ∧ OwnB w x.2.2.2 3 bw1 (.cells [.int .i64 num, .int .u64 ka, .int .u64 kb, vr, .bool lv].toArray 31) ∧ OwnM w x.2.2.2 5 bm kvC vvB ([] : List (Couple × Bool)) ∧ OwnB w x.2.2.2 6 bw4 (.cells ([.map (some bm)] : List Value).toArray 81) ∧ OwnL w x.2.2.2 7 66 (.slice ao 1 co) ([⟨x.2.1, (⟨(reg : Int), (id : Int)⟩ :: tl : List Couple)⟩] : List Nam) ∧ OwnM w x.2.2.2 8 bq (fun n : Int => Value.int .u64 n) vvB x.2.2.1) (e := fun x => [(3, .pointer (some ⟨bw1, 0, none⟩)), (10, .pointer (some ⟨bw4, 0, none⟩)), (13, .slice ao 1 co), (17, .map (some bq)), (70, .slice ao 1 co), (71, .int .i64 1), (72, .int .i64 x.1)]) (m := fun x => 1 - x.1) (x₀ := (0, ⟨0⟩, [], Chq)) (sr 3 (sr 10 (sr 13 (sr 17 (sr 70 (sr 71 (sr 72 (sub_nil _)))))))) ?_ ?_
  · exact ⟨by omega, fun _ => ⟨rfl, rfl⟩, fun e => by omega, hF, hT, hr, htb, hp, hm, hg, ho, hq⟩
  intro ⟨k, q, m, C3⟩ w13 hI next
  obtain ⟨hk, h0, h1, hF, hT, hr, htb, hp, hm, hg, ho, hq⟩ := hI
  try simp only at hk h0 h1 hF hT hr htb hp hm hg ho hq
  have next3 := next
  clear next
  show Run _ _ _ _ [(3, .pointer (some ⟨bw1, 0, none⟩)), (10, .pointer (some ⟨bw4, 0, none⟩)), (13, .slice ao 1 co), (17, .map (some bq)), (70, .slice ao 1 co), (71, .int .i64 1), (72, .int .i64 k)] _ _
  refine run_sq ?_
  refine run_pl [yy 0] ?_
  refine yV (kq 73 (.binOp .lss 3 (.tmp 72) (.tmp 71) 3)) (fun _ => val_lss rfl rfl) ?_
  refine Sch.nil ?_
  refine run_sq ?_
  refine run_i 73 rfl (fun h73 => ?_) (fun h73 => ?_)
  ·
   obtain rfl : k = 0 := by omega
   obtain ⟨rfl, rfl⟩ := h0 rfl
   have hln : ([⟨⟨0⟩, (⟨(reg : Int), (id : Int)⟩ :: tl : List Couple)⟩] : List Nam).length = 1 := rfl
   refine run_sk ?_
   refine run_sq ?_
   refine run_bk 5 ?_
   refine run_sq ?_
   refine run_pl [yy 0, yy 1, nn 2, nn 3, yy 4, nn 5] ?_
   refine yM 74 72 ?_
   refine oI (e' := 66) (kq 75 (.indexAddr 62 (.tmp 70) (.tmp 72))) rfl rfl ho rfl (by kernel_rfl) rfl (by omega) (by omega) ?_
   intro g75 hg75
   try simp only [Int.toNat_natCast]
   refine oNA (kq 76 (.load 66 (.tmp 75))) rfl rfl trivial ho hg75 (by omega) (by kernel_rfl) (by kernel_rfl) rfl rfl ?_
   intro v76 g76
   try simp only [Int.toNat_natCast] at g76
   replace g76 : RV _ _ (⟨⟨0⟩, (⟨(reg : Int), (id : Int)⟩ :: tl : List Couple)⟩ : Nam) v76 := g76
   obtain ⟨u76, rfl, hu76⟩ := rv_nam.1 g76
   refine aS (kq 19 (.alloc 66)) rfl rfl (a_alloc (cs := [.int .u64 0, .slice none 0 0]) hF 9 (by kernel_rfl)) ?_
   rintro _ w14 ⟨Cw14, bw14, rfl, hs, hn, hF⟩
   refine ⟨trivial, ?_⟩
   replace hT := hT.t hs; replace hr := hr.t hs
   replace htb := htb.st hs (by first | decide | (simp <;> omega))
   replace hp := hp.t hs; replace hm := hm.t hs; replace hg := hg.t hs; replace ho := ho.t hs; replace hq := hq.t hs; replace hu76 := hu76.t hs
   refine yA 18 74 ?_
   refine aN (k0 (.store 66 (.tmp 19) (.tmp 76))) rfl (a_storeAll (vs := [.int .u64 0, u76]) (n := 2) rfl rfl (by kernel_rfl) rfl rfl (by intro u hu; simp only [List.mem_cons, List.not_mem_nil, or_false] at hu; rcases hu with rfl | rfl <;> first | rfl | exact (hu76.one rfl).2) hn rfl) ?_
   rintro _ w15 ⟨rfl, hs, hn⟩
   refine ⟨trivial, ?_⟩
   replace hF := hF.st hs
   replace hT := hT.t hs; replace hr := hr.t hs
   replace htb := htb.st hs (by first | decide | (simp <;> omega))
   replace hp := hp.t hs; replace hm := hm.t hs; replace hg := hg.t hs; replace ho := ho.t hs; replace hq := hq.t hs; replace hu76 := hu76.t hs
   refine Sch.nil ?_
   refine run_sq ?_
   refine run_pl [yy 0] ?_
   refine yAc 20 (.int .i64 0) ?_
   refine Sch.nil ?_
   refine run_sq ?_
   refine run_bk 6 ?_
   
   refine run_lp (ι := Nat × (Nat → Nat)) (I := fun x w => Lim w x.2 ∧ Stp [2, 3, 4, 5, 6, 7, 8, 9] w₀ (col1 C) w x.2 ∧ RV w (Mc x.2) rs vr ∧ Tb Tryz.prog w x.2 ∧ OwnB w x.2 3 bw1 (.cells [.int .i64 num, .int .u64 ka, .int .u64 kb, vr, .bool lv].toArray 31) ∧ OwnM w x.2 5 bm kvC vvB ([] : List (Couple × Bool)) ∧ OwnB w x.2 6 bw4 (.cells ([.map (some bm)] : List Value).toArray 81) ∧ OwnL w x.2 7 66 (.slice ao 1 co) ([⟨⟨0⟩, (⟨(reg : Int), (id : Int)⟩ :: tl : List Couple)⟩] : List Nam) ∧ OwnM w x.2 8 bq (fun n : Int => Value.int .u64 n) vvB ([] : List (Int × Bool)) ∧ RV w (Mc x.2) (⟨(reg : Int), (id : Int)⟩ :: tl : List Couple) u76 ∧ OwnB w x.2 9 bw14 (.cells [.int .u64 0, u76].toArray 66)) (e := fun x => [(3, .pointer (some ⟨bw1, 0, none⟩)), (10, .pointer (some ⟨bw4, 0, none⟩)), (13, .slice ao 1 co), (17, .map (some bq)), (18, .int .i64 0), (19, .pointer (some ⟨bw14, 0, none⟩)), (20, .int .i64 0), (70, .slice ao 1 co), (71, .int .i64 1), (72, .int .i64 0)]) (m := fun x => 0) (x₀ := (0, Cw14)) (sr 3 (sr 10 (sr 13 (sr 17 (sr 18 (sr 19 (sr 20 (sr 70 (sr 71 (sr 72 (sub_nil _))))))))))) ?_ ?_
   · exact ⟨hF, hT, hr, htb, hp, hm, hg, ho, hq, hu76, hn⟩
   intro ⟨z, C4⟩ w16 hI next
   obtain ⟨hF, hT, hr, htb, hp, hm, hg, ho, hq, hu76, hn⟩ := hI
   try simp only at hF hT hr htb hp hm hg ho hq hu76 hn
   have next4 := next
   clear next
   show Run _ _ _ _ [(3, .pointer (some ⟨bw1, 0, none⟩)), (10, .pointer (some ⟨bw4, 0, none⟩)), (13, .slice ao 1 co), (17, .map (some bq)), (18, .int .i64 0), (19, .pointer (some ⟨bw14, 0, none⟩)), (20, .int .i64 0), (70, .slice ao 1 co), (71, .int .i64 1), (72, .int .i64 0)] _ _
   refine run_sq ?_
   refine run_sq ?_
   refine run_draw (id := 27) (ops := F26.o27) [] (C4) [yy 0, yy 1, yy 2, yy 3, yy 4, yy 5, yy 6, nn 7, yy 8] Tryz_mixed (by kernel_rfl) (by kernel_rfl) (by kernel_rfl) ?_
   intro w17 hs
   replace hF := hF.st hs
   replace hT := hT.t hs; replace hr := hr.t hs
   replace htb := htb.st hs (by first | decide | (simp <;> omega))
   replace hp := hp.t hs; replace hm := hm.t hs; replace hg := hg.t hs; replace ho := ho.t hs; replace hq := hq.t hs; replace hu76 := hu76.t hs; replace hn := hn.t hs
   have hR := Stp.refl [] w17 (C4)
   have hp0 := hp
   have hn0 := hn
   have hq0 := hq
   have hu760 := hu76
   refine yM 77 17 ?_
   refine yS (kq 78 (.load 31 (.tmp 3))) rfl rfl (fun w' hS => val_loadOwnAgg (n := 5) (vs := [.int .i64 num, .int .u64 ka, .int .u64 kb, vr, .bool lv]) (hp0.stay hS (by decide)) (by kernel_rfl) (by kernel_rfl) rfl rfl rfl) ?_
   refine yF 79 66 19 1 1 ?_
   refine yS (kq 80 (.load 42 (.tmp 79))) rfl rfl (fun w' hS => val_loadOwn (hn0.sy hS) (by kernel_rfl) rfl rfl) ?_
   refine iS (e := 35) (kq 81 (.indexAddr 42 (.tmp 80) (.const (.int .i64 0)))) rfl rfl hu76 rfl (by kernel_rfl) rfl (by omega) (by omega) ?_
   intro b81 o81 h81
   try simp only [Int.toNat_natCast] at h81
   refine lSA (kq 82 (.load 35 (.tmp 81))) rfl rfl (fun w' hS => h81.sy hS) h81 (by kernel_rfl) (by kernel_rfl) rfl rfl ?_
   intro v82 g82
   replace g82 : RV _ _ (⟨(reg : Int), (id : Int)⟩ : Couple) v82 := g82
   obtain rfl := rv_couple.1 g82
   refine yM 83 20 ?_
   refine cS (kq 84 (.call { callee := .value (.func 9), args := #[(.tmp 78), (.tmp 82), (.tmp 83)], argTypes := #[31, 35, 3] })) rfl rfl (ent Tryz.call9 rfl) (psd_ok (num := num) (reg := reg) (id := id) (turn := 0) hF htb (by omega) hreg hid (by decide)) ?_
   rintro vw18 w18 ⟨rfl, hs⟩
   refine ⟨(hR.trans hs (by simp)).ext, ?_⟩
   replace hF := hF.st hs
   replace hT := hT.t hs; replace hr := hr.t hs
   replace htb := htb.st hs (by first | decide | (simp <;> omega))
   replace hp := hp.t hs; replace hm := hm.t hs; replace hg := hg.t hs; replace ho := ho.t hs; replace hq := hq.t hs; replace hu76 := hu76.t hs; replace hn := hn.t hs; replace hR := hR.t hs; replace h81 := h81.t hs
   refine yS (kq 85 (.lookup 92 (.tmp 77) (.tmp 84) false)) rfl rfl (fun w' hS => val_is ((hq0.stay hS (by decide)).lookup (z0 := false) (k := psdW ka kb num reg id 0) Tryz.underlying92 (keyOK_int Tryz.underlying27) Tryz.zeroValue4 rfl rfl) (show _ = Value.bool false from rfl)) ?_
   refine Sch.nil ?_
   refine run_cF 85 ?_
   refine run_ex 6 ?_
   refine run_sq ?_
   refine run_draw (id := 29) (ops := F26.o29) [] (C4) [yy 0, yy 1, yy 2, yy 3, yy 4, yy 5, yy 6, yy 7, nn 8, yy 9, yy 10, nn 11] Tryz_mixed (by kernel_rfl) (by kernel_rfl) (by kernel_rfl) ?_
   intro w19 hs
   replace hF := hF.st hs
   replace hT := hT.t hs; replace hr := hr.t hs
   replace htb := htb.st hs (by first | decide | (simp <;> omega))
   replace hp := hp.t hs; replace hm := hm.t hs; replace hg := hg.t hs; replace ho := ho.t hs; replace hq := hq.t hs; replace hu76 := hu76.t hs; replace hn := hn.t hs; replace h81 := h81.t hs
   have hR := Stp.refl [] w19 (C4)
   have hp0 := hp
   have hn0 := hn
   have ho0 := ho
   refine yM 88 13 ?_
   refine yM 89 18 ?_
   refine yS (kq 90 (.load 31 (.tmp 3))) rfl rfl (fun w' hS => val_loadOwnAgg (n := 5) (vs := [.int .i64 num, .int .u64 ka, .int .u64 kb, vr, .bool lv]) (hp0.stay hS (by decide)) (by kernel_rfl) (by kernel_rfl) rfl rfl rfl) ?_
   refine yF 91 66 19 1 1 ?_
   refine yS (kq 92 (.load 42 (.tmp 91))) rfl rfl (fun w' hS => val_loadOwn (hn0.sy hS) (by kernel_rfl) rfl rfl) ?_
   refine iS (e := 35) (kq 93 (.indexAddr 42 (.tmp 92) (.const (.int .i64 0)))) rfl rfl hu76 rfl (by kernel_rfl) rfl (by omega) (by omega) ?_
   intro b93 o93 h93
   try simp only [Int.toNat_natCast] at h93
   refine lSA (kq 94 (.load 35 (.tmp 93))) rfl rfl (fun w' hS => h93.sy hS) h93 (by kernel_rfl) (by kernel_rfl) rfl rfl ?_
   intro v94 g94
   replace g94 : RV _ _ (⟨(reg : Int), (id : Int)⟩ : Couple) v94 := g94
   obtain rfl := rv_couple.1 g94
   refine yM 95 20 ?_
   refine cS (kq 96 (.call { callee := .value (.func 9), args := #[(.tmp 90), (.tmp 94), (.tmp 95)], argTypes := #[31, 35, 3] })) rfl rfl (ent Tryz.call9 rfl) (psd_ok (num := num) (reg := reg) (id := id) (turn := 0) hF htb (by omega) hreg hid (by decide)) ?_
   rintro vw20 w20 ⟨rfl, hs⟩
   refine ⟨(hR.trans hs (by simp)).ext, ?_⟩
   replace hF := hF.st hs
   replace hT := hT.t hs; replace hr := hr.t hs
   replace htb := htb.st hs (by first | decide | (simp <;> omega))
   replace hp := hp.t hs; replace hm := hm.t hs; replace hg := hg.t hs; replace ho := ho.t hs; replace hq := hq.t hs; replace hu76 := hu76.t hs; replace hn := hn.t hs; replace h81 := h81.t hs; replace hR := hR.t hs; replace h93 := h93.t hs
   refine oI (e' := 66) (kq 97 (.indexAddr 62 (.tmp 88) (.tmp 89))) rfl rfl ho rfl (by kernel_rfl) rfl (by omega) (by omega) ?_
   intro g97 hg97
   try simp only [Int.toNat_natCast]
   refine yF 98 66 97 0 0 ?_
   refine Sch.free rfl ?_
   refine aN (k0 (.store 27 (.tmp 98) (.tmp 96))) rfl (a_storeF (off := 0) (k := 1) (i := 0) (us := [.int .u64 (psdW ka kb num reg id 0)]) (x0 := (⟨(⟨psdW ka kb num reg id 0⟩ : U64), (⟨(reg : Int), (id : Int)⟩ :: tl : List Couple)⟩ : Nam)) ho hg97 (by simp) rfl rfl (by kernel_rfl) rfl rfl (by intro u hu; rw [List.mem_singleton.1 hu]; rfl) (by decide) (fun vs hv => rep_nam_set (p := ⟨0⟩) hv)) ?_
   rintro _ w21 ⟨rfl, hs, ho⟩
   refine ⟨trivial, ?_⟩
   replace hF := hF.st hs
   replace hT := hT.t hs; replace hr := hr.t hs
   replace htb := htb.st hs (by first | decide | (simp <;> omega))
   replace hp := hp.t hs; replace hm := hm.t hs; replace hg := hg.t hs; replace hq := hq.t hs; replace hu76 := hu76.t hs; replace hn := hn.t hs; replace h81 := h81.t hs; replace h93 := h93.t hs
   replace ho : OwnL w21 C4 7 66 (.slice ao 1 co) ([⟨(⟨psdW ka kb num reg id 0⟩ : U64), (⟨(reg : Int), (id : Int)⟩ :: tl : List Couple)⟩] : List Nam) := ho
   refine Sch.nil ?_
   refine run_pl [yy 0, yy 1, yy 2, yy 3, yy 4, nn 5, nn 6] ?_
   refine yM 99 17 ?_
   refine yM 100 13 ?_
   refine yM 101 18 ?_
   refine oI (e' := 66) (kq 102 (.indexAddr 62 (.tmp 100) (.tmp 101))) rfl rfl ho rfl (by kernel_rfl) rfl (by omega) (by omega) ?_
   intro g102 hg102
   try simp only [Int.toNat_natCast]
   refine yF 103 66 102 0 0 ?_
   refine nS (kq 104 (.load 27 (.tmp 103))) rfl rfl trivial (OwnL.cell (i := 0) (off := 0) (u := .int .u64 (psdW ka kb num reg id 0)) ho hg102 (by simp) (by decide) (by kernel_rfl) (fun vs hv => rep_nam_p (p := (⟨psdW ka kb num reg id 0⟩ : U64)) hv) rfl _ rfl) ?_
   refine aN (k0 (.mapUpdate 92 (.tmp 99) (.tmp 104) (.const (.bool true)))) rfl (a_mapUpdate (k := psdW ka kb num reg id 0) (u := true) hq Tryz.underlying92 (keyOK_int Tryz.underlying27) rfl rfl rfl) ?_
   rintro _ w22 ⟨rfl, hs, hq⟩
   refine ⟨trivial, ?_⟩
   replace hF := hF.st hs
   replace hT := hT.t hs; replace hr := hr.t hs
   replace htb := htb.st hs (by first | decide | (simp <;> omega))
   replace hp := hp.t hs; replace hm := hm.t hs; replace hg := hg.t hs; replace ho := ho.t hs; replace hu76 := hu76.t hs; replace hn := hn.t hs; replace h81 := h81.t hs; replace h93 := h93.t hs
   refine Sch.nil ?_
   refine run_inBlock ?_
   refine run_pl [yy 0, yy 1] ?_
   refine yV (kq 105 (.binOp .add 3 (.tmp 72) (.const (.int .i64 1)) 3)) (fun _ => val_addi rfl rfl (by omega) (by omega)) ?_
   refine yM 72 105 ?_
   refine Sch.nil ?_
   refine kp (sub_cons 3 rfl rfl (sub_cons 10 rfl rfl (sub_cons 13 rfl rfl (sub_cons 17 rfl rfl (sub_cons 70 rfl rfl (sub_cons 71 rfl rfl (sub_cons 72 rfl rfl (sub_nil _)))))))) (next3 (1, (⟨psdW ka kb num reg id 0⟩ : U64), mput [] (psdW ka kb num reg id 0) true, C4) _ ⟨(by first | omega | (simp only; omega)), (fun e => by simp at e), (fun _ => rfl), hF, hT, hr, htb, hp, hm, hg, ho, hq⟩ (by first | omega | (simp only; omega)))
  ·
   obtain rfl := h1 (by omega)
   refine run_ex 4 ?_
   refine run_sq ?_
   refine run_pl [yy 0, yy 1, yy 2] ?_
   refine yM 106 13 ?_
   refine yA 6 106 ?_
   refine yAc 7 (.int .i64 0) ?_
   refine Sch.nil ?_
   refine run_ret2 (by kernel_rfl) Tryz.func26 Tryz.results26 rfl rfl ?_
   exact ⟨_, rfl, hT.out1 (by decide), ho.out hT hF0 (Mc_col1 C) (fun b _ => col1_lt C (by decide) b) (by simp)⟩
end Go.Proofs.YtfkggfmibpigpaaGreatDoor

/- Steps through functions of the program. -/
set_option linter.unusedVariables false
set_option linter.unusedSimpArgs false
set_option maxRecDepth 100000
set_option maxHeartbeats 4000000
namespace Go.Proofs.YtfkggfmibpigpaaGreatDoor
open Go.K Go.K.Rep
namespace F11
noncomputable def c0 := bodyOf Tryz.f11
end F11
theorem links_ok {w₀ : World} {C : Nat → Nat} {num reg id : Nat} {ka kb : Int} {rs : List Int} {vr : Value} {lv : Bool} {l tl : List Couple} {vl vd : Value} (hF : Lim w₀ C) (htb : Tb Tryz.prog w₀ C) (hr : RV w₀ (Mc C) rs vr) (hrs : RgsOK rs) (hn1 : 1 ≤ num) (hn4 : num ≤ 4) (hl : RV w₀ (Mc C) ([l] : List (List Couple)) vl) (hd : RV w₀ (Mc C) ([] : List Couple) vd) (hPs : PsnOK l) (hl5 : l.length ≤ 100000) (hrefs : (l.filter fun r => decide (r.a ∈ rs)) = ⟨(reg : Int), (id : Int)⟩ :: tl) (htl : 1 ≤ tl.length) (htl2 : tl.length ≤ 100000) (hreg : reg ≤ 9223372036854775807) (hid : id ≤ 9223372036854775807) : Calls Tryz.prog 11 #[.agg #[.int .i64 num, .int .u64 ka, .int .u64 kb, vr, .bool lv], vl, vd] w₀ (Ret fun v w' => ∃ u, v = .tuple #[u, .int .i64 0] ∧ Stp [] w₀ C w' C ∧ RV w' (Mc C) ([(⟨(⟨psdW ka kb num reg id 0⟩ : U64), (⟨(reg : Int), (id : Int)⟩ :: tl : List Couple).map (·.a)⟩ : Lnk)] : List Lnk) u) := by
 have hF0 := hF
 have hT := Stp.refl [2, 3, 4, 5, 6, 7, 8, 9] w₀ (col1 C)
 replace hF := hF.col1
 replace hr : RV w₀ (Mc (col1 C)) rs vr := by rw [Mc_col1]; exact hr
 replace hl : RV w₀ (Mc (col1 C)) ([l] : List (List Couple)) vl := by rw [Mc_col1]; exact hl
 replace hd : RV w₀ (Mc (col1 C)) ([] : List Couple) vd := by rw [Mc_col1]; exact hd
 replace htb := htb.col1
 have hrl : (⟨(reg : Int), (id : Int)⟩ :: tl : List Couple).length = tl.length + 1 := List.length_cons
 refine calls_start (c := F11.c0) (N := 58) [.agg #[.int .i64 num, .int .u64 ka, .int .u64 kb, vr, .bool lv], vl, vd] Tryz.func11 (by kernel_rfl) (by kernel_rfl) (by kernel_rfl) ?_
 show Run _ _ _ _ [(0, .agg #[.int .i64 num, .int .u64 ka, .int .u64 kb, vr, .bool lv]), (1, vl), (2, vd)] _ _
 refine run_sq ?_
 refine run_pl [nn 0, yy 1, yy 2] ?_
 refine aS (kq 3 (.box 31 (.tmp 0))) rfl rfl (a_box (cs := [.int .i64 num, .int .u64 ka, .int .u64 kb, vr, .bool lv]) hF 3 rfl rfl) ?_
 rintro _ w1 ⟨Cw1, bw1, rfl, hs, hp, hF⟩
 refine ⟨trivial, ?_⟩
 replace hT := hT.t hs; replace hr := hr.t hs; replace hl := hl.t hs; replace hd := hd.t hs
 replace htb := htb.st hs (by first | decide | (simp <;> omega))
 refine yV (kq 6 (.assign (.const (.slice none 0 0)))) (fun _ => val_assign rfl) ?_
 refine yAc 7 (.int .i64 0) ?_
 refine Sch.nil ?_
 refine run_sq ?_
 refine run_pl [nn 0, yy 1, yy 2, nn 3, yy 4, yy 5, yy 6, yy 7, yy 8] ?_
 refine nS (kq 17 (.load 31 (.tmp 3))) rfl rfl trivial (val_loadOwnAgg (n := 5) (vs := [.int .i64 num, .int .u64 ka, .int .u64 kb, vr, .bool lv]) hp.at_ (by kernel_rfl) (by kernel_rfl) rfl rfl rfl) ?_
 refine yM 18 1 ?_
 refine yM 19 2 ?_
 refine cS (kq 20 (.call { callee := .value (.func 26), args := #[(.tmp 17), (.tmp 18), (.tmp 19)], argTypes := #[31, 43, 42] })) rfl rfl (ent Tryz.call26 rfl) (pparts_ok hF htb hr hrs hn1 hn4 hl hd hPs hl5 hrefs htl htl2 hreg hid) ?_
 rintro vw2 w2 ⟨u, rfl, hs, hu⟩
 refine ⟨trivial, ?_⟩
 replace hF := hF.st hs
 replace hT := hT.t hs; replace hr := hr.t hs; replace hl := hl.t hs; replace hd := hd.t hs
 replace htb := htb.st hs (by first | decide | (simp <;> omega))
 replace hp := hp.t hs
 refine yM 16 20 ?_
 refine yV (kq 21 (.extract (.tmp 16) 0)) (fun _ => val_extract rfl rfl) ?_
 refine yV (kq 22 (.extract (.tmp 16) 1)) (fun _ => val_extract rfl rfl) ?_
 refine yA 8 21 ?_
 refine yA 9 22 ?_
 refine Sch.nil ?_
 refine run_sq ?_
 refine run_sq ?_
 refine run_pl [yy 0, yy 1] ?_
 refine yM 23 9 ?_
 refine yV (kq 24 (.binOp .neq 39 (.tmp 23) (.const (.int .i64 0)) 39)) (fun _ => val_is (val_neq rfl rfl) (show _ = Value.bool false from congrArg Value.bool (decide_eq_false (by decide)))) ?_
 refine Sch.nil ?_
 refine run_cF 24 ?_
 refine run_sk ?_
 refine run_sq ?_
 refine run_pl [yy 0] ?_
 refine yV (kq 10 (.assign (.const (.slice none 0 0)))) (fun _ => val_assign rfl) ?_
 refine Sch.nil ?_
 refine run_sq ?_
 refine run_sq ?_
 refine run_pl [yy 0, yy 1, yy 2] ?_
 refine yM 26 8 ?_
 refine yS (kq 27 (.call { callee := .builtin .len, args := #[(.tmp 26)], argTypes := #[62] })) rfl rfl (fun w' hS => hu.lenV rfl Tryz.underlying62 w' ) ?_
 refine yV (kq 28 (.move (.const (.int .i64 0)))) (fun _ => val_move rfl) ?_
 refine Sch.nil ?_
 refine run_bk 0 ?_
 
 refine run_lp (ι := Nat × Value × (Nat → Nat)) (I := fun x w => x.1 ≤ 1 ∧ Lim w x.2.2 ∧ Stp [2, 3, 4, 5, 6, 7, 8, 9] w₀ (col1 C) w x.2.2 ∧ RV w (Mc x.2.2) ([⟨(⟨psdW ka kb num reg id 0⟩ : U64), (⟨(reg : Int), (id : Int)⟩ :: tl : List Couple)⟩] : List Nam) u ∧ OwnL w x.2.2 4 49 x.2.1 (([(⟨(⟨psdW ka kb num reg id 0⟩ : U64), (⟨(reg : Int), (id : Int)⟩ :: tl : List Couple).map (·.a)⟩ : Lnk)] : List Lnk).take x.1)) (e := fun x => [(10, x.2.1), (26, u), (27, .int .i64 1), (28, .int .i64 x.1)]) (m := fun x => 1 - x.1) (x₀ := (0, .slice none 0 0, Cw1)) (sr 10 (sr 26 (sr 27 (sr 28 (sub_nil _))))) ?_ ?_
 · exact ⟨by omega, hF, hT, hu, OwnL.nil⟩
 intro ⟨k, vo, C1⟩ w3 hI next
 obtain ⟨hk, hF, hT, hu, ho⟩ := hI
 try simp only at hk hF hT hu ho
 have next1 := next
 clear next
 show Run _ _ _ _ [(10, vo), (26, u), (27, .int .i64 1), (28, .int .i64 k)] _ _
 refine run_sq ?_
 refine run_pl [yy 0] ?_
 refine yV (kq 29 (.binOp .lss 3 (.tmp 28) (.tmp 27) 3)) (fun _ => val_lss rfl rfl) ?_
 refine Sch.nil ?_
 refine run_sq ?_
 refine run_i 29 rfl (fun h29 => ?_) (fun h29 => ?_)
 ·
  obtain rfl : k = 0 := by omega
  have hln : ([⟨(⟨psdW ka kb num reg id 0⟩ : U64), (⟨(reg : Int), (id : Int)⟩ :: tl : List Couple)⟩] : List Nam).length = 1 := rfl
  replace ho : OwnL _ _ 4 49 vo ([] : List Lnk) := ho
  refine run_sk ?_
  refine run_sq ?_
  refine run_bk 1 ?_
  refine run_sq ?_
  refine run_pl [yy 0, nn 1, nn 2, nn 3] ?_
  refine iS (e := 66) (kq 30 (.indexAddr 62 (.tmp 26) (.tmp 28))) rfl rfl hu rfl (by kernel_rfl) rfl (by omega) (by omega) ?_
  intro b30 o30 h30
  try simp only [Int.toNat_natCast] at h30
  refine lNA (kq 31 (.load 66 (.tmp 30))) rfl rfl trivial h30 (by kernel_rfl) (by kernel_rfl) rfl rfl ?_
  intro v31 g31
  replace g31 : RV _ _ (⟨(⟨psdW ka kb num reg id 0⟩ : U64), (⟨(reg : Int), (id : Int)⟩ :: tl : List Couple)⟩ : Nam) v31 := g31
  obtain ⟨u31, rfl, hu31⟩ := rv_nam.1 g31
  refine aS (kq 12 (.alloc 66)) rfl rfl (a_alloc (cs := [.int .u64 0, .slice none 0 0]) hF 5 (by kernel_rfl)) ?_
  rintro _ w4 ⟨Cw4, bw4, rfl, hs, hn, hF⟩
  refine ⟨trivial, ?_⟩
  replace hT := hT.t hs; replace hu := hu.t hs; replace ho := ho.t hs; replace h30 := h30.t hs; replace hu31 := hu31.t hs
  refine aN (k0 (.store 66 (.tmp 12) (.tmp 31))) rfl (a_storeAll (vs := [.int .u64 (psdW ka kb num reg id 0), u31]) (n := 2) rfl rfl (by kernel_rfl) rfl rfl (by intro u hu; simp only [List.mem_cons, List.not_mem_nil, or_false] at hu; rcases hu with rfl | rfl <;> first | rfl | exact (hu31.one rfl).2) hn rfl) ?_
  rintro _ w5 ⟨rfl, hs, hn⟩
  refine ⟨trivial, ?_⟩
  replace hF := hF.st hs
  replace hT := hT.t hs; replace hu := hu.t hs; replace ho := ho.t hs; replace h30 := h30.t hs; replace hu31 := hu31.t hs
  refine Sch.nil ?_
  refine run_sq ?_
  refine run_pl [yy 0, nn 1, yy 2, nn 3, nn 4] ?_
  refine yF 32 66 12 0 0 ?_
  refine nS (kq 33 (.load 27 (.tmp 32))) rfl rfl trivial (val_loadOwn hn.at_ (by kernel_rfl) rfl rfl) ?_
  refine yV (kq 34 (.build 49 #[(0, (.tmp 33))])) (fun _ => val_build (zs := [.int .u64 0, .slice none 0 0]) (ps := [(0, 1), (1, 1)]) (qs := [(0, [.int .u64 (psdW ka kb num reg id 0)])]) (cs := [.int .u64 (psdW ka kb num reg id 0), .slice none 0 0]) (by kernel_rfl) (by kernel_rfl) (by exact ⟨rfl, ⟨_, rfl, rfl⟩, trivial⟩) rfl) ?_
  refine aS (kq 13 (.alloc 49)) rfl rfl (a_alloc (cs := [.int .u64 0, .slice none 0 0]) hF 6 (by kernel_rfl)) ?_
  rintro _ w6 ⟨Cw6, bw6, rfl, hs, hb, hF⟩
  refine ⟨trivial, ?_⟩
  replace hT := hT.t hs; replace hu := hu.t hs; replace ho := ho.t hs; replace h30 := h30.t hs; replace hu31 := hu31.t hs; replace hn := hn.t hs
  refine aN (k0 (.store 49 (.tmp 13) (.tmp 34))) rfl (a_storeAll (vs := [.int .u64 (psdW ka kb num reg id 0), .slice none 0 0]) (n := 2) rfl rfl (by kernel_rfl) rfl rfl (by intro z hz; simp only [List.mem_cons, List.not_mem_nil, or_false] at hz; rcases hz with rfl | rfl <;> rfl) hb rfl) ?_
  rintro _ w7 ⟨rfl, hs, hb⟩
  refine ⟨trivial, ?_⟩
  replace hF := hF.st hs
  replace hT := hT.t hs; replace hu := hu.t hs; replace ho := ho.t hs; replace h30 := h30.t hs; replace hu31 := hu31.t hs; replace hn := hn.t hs
  refine Sch.nil ?_
  refine run_sq ?_
  refine run_sq ?_
  refine run_pl [yy 0, nn 1, yy 2, yy 3] ?_
  refine yF 35 66 12 1 1 ?_
  refine nS (kq 36 (.load 42 (.tmp 35))) rfl rfl trivial (val_loadOwn hn.at_ (by kernel_rfl) rfl rfl) ?_
  refine yS (kq 37 (.call { callee := .builtin .len, args := #[(.tmp 36)], argTypes := #[42] })) rfl rfl (fun w' hS => hu31.lenV rfl Tryz.underlying42 w' ) ?_
  refine yV (kq 38 (.move (.const (.int .i64 0)))) (fun _ => val_move rfl) ?_
  refine Sch.nil ?_
  refine run_bk 2 ?_
  
  refine run_lp (ι := Nat × Value × (Nat → Nat)) (I := fun x w => x.1 ≤ (⟨(reg : Int), (id : Int)⟩ :: tl : List Couple).length ∧ Lim w x.2.2 ∧ Stp [2, 3, 4, 5, 6, 7, 8, 9] w₀ (col1 C) w x.2.2 ∧ RV w (Mc x.2.2) ([⟨(⟨psdW ka kb num reg id 0⟩ : U64), (⟨(reg : Int), (id : Int)⟩ :: tl : List Couple)⟩] : List Nam) u ∧ OwnL w x.2.2 4 49 vo ([] : List Lnk) ∧ RV w (Mc x.2.2) (⟨(reg : Int), (id : Int)⟩ :: tl : List Couple) u31 ∧ OwnB w x.2.2 6 bw6 (.cells [.int .u64 (psdW ka kb num reg id 0), x.2.1].toArray 49) ∧ OwnL w x.2.2 7 3 x.2.1 (((⟨(reg : Int), (id : Int)⟩ :: tl : List Couple).take x.1).map (·.a))) (e := fun x => [(10, vo), (13, .pointer (some ⟨bw6, 0, none⟩)), (26, u), (27, .int .i64 1), (28, .int .i64 0), (36, u31), (37, .int .i64 (⟨(reg : Int), (id : Int)⟩ :: tl : List Couple).length), (38, .int .i64 x.1)]) (m := fun x => (⟨(reg : Int), (id : Int)⟩ :: tl : List Couple).length - x.1) (x₀ := (0, .slice none 0 0, Cw6)) (sr 10 (sr 13 (sr 26 (sr 27 (sr 28 (sr 36 (sr 37 (sr 38 (sub_nil _))))))))) ?_ ?_
  · exact ⟨Nat.zero_le _, hF, hT, hu, ho, hu31, hb, OwnL.nil⟩
  intro ⟨j, vg, C2⟩ w8 hI next
  obtain ⟨hj, hF, hT, hu, ho, hu31, hb, hrg⟩ := hI
  try simp only at hj hF hT hu ho hu31 hb hrg
  have next2 := next
  clear next
  show Run _ _ _ _ [(10, vo), (13, .pointer (some ⟨bw6, 0, none⟩)), (26, u), (27, .int .i64 1), (28, .int .i64 0), (36, u31), (37, .int .i64 (⟨(reg : Int), (id : Int)⟩ :: tl : List Couple).length), (38, .int .i64 j)] _ _
  have hle := hu31.le
  have hrj : (((⟨(reg : Int), (id : Int)⟩ :: tl : List Couple).take j).map (·.a)).length = j := by rw [List.length_map, List.length_take]; omega
  refine run_sq ?_
  refine run_pl [yy 0] ?_
  refine yV (kq 39 (.binOp .lss 3 (.tmp 38) (.tmp 37) 3)) (fun _ => val_lss rfl rfl) ?_
  refine Sch.nil ?_
  refine run_sq ?_
  refine run_i 39 rfl (fun h39 => ?_) (fun h39 => ?_)
  ·
   have hjl : j < (⟨(reg : Int), (id : Int)⟩ :: tl : List Couple).length := by omega
   refine run_sk ?_
   refine run_sq ?_
   refine run_bk 3 ?_
   refine run_sq ?_
   refine run_pl [yy 0, nn 1, nn 2, nn 3] ?_
   refine iS (e := 35) (kq 40 (.indexAddr 42 (.tmp 36) (.tmp 38))) rfl rfl hu31 rfl (by kernel_rfl) rfl (by omega) (by omega) ?_
   intro b40 o40 h40
   try simp only [Int.toNat_natCast] at h40
   refine lNA (kq 41 (.load 35 (.tmp 40))) rfl rfl trivial h40 (by kernel_rfl) (by kernel_rfl) rfl rfl ?_
   intro v41 g41
   obtain rfl := rv_couple.1 g41
   refine aS (kq 15 (.alloc 35)) rfl rfl (a_alloc (cs := [.int .i64 0, .int .i64 0]) hF 8 (by kernel_rfl)) ?_
   rintro _ w9 ⟨Cw9, bw9, rfl, hs, hx, hF⟩
   refine ⟨trivial, ?_⟩
   replace hT := hT.t hs; replace hu := hu.t hs; replace ho := ho.t hs; replace hu31 := hu31.t hs; replace hb := hb.t hs; replace hrg := hrg.t hs; replace h40 := h40.t hs
   refine aN (k0 (.store 35 (.tmp 15) (.tmp 41))) rfl (a_storeAll (vs := encR (((⟨(reg : Int), (id : Int)⟩ :: tl : List Couple)[j]'hjl))) (n := 2) rfl rfl (by kernel_rfl) rfl rfl (by intro u hu; simp only [encR, List.mem_cons, List.not_mem_nil, or_false] at hu; rcases hu with rfl | rfl <;> rfl) hx rfl) ?_
   rintro _ w10 ⟨rfl, hs, hx⟩
   refine ⟨trivial, ?_⟩
   replace hF := hF.st hs
   replace hT := hT.t hs; replace hu := hu.t hs; replace ho := ho.t hs; replace hu31 := hu31.t hs; replace hb := hb.t hs; replace hrg := hrg.t hs; replace h40 := h40.t hs
   refine Sch.nil ?_
   refine run_pl [yy 0, nn 1, yy 2, nn 3, nn 4, nn 5, yy 6, nn 7] ?_
   refine yF 42 49 13 1 1 ?_
   refine nS (kq 43 (.load 22 (.tmp 42))) rfl rfl trivial (val_loadOwn hb.at_ (by kernel_rfl) rfl rfl) ?_
   refine yF 44 35 15 0 0 ?_
   refine nS (kq 45 (.load 3 (.tmp 44))) rfl rfl trivial (val_loadOwn hx.at_ (by kernel_rfl) rfl rfl) ?_
   refine aS (kq 46 (.buildSlice 22 1 #[(0, (.tmp 45))])) rfl rfl (a_buildSlice (ys := ([((⟨(reg : Int), (id : Int)⟩ :: tl : List Couple)[j]'hjl).a] : List Int)) (e := 3) (bytes := 8) hF (by kernel_rfl) rfl (by decide) (by decide) ⟨rfl, ⟨_, rfl, rv_int.2 rfl⟩, trivial⟩) ?_
   rintro v46 w11 ⟨hs, g46, hF⟩
   refine ⟨trivial, ?_⟩
   replace hT := hT.t hs; replace hu := hu.t hs; replace ho := ho.t hs; replace hu31 := hu31.t hs; replace hb := hb.t hs; replace hrg := hrg.t hs; replace h40 := h40.t hs; replace hx := hx.t hs
   refine aS (kq 47 (.call { callee := .builtin .append, args := #[(.tmp 43), (.tmp 46)], argTypes := #[22, 22] })) rfl rfl (a_append (e := 3) (bytes := 8) hF (by decide) rfl rfl (by kernel_rfl) (by decide) hrg g46 (by simp only [List.length_cons, List.length_nil] at *; omega) (by simp only [List.length_cons, List.length_nil] at *; omega)) ?_
   rintro v47 w12 ⟨Cw12, hs, hrg, hF⟩
   refine ⟨trivial, ?_⟩
   replace hT := hT.t hs; replace hu := hu.t hs; replace ho := ho.t hs; replace hu31 := hu31.t hs; replace hb := hb.t hs; replace h40 := h40.t hs; replace hx := hx.t hs; replace g46 := g46.t hs
   refine yF 48 49 13 1 1 ?_
   refine aN (k0 (.store 22 (.tmp 48) (.tmp 47))) rfl (a_store1 rfl rfl (by kernel_rfl) hrg.one.1 hrg.one.2 hb (by simp)) ?_
   rintro _ w13 ⟨rfl, hs, hb⟩
   refine ⟨trivial, ?_⟩
   replace hF := hF.st hs
   replace hT := hT.t hs; replace hu := hu.t hs; replace ho := ho.t hs; replace hu31 := hu31.t hs; replace hrg := hrg.t hs; replace h40 := h40.t hs; replace hx := hx.t hs; replace g46 := g46.t hs
   refine Sch.nil ?_
   refine run_inBlock ?_
   refine run_pl [yy 0, yy 1] ?_
   refine yV (kq 49 (.binOp .add 3 (.tmp 38) (.const (.int .i64 1)) 3)) (fun _ => val_addi rfl rfl (by omega) (by omega)) ?_
   refine yM 38 49 ?_
   refine Sch.nil ?_
   refine kp (sub_cons 10 rfl rfl (sub_cons 13 rfl rfl (sub_cons 26 rfl rfl (sub_cons 27 rfl rfl (sub_cons 28 rfl rfl (sub_cons 36 rfl rfl (sub_cons 37 rfl rfl (sub_cons 38 rfl (eq_int (by simp)) (sub_nil _))))))))) (next2 (j + 1, v47, Cw12) _ ⟨(by first | omega | (simp only; omega)), hF, hT, hu, ho, hu31, hb, (by simp only; rw [List.take_succ_eq_append_getElem hjl, List.map_append]; exact hrg)⟩ (by first | omega | (simp only; omega)))
  ·
   have hjl : j = (⟨(reg : Int), (id : Int)⟩ :: tl : List Couple).length := by omega
   rw [hjl, List.take_length] at hrg hrj
   replace hF := hF.frz 7
   replace hT := hT.frz (n := 7) (fun b => Nat.lt_of_lt_of_le (col1_lt2 C b) (by decide))
   replace hu := hu.frz 7
   replace ho := ho.frzK (n := 7) (by decide)
   replace hu31 := hu31.frz 7
   replace hb := hb.frz (n := 7) (by decide)
   have hrg_ := hrg.frz (n := 7) (by decide) (by rw [List.length_map]; omega)
   replace hrg := hrg_
   clear hrg_
   refine run_ex 2 ?_
   refine run_pl [yy 0, nn 1, nn 2, nn 3, yy 4] ?_
   refine yM 50 10 ?_
   refine nS (kq 51 (.load 49 (.tmp 13))) rfl rfl trivial (val_loadOwnAgg (n := 2) (vs := [.int .u64 (psdW ka kb num reg id 0), vg]) hb.at_ (by kernel_rfl) (by kernel_rfl) rfl rfl rfl) ?_
   refine aS (kq 52 (.buildSlice 38 1 #[(0, (.tmp 51))])) rfl rfl (a_buildSlice (ys := ([(⟨(⟨psdW ka kb num reg id 0⟩ : U64), (⟨(reg : Int), (id : Int)⟩ :: tl : List Couple).map (·.a)⟩ : Lnk)] : List Lnk)) (e := 49) (bytes := 32) hF (by kernel_rfl) rfl (by decide) (by decide) ⟨rfl, ⟨_, rfl, rv_lnk.2 ⟨vg, rfl, hrg⟩⟩, trivial⟩) ?_
   rintro v52 w14 ⟨hs, g52, hF⟩
   refine ⟨trivial, ?_⟩
   replace hT := hT.t hs; replace hu := hu.t hs; replace ho := ho.t hs; replace hu31 := hu31.t hs; replace hb := hb.t hs; replace hrg := hrg.t hs
   refine aS (kq 53 (.call { callee := .builtin .append, args := #[(.tmp 50), (.tmp 52)], argTypes := #[38, 38] })) rfl rfl (a_append (e := 49) (bytes := 32) hF (by decide) rfl rfl (by kernel_rfl) (by decide) ho g52 (by simp) (by simp)) ?_
   rintro v53 w15 ⟨Cw15, hs, ho, hF⟩
   refine ⟨trivial, ?_⟩
   replace hT := hT.t hs; replace hu := hu.t hs; replace hu31 := hu31.t hs; replace hb := hb.t hs; replace hrg := hrg.t hs; replace g52 := g52.t hs
   refine yA 10 53 ?_
   refine Sch.nil ?_
   refine run_inBlock ?_
   refine run_pl [yy 0, yy 1] ?_
   refine yV (kq 54 (.binOp .add 3 (.tmp 28) (.const (.int .i64 1)) 3)) (fun _ => val_addi rfl rfl (by omega) (by omega)) ?_
   refine yM 28 54 ?_
   refine Sch.nil ?_
   refine kp (sub_cons 10 rfl rfl (sub_cons 26 rfl rfl (sub_cons 27 rfl rfl (sub_cons 28 rfl rfl (sub_nil _))))) (next1 (1, v53, Cw15) _ ⟨(by first | omega | (simp only; omega)), hF, hT, hu, ho⟩ (by first | omega | (simp only; omega)))
 ·
  obtain rfl : k = 1 := by omega
  replace ho : OwnL _ _ 4 49 vo ([(⟨(⟨psdW ka kb num reg id 0⟩ : U64), (⟨(reg : Int), (id : Int)⟩ :: tl : List Couple).map (·.a)⟩ : Lnk)] : List Lnk) := ho
  obtain ⟨ao, co, rfl⟩ := ho.own.len
  refine run_ex 0 ?_
  refine run_sq ?_
  refine run_pl [yy 0, nn 1] ?_
  refine yM 55 10 ?_
  refine cS (kq 56 (.call { callee := .value (.func 27), args := #[(.tmp 55), (.func 28)], argTypes := #[38, 68] })) rfl rfl (ent Tryz.call27 rfl) (sort1L_ok _) ?_
  rintro vw16 w16 ⟨rfl, rfl⟩
  refine ⟨trivial, ?_⟩
  refine Sch.nil ?_
  refine run_sq ?_
  refine run_pl [yy 0, yy 1, yy 2] ?_
  refine yM 57 10 ?_
  refine yA 6 57 ?_
  refine yAc 7 (.int .i64 0) ?_
  refine Sch.nil ?_
  refine run_ret2 (by kernel_rfl) Tryz.func11 Tryz.results11 rfl rfl ?_
  exact ⟨_, rfl, hT.out1 (by decide), ho.out hT hF0 (Mc_col1 C) (fun b _ => col1_lt C (by decide) b) (by simp)⟩
end Go.Proofs.YtfkggfmibpigpaaGreatDoor

/- Steps through functions of the program. -/
set_option linter.unusedVariables false
set_option linter.unusedSimpArgs false
set_option maxRecDepth 100000
set_option maxHeartbeats 4000000
namespace Go.Proofs.YtfkggfmibpigpaaGreatDoor
open Go.K Go.K.Rep
namespace F92
noncomputable def c0 := bodyOf Tryz.f92
noncomputable def o1 := rops (cl (cr c0))
end F92
theorem refrot_ok {w₀ : World} {C : Nat → Nat} {x k : Int} (hF : Lim w₀ C) (h0 : 0 ≤ k) (h3 : k ≤ 64) : Calls Tryz.prog 92 #[.int .u64 x, .int .i64 k] w₀ (Ret fun v w' => v = .int .u64 (rotW x k) ∧ Stp [] w₀ C w' C) := by
 have hF0 := hF
 have hT := Stp.refl [2, 3, 4, 5, 6, 7, 8, 9] w₀ (col1 C)
 replace hF := hF.col1
 refine calls_start (c := F92.c0) (N := 13) [.int .u64 x, .int .i64 k] Tryz.func92 (by kernel_rfl) (by kernel_rfl) (by kernel_rfl) ?_
 show Run _ _ _ _ [(0, .int .u64 x), (1, .int .i64 k)] _ _
 refine run_sq ?_
 refine run_pl [yy 0] ?_
 refine yAc 4 (.int .u64 0) ?_
 refine Sch.nil ?_
 refine run_sq ?_
 refine run_draw (id := 1) (ops := F92.o1) [] (col1 C) [yy 0, yy 1, yy 2, yy 3, yy 4, yy 5, yy 6, yy 7, yy 8] Tryz_mixed (by kernel_rfl) (by kernel_rfl) (by kernel_rfl) ?_
 intro w1 hs
 replace hF := hF.st hs
 replace hT := hT.t hs
 refine yM 5 0 ?_
 refine yM 6 1 ?_
 refine yV (kq 7 (.binOp .shl 27 (.tmp 5) (.tmp 6) 3)) (fun _ => val_shl rfl rfl (by omega)) ?_
 refine yM 8 0 ?_
 refine yM 9 1 ?_
 refine yV (kq 10 (.binOp .sub 3 (.const (.int .i64 64)) (.tmp 9) 3)) (fun _ => val_subi rfl rfl (by omega) (by omega)) ?_
 refine yV (kq 11 (.binOp .shr 27 (.tmp 8) (.tmp 10) 3)) (fun _ => val_shr rfl rfl (by omega)) ?_
 refine yV (kq 12 (.binOp .or 27 (.tmp 7) (.tmp 11) 27)) (fun _ => val_or rfl rfl) ?_
 refine yA 4 12 ?_
 refine Sch.nil ?_
 refine run_ret1 (by kernel_rfl) Tryz.func92 Tryz.results92 rfl ?_
 exact ⟨rfl, hT.out1 (by decide)⟩
end Go.Proofs.YtfkggfmibpigpaaGreatDoor

/- Steps through functions of the program. -/
set_option linter.unusedVariables false
set_option linter.unusedSimpArgs false
set_option maxRecDepth 100000
set_option maxHeartbeats 4000000
namespace Go.Proofs.YtfkggfmibpigpaaGreatDoor
open Go.K Go.K.Rep
namespace F68
noncomputable def c0 := bodyOf Tryz.f68
noncomputable def o1 := rops (cl (cr c0))
end F68
theorem refround_ok {w₀ : World} {C : Nat → Nat} {s : Sip} (hF : Lim w₀ C) : Calls Tryz.prog 68 #[.agg #[.int .u64 s.a, .int .u64 s.b, .int .u64 s.c, .int .u64 s.d]] w₀ (Ret fun v w' => v = .agg #[.int .u64 (rndW s).a, .int .u64 (rndW s).b, .int .u64 (rndW s).c, .int .u64 (rndW s).d] ∧ Stp [] w₀ C w' C) := by
 have hF0 := hF
 have hT := Stp.refl [2, 3, 4, 5, 6, 7, 8, 9] w₀ (col1 C)
 replace hF := hF.col1
 refine calls_start (c := F68.c0) (N := 52) [.agg #[.int .u64 s.a, .int .u64 s.b, .int .u64 s.c, .int .u64 s.d]] Tryz.func68 (by kernel_rfl) (by kernel_rfl) (by kernel_rfl) ?_
 show Run _ _ _ _ [(0, .agg #[.int .u64 s.a, .int .u64 s.b, .int .u64 s.c, .int .u64 s.d])] _ _
 refine run_sq ?_
 refine run_pl [nn 0, nn 1] ?_
 refine aS (kq 1 (.box 113 (.tmp 0))) rfl rfl (a_box (cs := [.int .u64 s.a, .int .u64 s.b, .int .u64 s.c, .int .u64 s.d]) hF 3 rfl rfl) ?_
 rintro _ w1 ⟨Cw1, bw1, rfl, hs, hx, hF⟩
 refine ⟨trivial, ?_⟩
 replace hT := hT.t hs
 refine aS (kq 2 (.alloc 113)) rfl rfl (a_alloc (cs := [.int .u64 0, .int .u64 0, .int .u64 0, .int .u64 0]) hF 4 (by kernel_rfl)) ?_
 rintro _ w2 ⟨Cw2, bw2, rfl, hs, hy, hF⟩
 refine ⟨trivial, ?_⟩
 replace hT := hT.t hs; replace hx := hx.t hs
 refine Sch.nil ?_
 refine run_sq ?_
 refine run_draw (id := 1) (ops := F68.o1) [] (Cw2) [yy 0, yy 1, yy 2, yy 3, yy 4, yy 5, yy 6, yy 7, yy 8, yy 9, yy 10, yy 11] Tryz_mixed (by kernel_rfl) (by kernel_rfl) (by kernel_rfl) ?_
 intro w3 hs
 replace hF := hF.st hs
 replace hT := hT.t hs; replace hx := hx.t hs; replace hy := hy.t hs
 refine yV (kq 7 (.indexAddr 113 (.tmp 1) (.const (.int .i64 0)))) (fun _ => val_indexArr (n := 1) (o' := 0) Tryz.underlying113 (by kernel_rfl) rfl rfl (by decide) (by decide) rfl) ?_
 refine yS (kq 8 (.load 27 (.tmp 7))) rfl rfl (fun w' hS => val_loadOwn (hx.sy hS) (by kernel_rfl) rfl rfl) ?_
 refine yV (kq 9 (.indexAddr 113 (.tmp 1) (.const (.int .i64 1)))) (fun _ => val_indexArr (n := 1) (o' := 1) Tryz.underlying113 (by kernel_rfl) rfl rfl (by decide) (by decide) rfl) ?_
 refine yS (kq 10 (.load 27 (.tmp 9))) rfl rfl (fun w' hS => val_loadOwn (hx.sy hS) (by kernel_rfl) rfl rfl) ?_
 refine yV (kq 11 (.indexAddr 113 (.tmp 1) (.const (.int .i64 2)))) (fun _ => val_indexArr (n := 1) (o' := 2) Tryz.underlying113 (by kernel_rfl) rfl rfl (by decide) (by decide) rfl) ?_
 refine yS (kq 12 (.load 27 (.tmp 11))) rfl rfl (fun w' hS => val_loadOwn (hx.sy hS) (by kernel_rfl) rfl rfl) ?_
 refine yV (kq 13 (.indexAddr 113 (.tmp 1) (.const (.int .i64 3)))) (fun _ => val_indexArr (n := 1) (o' := 3) Tryz.underlying113 (by kernel_rfl) rfl rfl (by decide) (by decide) rfl) ?_
 refine yS (kq 14 (.load 27 (.tmp 13))) rfl rfl (fun w' hS => val_loadOwn (hx.sy hS) (by kernel_rfl) rfl rfl) ?_
 refine yA 3 8 ?_
 refine yA 4 10 ?_
 refine yA 5 12 ?_
 refine yA 6 14 ?_
 refine Sch.nil ?_
 refine run_sq ?_
 refine run_pl [yy 0, yy 1, yy 2, yy 3] ?_
 refine yM 15 3 ?_
 refine yM 16 4 ?_
 refine yV (kq 17 (.binOp .add 27 (.tmp 15) (.tmp 16) 27)) (fun _ => val_add rfl rfl) ?_
 refine yA 3 17 ?_
 refine Sch.nil ?_
 refine run_sq ?_
 refine run_pl [yy 0, nn 1, yy 2, yy 3, yy 4] ?_
 refine yM 18 4 ?_
 refine cS (kq 19 (.call { callee := .value (.func 92), args := #[(.tmp 18), (.const (.int .i64 13))], argTypes := #[27, 3] })) rfl rfl (ent Tryz.call92 rfl) (refrot_ok (k := 13) hF (by decide) (by decide)) ?_
 rintro vw4 w4 ⟨rfl, hs⟩
 refine ⟨trivial, ?_⟩
 replace hF := hF.st hs
 replace hT := hT.t hs; replace hx := hx.t hs; replace hy := hy.t hs
 refine yM 20 3 ?_
 refine yV (kq 21 (.binOp .xor 27 (.tmp 19) (.tmp 20) 27)) (fun _ => val_xor rfl rfl) ?_
 refine yA 4 21 ?_
 refine Sch.nil ?_
 refine run_sq ?_
 refine run_pl [yy 0, nn 1, yy 2] ?_
 refine yM 22 3 ?_
 refine cS (kq 23 (.call { callee := .value (.func 92), args := #[(.tmp 22), (.const (.int .i64 32))], argTypes := #[27, 3] })) rfl rfl (ent Tryz.call92 rfl) (refrot_ok (k := 32) hF (by decide) (by decide)) ?_
 rintro vw5 w5 ⟨rfl, hs⟩
 refine ⟨trivial, ?_⟩
 replace hF := hF.st hs
 replace hT := hT.t hs; replace hx := hx.t hs; replace hy := hy.t hs
 refine yA 3 23 ?_
 refine Sch.nil ?_
 refine run_sq ?_
 refine run_pl [yy 0, yy 1, yy 2, yy 3] ?_
 refine yM 24 5 ?_
 refine yM 25 6 ?_
 refine yV (kq 26 (.binOp .add 27 (.tmp 24) (.tmp 25) 27)) (fun _ => val_add rfl rfl) ?_
 refine yA 5 26 ?_
 refine Sch.nil ?_
 refine run_sq ?_
 refine run_pl [yy 0, nn 1, yy 2, yy 3, yy 4] ?_
 refine yM 27 6 ?_
 refine cS (kq 28 (.call { callee := .value (.func 92), args := #[(.tmp 27), (.const (.int .i64 16))], argTypes := #[27, 3] })) rfl rfl (ent Tryz.call92 rfl) (refrot_ok (k := 16) hF (by decide) (by decide)) ?_
 rintro vw6 w6 ⟨rfl, hs⟩
 refine ⟨trivial, ?_⟩
 replace hF := hF.st hs
 replace hT := hT.t hs; replace hx := hx.t hs; replace hy := hy.t hs
 refine yM 29 5 ?_
 refine yV (kq 30 (.binOp .xor 27 (.tmp 28) (.tmp 29) 27)) (fun _ => val_xor rfl rfl) ?_
 refine yA 6 30 ?_
 refine Sch.nil ?_
 refine run_sq ?_
 refine run_pl [yy 0, yy 1, yy 2, yy 3] ?_
 refine yM 31 3 ?_
 refine yM 32 6 ?_
 refine yV (kq 33 (.binOp .add 27 (.tmp 31) (.tmp 32) 27)) (fun _ => val_add rfl rfl) ?_
 refine yA 3 33 ?_
 refine Sch.nil ?_
 refine run_sq ?_
 refine run_pl [yy 0, nn 1, yy 2, yy 3, yy 4] ?_
 refine yM 34 6 ?_
 refine cS (kq 35 (.call { callee := .value (.func 92), args := #[(.tmp 34), (.const (.int .i64 21))], argTypes := #[27, 3] })) rfl rfl (ent Tryz.call92 rfl) (refrot_ok (k := 21) hF (by decide) (by decide)) ?_
 rintro vw7 w7 ⟨rfl, hs⟩
 refine ⟨trivial, ?_⟩
 replace hF := hF.st hs
 replace hT := hT.t hs; replace hx := hx.t hs; replace hy := hy.t hs
 refine yM 36 3 ?_
 refine yV (kq 37 (.binOp .xor 27 (.tmp 35) (.tmp 36) 27)) (fun _ => val_xor rfl rfl) ?_
 refine yA 6 37 ?_
 refine Sch.nil ?_
 refine run_sq ?_
 refine run_pl [yy 0, yy 1, yy 2, yy 3] ?_
 refine yM 38 5 ?_
 refine yM 39 4 ?_
 refine yV (kq 40 (.binOp .add 27 (.tmp 38) (.tmp 39) 27)) (fun _ => val_add rfl rfl) ?_
 refine yA 5 40 ?_
 refine Sch.nil ?_
 refine run_sq ?_
 refine run_pl [yy 0, nn 1, yy 2, yy 3, yy 4] ?_
 refine yM 41 4 ?_
 refine cS (kq 42 (.call { callee := .value (.func 92), args := #[(.tmp 41), (.const (.int .i64 17))], argTypes := #[27, 3] })) rfl rfl (ent Tryz.call92 rfl) (refrot_ok (k := 17) hF (by decide) (by decide)) ?_
 rintro vw8 w8 ⟨rfl, hs⟩
 refine ⟨trivial, ?_⟩
 replace hF := hF.st hs
 replace hT := hT.t hs; replace hx := hx.t hs; replace hy := hy.t hs
 refine yM 43 5 ?_
 refine yV (kq 44 (.binOp .xor 27 (.tmp 42) (.tmp 43) 27)) (fun _ => val_xor rfl rfl) ?_
 refine yA 4 44 ?_
 refine Sch.nil ?_
 refine run_sq ?_
 refine run_pl [yy 0, nn 1, yy 2] ?_
 refine yM 45 5 ?_
 refine cS (kq 46 (.call { callee := .value (.func 92), args := #[(.tmp 45), (.const (.int .i64 32))], argTypes := #[27, 3] })) rfl rfl (ent Tryz.call92 rfl) (refrot_ok (k := 32) hF (by decide) (by decide)) ?_
 rintro vw9 w9 ⟨rfl, hs⟩
 refine ⟨trivial, ?_⟩
 replace hF := hF.st hs
 replace hT := hT.t hs; replace hx := hx.t hs; replace hy := hy.t hs
 refine yA 5 46 ?_
 refine Sch.nil ?_
 refine run_sq ?_
 refine run_pl [yy 0, yy 1, yy 2, yy 3, yy 4, nn 5] ?_
 refine yM 47 3 ?_
 refine yM 48 4 ?_
 refine yM 49 5 ?_
 refine yM 50 6 ?_
 refine yV (kq 51 (.build 113 #[(0, (.tmp 47)), (1, (.tmp 48)), (2, (.tmp 49)), (3, (.tmp 50))])) (fun _ => val_mkArr4 (n := 1) (zs := [.int .u64 0, .int .u64 0, .int .u64 0, .int .u64 0]) (cs := [.int .u64 (rndW s).a, .int .u64 (rndW s).b, .int .u64 (rndW s).c, .int .u64 (rndW s).d]) (qs := [(0, [.int .u64 (rndW s).a]), (1, [.int .u64 (rndW s).b]), (2, [.int .u64 (rndW s).c]), (3, [.int .u64 (rndW s).d])]) Tryz.underlying113 (by kernel_rfl) (by kernel_rfl) (by exact ⟨rfl, ⟨_, rfl, rfl⟩, rfl, ⟨_, rfl, rfl⟩, rfl, ⟨_, rfl, rfl⟩, rfl, ⟨_, rfl, rfl⟩, trivial⟩) rfl) ?_
 refine aN (k0 (.store 113 (.tmp 2) (.tmp 51))) rfl (a_storeAll (vs := [.int .u64 (rndW s).a, .int .u64 (rndW s).b, .int .u64 (rndW s).c, .int .u64 (rndW s).d]) (n := 4) rfl rfl (by kernel_rfl) rfl rfl (by intro z hz; simp only [List.mem_cons, List.not_mem_nil, or_false] at hz; rcases hz with rfl | rfl | rfl | rfl <;> rfl) hy rfl) ?_
 rintro _ w10 ⟨rfl, hs, hy⟩
 refine ⟨trivial, ?_⟩
 replace hF := hF.st hs
 replace hT := hT.t hs; replace hx := hx.t hs
 refine Sch.nil ?_
 refine run_retC1 (by kernel_rfl) Tryz.func68 Tryz.results68 rfl hy.at_ (by kernel_rfl) (by kernel_rfl) rfl ?_
 exact ⟨rfl, hT.out1 (by decide)⟩
end Go.Proofs.YtfkggfmibpigpaaGreatDoor

/- Steps through functions of the program. -/
set_option linter.unusedVariables false
set_option linter.unusedSimpArgs false
set_option maxRecDepth 100000
set_option maxHeartbeats 4000000
namespace Go.Proofs.YtfkggfmibpigpaaGreatDoor
open Go.K Go.K.Rep
namespace F43
noncomputable def c0 := bodyOf Tryz.f43
end F43
theorem refsum_ok {w₀ : World} {C : Nat → Nat} {ka kb : Int} {b : List U8} {vb : Value} (hF : Lim w₀ C) (hb : RV w₀ (Mc C) b vb) : Calls Tryz.prog 43 #[.agg #[.int .u64 ka, .int .u64 kb], vb] w₀ (Ret fun v w' => v = .int .u64 (sumW ka kb b) ∧ Stp [] w₀ C w' C) := by
 have hF0 := hF
 have hT := Stp.refl [2, 3, 4, 5, 6, 7, 8, 9] w₀ (col1 C)
 replace hF := hF.col1
 replace hb : RV w₀ (Mc (col1 C)) b vb := by rw [Mc_col1]; exact hb
 have hle := hb.le
 refine calls_start (c := F43.c0) (N := 91) [.agg #[.int .u64 ka, .int .u64 kb], vb] Tryz.func43 (by kernel_rfl) (by kernel_rfl) (by kernel_rfl) ?_
 show Run _ _ _ _ [(0, .agg #[.int .u64 ka, .int .u64 kb]), (1, vb)] _ _
 refine run_sq ?_
 refine run_pl [nn 0, yy 1] ?_
 refine aS (kq 2 (.box 29 (.tmp 0))) rfl rfl (a_box (cs := [.int .u64 ka, .int .u64 kb]) hF 3 rfl rfl) ?_
 rintro _ w1 ⟨Cw1, bw1, rfl, hs, hk, hF⟩
 refine ⟨trivial, ?_⟩
 replace hT := hT.t hs; replace hb := hb.t hs
 refine yAc 4 (.int .u64 0) ?_
 refine Sch.nil ?_
 refine run_sq ?_
 refine run_pl [yy 0, nn 1, yy 2, yy 3, nn 4, yy 5, yy 6, nn 7, yy 8, yy 9, nn 10, yy 11, yy 12, nn 13, nn 14] ?_
 refine yF 10 29 2 0 0 ?_
 refine nS (kq 11 (.load 27 (.tmp 10))) rfl rfl trivial (val_loadOwn hk.at_ (by kernel_rfl) rfl rfl) ?_
 refine yV (kq 12 (.binOp .xor 27 (.tmp 11) (.const (.int .u64 8317987319222330741)) 27)) (fun _ => val_xor rfl rfl) ?_
 refine yF 13 29 2 1 1 ?_
 refine nS (kq 14 (.load 27 (.tmp 13))) rfl rfl trivial (val_loadOwn hk.at_ (by kernel_rfl) rfl rfl) ?_
 refine yV (kq 15 (.binOp .xor 27 (.tmp 14) (.const (.int .u64 7237128888997146477)) 27)) (fun _ => val_xor rfl rfl) ?_
 refine yF 16 29 2 0 0 ?_
 refine nS (kq 17 (.load 27 (.tmp 16))) rfl rfl trivial (val_loadOwn hk.at_ (by kernel_rfl) rfl rfl) ?_
 refine yV (kq 18 (.binOp .xor 27 (.tmp 17) (.const (.int .u64 7816392313619706465)) 27)) (fun _ => val_xor rfl rfl) ?_
 refine yF 19 29 2 1 1 ?_
 refine nS (kq 20 (.load 27 (.tmp 19))) rfl rfl trivial (val_loadOwn hk.at_ (by kernel_rfl) rfl rfl) ?_
 refine yV (kq 21 (.binOp .xor 27 (.tmp 20) (.const (.int .u64 8387220255154660723)) 27)) (fun _ => val_xor rfl rfl) ?_
 refine yV (kq 22 (.build 113 #[(0, (.tmp 12)), (1, (.tmp 15)), (2, (.tmp 18)), (3, (.tmp 21))])) (fun _ => val_mkArr4 (n := 1) (zs := [.int .u64 0, .int .u64 0, .int .u64 0, .int .u64 0]) (cs := [.int .u64 (iniW ka kb).a, .int .u64 (iniW ka kb).b, .int .u64 (iniW ka kb).c, .int .u64 (iniW ka kb).d]) (qs := [(0, [.int .u64 (iniW ka kb).a]), (1, [.int .u64 (iniW ka kb).b]), (2, [.int .u64 (iniW ka kb).c]), (3, [.int .u64 (iniW ka kb).d])]) Tryz.underlying113 (by kernel_rfl) (by kernel_rfl) (by exact ⟨rfl, ⟨_, rfl, rfl⟩, rfl, ⟨_, rfl, rfl⟩, rfl, ⟨_, rfl, rfl⟩, rfl, ⟨_, rfl, rfl⟩, trivial⟩) rfl) ?_
 refine aS (kq 5 (.alloc 113)) rfl rfl (a_alloc (cs := [.int .u64 0, .int .u64 0, .int .u64 0, .int .u64 0]) hF 4 (by kernel_rfl)) ?_
 rintro _ w2 ⟨Cw2, bw2, rfl, hs, hz, hF⟩
 refine ⟨trivial, ?_⟩
 replace hT := hT.t hs; replace hb := hb.t hs; replace hk := hk.t hs
 refine aN (k0 (.store 113 (.tmp 5) (.tmp 22))) rfl (a_storeAll (vs := [.int .u64 (iniW ka kb).a, .int .u64 (iniW ka kb).b, .int .u64 (iniW ka kb).c, .int .u64 (iniW ka kb).d]) (n := 4) rfl rfl (by kernel_rfl) rfl rfl (by intro z hz; simp only [List.mem_cons, List.not_mem_nil, or_false] at hz; rcases hz with rfl | rfl | rfl | rfl <;> rfl) hz rfl) ?_
 rintro _ w3 ⟨rfl, hs, hz⟩
 refine ⟨trivial, ?_⟩
 replace hF := hF.st hs
 replace hT := hT.t hs; replace hb := hb.t hs; replace hk := hk.t hs
 refine Sch.nil ?_
 refine run_sq ?_
 refine run_sq ?_
 refine run_pl [yy 0] ?_
 refine yAc 6 (.int .i64 0) ?_
 refine Sch.nil ?_
 refine run_bk 0 ?_
 
 refine run_lp (ι := Nat × (Nat → Nat)) (I := fun x w => 8 * x.1 ≤ b.length ∧ Lim w x.2 ∧ Stp [2, 3, 4, 5, 6, 7, 8, 9] w₀ (col1 C) w x.2 ∧ RV w (Mc x.2) b vb ∧ OwnB w x.2 4 bw2 (.cells [.int .u64 (grpW (iniW ka kb) b x.1).a, .int .u64 (grpW (iniW ka kb) b x.1).b, .int .u64 (grpW (iniW ka kb) b x.1).c, .int .u64 (grpW (iniW ka kb) b x.1).d].toArray 113)) (e := fun x => [(1, vb), (5, .pointer (some ⟨bw2, 0, none⟩)), (6, .int .i64 ((8 * x.1 : Nat) : Int))]) (m := fun x => b.length - 8 * x.1) (x₀ := (0, Cw2)) (sr 1 (sr 5 (sr 6 (sub_nil _)))) ?_ ?_
 · exact ⟨(by omega), hF, hT, hb, hz⟩
 intro ⟨q, C1⟩ w4 hI next
 obtain ⟨hq, hF, hT, hb, hz⟩ := hI
 try simp only at hq hF hT hb hz
 have next1 := next
 clear next
 show Run _ _ _ _ [(1, vb), (5, .pointer (some ⟨bw2, 0, none⟩)), (6, .int .i64 ((8 * q : Nat) : Int))] _ _
 have hle := hb.le
 obtain ⟨n, hn⟩ : ∃ n : Nat, n = min 8 (b.length - 8 * q) := ⟨_, rfl⟩
 refine run_sq ?_
 refine run_bk 1 ?_
 refine run_sq ?_
 refine run_pl [yy 0] ?_
 refine yAc 7 (.int .u64 0) ?_
 refine Sch.nil ?_
 refine run_sq ?_
 refine run_pl [yy 0, yy 1, yy 2, yy 3, yy 4, yy 5] ?_
 refine yM 25 1 ?_
 refine yS (kq 26 (.call { callee := .builtin .len, args := #[(.tmp 25)], argTypes := #[85] })) rfl rfl (fun w' hS => hb.lenV rfl Tryz.underlying85 w' ) ?_
 refine yM 27 6 ?_
 refine yV (kq 28 (.binOp .sub 3 (.tmp 26) (.tmp 27) 3)) (fun _ => val_subi rfl rfl (by omega) (by omega)) ?_
 refine yV (kq 29 (.call { callee := .builtin .min, args := #[(.const (.int .i64 8)), (.tmp 28)], argTypes := #[3, 3] })) (fun _ => val_is (val_min rfl rfl Tryz.underlying3) (congrArg (Value.int .i64) (show min (8 : Int) ((b.length : Int) - ((8 * q : Nat) : Int)) = (n : Int) by omega))) ?_
 refine yA 8 29 ?_
 refine Sch.nil ?_
 refine run_sq ?_
 refine run_sq ?_
 refine run_pl [yy 0] ?_
 refine yAc 9 (.int .i64 0) ?_
 refine Sch.nil ?_
 refine run_bk 2 ?_
 
 refine run_lp (ι := Nat × (Nat → Nat)) (I := fun x w => x.1 ≤ n ∧ Lim w x.2 ∧ Stp [2, 3, 4, 5, 6, 7, 8, 9] w₀ (col1 C) w x.2 ∧ RV w (Mc x.2) b vb ∧ OwnB w x.2 4 bw2 (.cells [.int .u64 (grpW (iniW ka kb) b q).a, .int .u64 (grpW (iniW ka kb) b q).b, .int .u64 (grpW (iniW ka kb) b q).c, .int .u64 (grpW (iniW ka kb) b q).d].toArray 113)) (e := fun x => [(1, vb), (5, .pointer (some ⟨bw2, 0, none⟩)), (6, .int .i64 ((8 * q : Nat) : Int)), (7, .int .u64 (numW (b.drop (8 * q)) x.1)), (8, .int .i64 n), (9, .int .i64 x.1)]) (m := fun x => n - x.1) (x₀ := (0, C1)) (sr 1 (sr 5 (sr 6 (sr 7 (sr 8 (sr 9 (sub_nil _))))))) ?_ ?_
 · exact ⟨Nat.zero_le _, hF, hT, hb, hz⟩
 intro ⟨i, C2⟩ w5 hI next
 obtain ⟨hin, hF, hT, hb, hz⟩ := hI
 try simp only at hin hF hT hb hz
 have next2 := next
 clear next
 show Run _ _ _ _ [(1, vb), (5, .pointer (some ⟨bw2, 0, none⟩)), (6, .int .i64 ((8 * q : Nat) : Int)), (7, .int .u64 (numW (b.drop (8 * q)) i)), (8, .int .i64 n), (9, .int .i64 i)] _ _
 have hle := hb.le
 have hdl : (b.drop (8 * q)).length = b.length - 8 * q := List.length_drop
 refine run_sq ?_
 refine run_sq ?_
 refine run_pl [yy 0, yy 1, yy 2] ?_
 refine yM 30 9 ?_
 refine yM 31 8 ?_
 refine yV (kq 32 (.binOp .lss 3 (.tmp 30) (.tmp 31) 3)) (fun _ => val_lss rfl rfl) ?_
 refine Sch.nil ?_
 refine run_i 32 rfl (fun h32 => ?_) (fun h32 => ?_)
 ·
  have hil : i < n := by omega
  have hil2 : i < (b.drop (8 * q)).length := by omega
  refine run_sk ?_
  refine run_sq ?_
  refine run_bk 3 ?_
  refine run_pl [yy 0, yy 1, yy 2, yy 3, yy 4, yy 5, nn 6, yy 7, yy 8, yy 9, yy 10, yy 11, yy 12] ?_
  refine yM 35 7 ?_
  refine yM 36 1 ?_
  refine yM 37 6 ?_
  refine yM 38 9 ?_
  refine yV (kq 39 (.binOp .add 3 (.tmp 37) (.tmp 38) 3)) (fun _ => val_addi rfl rfl (by omega) (by omega)) ?_
  refine iS (e := 5) (kq 40 (.indexAddr 85 (.tmp 36) (.tmp 39))) rfl rfl hb rfl (by kernel_rfl) rfl (by omega) (by omega) ?_
  intro b40 o40 h40
  try simp only [Int.toNat_natCast] at h40
  refine lN (kq 41 (.load 5 (.tmp 40))) rfl rfl trivial h40 (by kernel_rfl) rfl rfl ?_
  intro v41 g41
  obtain rfl := rv_num.1 g41
  refine yV (kq 42 (.convert 5 27 (.tmp 41))) (fun _ => val_conv_int rfl ⟨_, Tryz.underlying5⟩ Tryz.underlying27) ?_
  refine yM 43 9 ?_
  refine yV (kq 44 (.binOp .mul 3 (.const (.int .i64 8)) (.tmp 43) 3)) (fun _ => val_muli rfl rfl (by omega) (by omega)) ?_
  refine yV (kq 45 (.binOp .shl 27 (.tmp 42) (.tmp 44) 3)) (fun _ => val_shl rfl rfl (by omega)) ?_
  refine yV (kq 46 (.binOp .or 27 (.tmp 35) (.tmp 45) 27)) (fun _ => val_or rfl rfl) ?_
  refine yA 7 46 ?_
  refine Sch.nil ?_
  refine run_inBlock ?_
  refine run_pl [yy 0, yy 1, yy 2] ?_
  refine yM 33 9 ?_
  refine yV (kq 34 (.binOp .add 3 (.tmp 33) (.const (.int .i64 1)) 3)) (fun _ => val_addi rfl rfl (by omega) (by omega)) ?_
  refine yA 9 34 ?_
  refine Sch.nil ?_
  refine kp (sub_cons 1 rfl rfl (sub_cons 5 rfl rfl (sub_cons 6 rfl rfl (sub_cons 7 rfl (eq_int (by rw [numW_next hil2, List.getElem_drop]; rfl)) (sub_cons 8 rfl rfl (sub_cons 9 rfl (eq_int (by simp)) (sub_nil _))))))) (next2 (i + 1, C2) _ ⟨(by first | omega | (simp only; omega)), hF, hT, hb, hz⟩ (by first | omega | (simp only; omega)))
 ·
  have hil : i = n := by omega
  subst hil
  refine run_ex 2 ?_
  refine run_sq ?_
  refine run_sq ?_
  refine run_pl [yy 0, yy 1] ?_
  refine yM 47 8 ?_
  refine yV (kq 48 (.binOp .lss 3 (.tmp 47) (.const (.int .i64 8)) 3)) (fun _ => val_lss rfl rfl) ?_
  refine Sch.nil ?_
  refine run_i 48 rfl (fun h48 => ?_) (fun h48 => ?_)
  ·
   have hnl : i < 8 := by omega
   have hq8 : q = b.length / 8 := by omega
   have hr8 : i = b.length % 8 := by omega
   refine run_pl [yy 0, yy 1, yy 2, yy 3, yy 4, yy 5, yy 6, yy 7] ?_
   refine yM 49 7 ?_
   refine yM 50 1 ?_
   refine yS (kq 51 (.call { callee := .builtin .len, args := #[(.tmp 50)], argTypes := #[85] })) rfl rfl (fun w' hS => hb.lenV rfl Tryz.underlying85 w' ) ?_
   refine yV (kq 52 (.binOp .rem 3 (.tmp 51) (.const (.int .i64 256)) 3)) (fun _ => val_modi rfl rfl (by omega) (by omega)) ?_
   refine yV (kq 53 (.convert 3 27 (.tmp 52))) (fun _ => val_conv_int rfl ⟨_, Tryz.underlying3⟩ Tryz.underlying27) ?_
   refine yV (kq 54 (.binOp .shl 27 (.tmp 53) (.const (.int .u64 56)) 58)) (fun _ => val_shl rfl rfl (by omega)) ?_
   refine yV (kq 55 (.binOp .or 27 (.tmp 49) (.tmp 54) 27)) (fun _ => val_or rfl rfl) ?_
   refine yA 7 55 ?_
   refine Sch.nil ?_
   refine run_sq ?_
   refine run_pl [yy 0, nn 1, yy 2, yy 3, yy 4, nn 5] ?_
   refine yV (kq 56 (.indexAddr 113 (.tmp 5) (.const (.int .i64 3)))) (fun _ => val_indexArr (n := 1) (o' := 3) Tryz.underlying113 (by kernel_rfl) rfl rfl (by decide) (by decide) rfl) ?_
   refine nS (kq 57 (.load 27 (.tmp 56))) rfl rfl trivial (val_loadOwn hz.at_ (by kernel_rfl) rfl rfl) ?_
   refine yM 58 7 ?_
   refine yV (kq 59 (.binOp .xor 27 (.tmp 57) (.tmp 58) 27)) (fun _ => val_xor rfl rfl) ?_
   refine yV (kq 60 (.indexAddr 113 (.tmp 5) (.const (.int .i64 3)))) (fun _ => val_indexArr (n := 1) (o' := 3) Tryz.underlying113 (by kernel_rfl) rfl rfl (by decide) (by decide) rfl) ?_
   refine aN (k0 (.store 27 (.tmp 60) (.tmp 59))) rfl (a_store1 rfl rfl (by kernel_rfl) rfl rfl hz (by simp)) ?_
   rintro _ w6 ⟨rfl, hs, hz⟩
   refine ⟨trivial, ?_⟩
   replace hF := hF.st hs
   replace hT := hT.t hs; replace hb := hb.t hs
   refine Sch.nil ?_
   refine run_sq ?_
   refine run_pl [nn 0, nn 1, nn 2, nn 3] ?_
   obtain ⟨m, hm⟩ : ∃ m, m = (orW (numW (b.drop (8 * q)) i) (shlW (IntKind.u64.wrap ((b.length : Int) % 256)) 56)) := ⟨_, rfl⟩
   replace hz : OwnB w6 (C2) 4 bw2 (.cells [.int .u64 (grpW (iniW ka kb) b q).a, .int .u64 (grpW (iniW ka kb) b q).b, .int .u64 (grpW (iniW ka kb) b q).c, .int .u64 (xorW (grpW (iniW ka kb) b q).d m)].toArray 113) := by rw [hm]; exact hz
   refine nS (kq 61 (.load 113 (.tmp 5))) rfl rfl trivial (val_loadOwnAgg (n := 4) (vs := [.int .u64 (grpW (iniW ka kb) b q).a, .int .u64 (grpW (iniW ka kb) b q).b, .int .u64 (grpW (iniW ka kb) b q).c, .int .u64 (xorW (grpW (iniW ka kb) b q).d m)]) hz.at_ (by kernel_rfl) (by kernel_rfl) rfl rfl rfl) ?_
   refine cS (kq 62 (.call { callee := .value (.func 68), args := #[(.tmp 61)], argTypes := #[113] })) rfl rfl (ent Tryz.call68 rfl) (refround_ok (s := ⟨(grpW (iniW ka kb) b q).a, (grpW (iniW ka kb) b q).b, (grpW (iniW ka kb) b q).c, xorW (grpW (iniW ka kb) b q).d m⟩) hF) ?_
   rintro vw7 w7 ⟨rfl, hs⟩
   obtain ⟨t1, ht1⟩ : ∃ z, z = rndW ⟨(grpW (iniW ka kb) b q).a, (grpW (iniW ka kb) b q).b, (grpW (iniW ka kb) b q).c, xorW (grpW (iniW ka kb) b q).d m⟩ := ⟨_, rfl⟩
   rw [← ht1]
   refine ⟨trivial, ?_⟩
   replace hF := hF.st hs
   replace hT := hT.t hs; replace hb := hb.t hs; replace hz := hz.t hs
   refine cS (kq 63 (.call { callee := .value (.func 68), args := #[(.tmp 62)], argTypes := #[113] })) rfl rfl (ent Tryz.call68 rfl) (refround_ok (s := t1) hF) ?_
   rintro vw8 w8 ⟨rfl, hs⟩
   obtain ⟨t2, ht2⟩ : ∃ z, z = rndW t1 := ⟨_, rfl⟩
   rw [← ht2]
   refine ⟨trivial, ?_⟩
   replace hF := hF.st hs
   replace hT := hT.t hs; replace hb := hb.t hs; replace hz := hz.t hs
   refine aN (k0 (.store 113 (.tmp 5) (.tmp 63))) rfl (a_storeAll (vs := [.int .u64 t2.a, .int .u64 t2.b, .int .u64 t2.c, .int .u64 t2.d]) (n := 4) rfl rfl (by kernel_rfl) rfl rfl (by intro z hz; simp only [List.mem_cons, List.not_mem_nil, or_false] at hz; rcases hz with rfl | rfl | rfl | rfl <;> rfl) hz rfl) ?_
   rintro _ w9 ⟨rfl, hs, hz⟩
   refine ⟨trivial, ?_⟩
   replace hF := hF.st hs
   replace hT := hT.t hs; replace hb := hb.t hs
   refine Sch.nil ?_
   refine run_sq ?_
   refine run_pl [yy 0, nn 1, yy 2, yy 3, yy 4, nn 5] ?_
   refine yV (kq 64 (.indexAddr 113 (.tmp 5) (.const (.int .i64 0)))) (fun _ => val_indexArr (n := 1) (o' := 0) Tryz.underlying113 (by kernel_rfl) rfl rfl (by decide) (by decide) rfl) ?_
   refine nS (kq 65 (.load 27 (.tmp 64))) rfl rfl trivial (val_loadOwn hz.at_ (by kernel_rfl) rfl rfl) ?_
   refine yV (kq 66 (.move (.tmp 7))) (fun _ => val_is (val_move rfl) (congrArg (Value.int .u64) hm.symm)) ?_
   refine yV (kq 67 (.binOp .xor 27 (.tmp 65) (.tmp 66) 27)) (fun _ => val_xor rfl rfl) ?_
   refine yV (kq 68 (.indexAddr 113 (.tmp 5) (.const (.int .i64 0)))) (fun _ => val_indexArr (n := 1) (o' := 0) Tryz.underlying113 (by kernel_rfl) rfl rfl (by decide) (by decide) rfl) ?_
   refine aN (k0 (.store 27 (.tmp 68) (.tmp 67))) rfl (a_store1 rfl rfl (by kernel_rfl) rfl rfl hz (by simp)) ?_
   rintro _ w10 ⟨rfl, hs, hz⟩
   refine ⟨trivial, ?_⟩
   replace hF := hF.st hs
   replace hT := hT.t hs; replace hb := hb.t hs
   refine Sch.nil ?_
   have htk : takeW (grpW (iniW ka kb) b q) m = ⟨xorW t2.a m, t2.b, t2.c, t2.d⟩ := by rw [ht2, ht1]; rfl
   have hlw : m = lastW b := by rw [hm]; unfold lastW; rw [← hq8, ← hr8, shlW_len]
   obtain ⟨t, ht⟩ : ∃ t, t = takeW (grpW (iniW ka kb) b q) (lastW b) := ⟨_, rfl⟩
   rw [hlw] at htk
   have hta : xorW t2.a m = t.a := by rw [ht, htk, hlw]
   have htb : t2.b = t.b := by rw [ht, htk]
   have htc : t2.c = t.c := by rw [ht, htk]
   have htd : t2.d = t.d := by rw [ht, htk]
   replace hz : OwnB w10 (C2) 4 bw2 (.cells [.int .u64 (xorW t2.a m), .int .u64 t2.b, .int .u64 t2.c, .int .u64 t2.d].toArray 113) := hz
   rw [hta, htb, htc, htd] at hz
   refine run_sq ?_
   refine run_pl [yy 0, yy 1] ?_
   refine yM 69 8 ?_
   refine yV (kq 70 (.binOp .lss 3 (.tmp 69) (.const (.int .i64 8)) 3)) (fun _ => val_lss rfl rfl) ?_
   refine Sch.nil ?_
   refine run_i 70 rfl (fun h70 => ?_) (fun h70 => ?_)
   ·
    refine run_ex 0 ?_
    refine run_sq ?_
    refine run_pl [yy 0, nn 1, yy 2, yy 3, nn 4] ?_
    refine yV (kq 71 (.indexAddr 113 (.tmp 5) (.const (.int .i64 2)))) (fun _ => val_indexArr (n := 1) (o' := 2) Tryz.underlying113 (by kernel_rfl) rfl rfl (by decide) (by decide) rfl) ?_
    refine nS (kq 72 (.load 27 (.tmp 71))) rfl rfl trivial (val_loadOwn hz.at_ (by kernel_rfl) rfl rfl) ?_
    refine yV (kq 73 (.binOp .xor 27 (.tmp 72) (.const (.int .u64 255)) 27)) (fun _ => val_xor rfl rfl) ?_
    refine yV (kq 74 (.indexAddr 113 (.tmp 5) (.const (.int .i64 2)))) (fun _ => val_indexArr (n := 1) (o' := 2) Tryz.underlying113 (by kernel_rfl) rfl rfl (by decide) (by decide) rfl) ?_
    refine aN (k0 (.store 27 (.tmp 74) (.tmp 73))) rfl (a_store1 rfl rfl (by kernel_rfl) rfl rfl hz (by simp)) ?_
    rintro _ w11 ⟨rfl, hs, hz⟩
    refine ⟨trivial, ?_⟩
    replace hF := hF.st hs
    replace hT := hT.t hs; replace hb := hb.t hs
    refine Sch.nil ?_
    refine run_sq ?_
    refine run_pl [nn 0, nn 1, nn 2, nn 3, nn 4, nn 5] ?_
    refine nS (kq 75 (.load 113 (.tmp 5))) rfl rfl trivial (val_loadOwnAgg (n := 4) (vs := [.int .u64 t.a, .int .u64 t.b, .int .u64 (xorW t.c 255), .int .u64 t.d]) hz.at_ (by kernel_rfl) (by kernel_rfl) rfl rfl rfl) ?_
    refine cS (kq 76 (.call { callee := .value (.func 68), args := #[(.tmp 75)], argTypes := #[113] })) rfl rfl (ent Tryz.call68 rfl) (refround_ok (s := ⟨t.a, t.b, xorW t.c 255, t.d⟩) hF) ?_
    rintro vw12 w12 ⟨rfl, hs⟩
    obtain ⟨u1, hu1⟩ : ∃ z, z = rndW ⟨t.a, t.b, xorW t.c 255, t.d⟩ := ⟨_, rfl⟩
    rw [← hu1]
    refine ⟨trivial, ?_⟩
    replace hF := hF.st hs
    replace hT := hT.t hs; replace hb := hb.t hs; replace hz := hz.t hs
    refine cS (kq 77 (.call { callee := .value (.func 68), args := #[(.tmp 76)], argTypes := #[113] })) rfl rfl (ent Tryz.call68 rfl) (refround_ok (s := u1) hF) ?_
    rintro vw13 w13 ⟨rfl, hs⟩
    obtain ⟨u2, hu2⟩ : ∃ z, z = rndW u1 := ⟨_, rfl⟩
    rw [← hu2]
    refine ⟨trivial, ?_⟩
    replace hF := hF.st hs
    replace hT := hT.t hs; replace hb := hb.t hs; replace hz := hz.t hs
    refine cS (kq 78 (.call { callee := .value (.func 68), args := #[(.tmp 77)], argTypes := #[113] })) rfl rfl (ent Tryz.call68 rfl) (refround_ok (s := u2) hF) ?_
    rintro vw14 w14 ⟨rfl, hs⟩
    obtain ⟨u3, hu3⟩ : ∃ z, z = rndW u2 := ⟨_, rfl⟩
    rw [← hu3]
    refine ⟨trivial, ?_⟩
    replace hF := hF.st hs
    replace hT := hT.t hs; replace hb := hb.t hs; replace hz := hz.t hs
    refine cS (kq 79 (.call { callee := .value (.func 68), args := #[(.tmp 78)], argTypes := #[113] })) rfl rfl (ent Tryz.call68 rfl) (refround_ok (s := u3) hF) ?_
    rintro vw15 w15 ⟨rfl, hs⟩
    obtain ⟨u, hu⟩ : ∃ z, z = rndW u3 := ⟨_, rfl⟩
    rw [← hu]
    refine ⟨trivial, ?_⟩
    replace hF := hF.st hs
    replace hT := hT.t hs; replace hb := hb.t hs; replace hz := hz.t hs
    refine aN (k0 (.store 113 (.tmp 5) (.tmp 79))) rfl (a_storeAll (vs := [.int .u64 u.a, .int .u64 u.b, .int .u64 u.c, .int .u64 u.d]) (n := 4) rfl rfl (by kernel_rfl) rfl rfl (by intro z hz; simp only [List.mem_cons, List.not_mem_nil, or_false] at hz; rcases hz with rfl | rfl | rfl | rfl <;> rfl) hz rfl) ?_
    rintro _ w16 ⟨rfl, hs, hz⟩
    refine ⟨trivial, ?_⟩
    replace hF := hF.st hs
    replace hT := hT.t hs; replace hb := hb.t hs
    refine Sch.nil ?_
    refine run_sq ?_
    refine run_pl [yy 0, nn 1, yy 2, nn 3, yy 4, yy 5, nn 6, yy 7, yy 8, nn 9, yy 10, yy 11] ?_
    refine yV (kq 80 (.indexAddr 113 (.tmp 5) (.const (.int .i64 0)))) (fun _ => val_indexArr (n := 1) (o' := 0) Tryz.underlying113 (by kernel_rfl) rfl rfl (by decide) (by decide) rfl) ?_
    refine nS (kq 81 (.load 27 (.tmp 80))) rfl rfl trivial (val_loadOwn hz.at_ (by kernel_rfl) rfl rfl) ?_
    refine yV (kq 82 (.indexAddr 113 (.tmp 5) (.const (.int .i64 1)))) (fun _ => val_indexArr (n := 1) (o' := 1) Tryz.underlying113 (by kernel_rfl) rfl rfl (by decide) (by decide) rfl) ?_
    refine nS (kq 83 (.load 27 (.tmp 82))) rfl rfl trivial (val_loadOwn hz.at_ (by kernel_rfl) rfl rfl) ?_
    refine yV (kq 84 (.binOp .xor 27 (.tmp 81) (.tmp 83) 27)) (fun _ => val_xor rfl rfl) ?_
    refine yV (kq 85 (.indexAddr 113 (.tmp 5) (.const (.int .i64 2)))) (fun _ => val_indexArr (n := 1) (o' := 2) Tryz.underlying113 (by kernel_rfl) rfl rfl (by decide) (by decide) rfl) ?_
    refine nS (kq 86 (.load 27 (.tmp 85))) rfl rfl trivial (val_loadOwn hz.at_ (by kernel_rfl) rfl rfl) ?_
    refine yV (kq 87 (.binOp .xor 27 (.tmp 84) (.tmp 86) 27)) (fun _ => val_xor rfl rfl) ?_
    refine yV (kq 88 (.indexAddr 113 (.tmp 5) (.const (.int .i64 3)))) (fun _ => val_indexArr (n := 1) (o' := 3) Tryz.underlying113 (by kernel_rfl) rfl rfl (by decide) (by decide) rfl) ?_
    refine nS (kq 89 (.load 27 (.tmp 88))) rfl rfl trivial (val_loadOwn hz.at_ (by kernel_rfl) rfl rfl) ?_
    refine yV (kq 90 (.binOp .xor 27 (.tmp 87) (.tmp 89) 27)) (fun _ => val_xor rfl rfl) ?_
    refine yA 4 90 ?_
    refine Sch.nil ?_
    refine run_ret1 (by kernel_rfl) Tryz.func43 Tryz.results43 rfl ?_
    rw [show sumW ka kb b = xorW (xorW (xorW u.a u.b) u.c) u.d from by unfold sumW; rw [← hq8, ← ht, hu, hu3, hu2, hu1]; rfl]
    exact ⟨rfl, hT.out1 (by decide)⟩
   ·
    exfalso; omega
  ·
   have hnl : i = 8 := by omega
   subst hnl
   refine run_sk ?_
   refine run_sq ?_
   refine run_pl [yy 0, nn 1, yy 2, yy 3, yy 4, nn 5] ?_
   refine yV (kq 56 (.indexAddr 113 (.tmp 5) (.const (.int .i64 3)))) (fun _ => val_indexArr (n := 1) (o' := 3) Tryz.underlying113 (by kernel_rfl) rfl rfl (by decide) (by decide) rfl) ?_
   refine nS (kq 57 (.load 27 (.tmp 56))) rfl rfl trivial (val_loadOwn hz.at_ (by kernel_rfl) rfl rfl) ?_
   refine yM 58 7 ?_
   refine yV (kq 59 (.binOp .xor 27 (.tmp 57) (.tmp 58) 27)) (fun _ => val_xor rfl rfl) ?_
   refine yV (kq 60 (.indexAddr 113 (.tmp 5) (.const (.int .i64 3)))) (fun _ => val_indexArr (n := 1) (o' := 3) Tryz.underlying113 (by kernel_rfl) rfl rfl (by decide) (by decide) rfl) ?_
   refine aN (k0 (.store 27 (.tmp 60) (.tmp 59))) rfl (a_store1 rfl rfl (by kernel_rfl) rfl rfl hz (by simp)) ?_
   rintro _ w17 ⟨rfl, hs, hz⟩
   refine ⟨trivial, ?_⟩
   replace hF := hF.st hs
   replace hT := hT.t hs; replace hb := hb.t hs
   refine Sch.nil ?_
   refine run_sq ?_
   refine run_pl [nn 0, nn 1, nn 2, nn 3] ?_
   obtain ⟨m, hm⟩ : ∃ m, m = (numW (b.drop (8 * q)) 8) := ⟨_, rfl⟩
   replace hz : OwnB w17 (C2) 4 bw2 (.cells [.int .u64 (grpW (iniW ka kb) b q).a, .int .u64 (grpW (iniW ka kb) b q).b, .int .u64 (grpW (iniW ka kb) b q).c, .int .u64 (xorW (grpW (iniW ka kb) b q).d m)].toArray 113) := by rw [hm]; exact hz
   refine nS (kq 61 (.load 113 (.tmp 5))) rfl rfl trivial (val_loadOwnAgg (n := 4) (vs := [.int .u64 (grpW (iniW ka kb) b q).a, .int .u64 (grpW (iniW ka kb) b q).b, .int .u64 (grpW (iniW ka kb) b q).c, .int .u64 (xorW (grpW (iniW ka kb) b q).d m)]) hz.at_ (by kernel_rfl) (by kernel_rfl) rfl rfl rfl) ?_
   refine cS (kq 62 (.call { callee := .value (.func 68), args := #[(.tmp 61)], argTypes := #[113] })) rfl rfl (ent Tryz.call68 rfl) (refround_ok (s := ⟨(grpW (iniW ka kb) b q).a, (grpW (iniW ka kb) b q).b, (grpW (iniW ka kb) b q).c, xorW (grpW (iniW ka kb) b q).d m⟩) hF) ?_
   rintro vw18 w18 ⟨rfl, hs⟩
   obtain ⟨t1, ht1⟩ : ∃ z, z = rndW ⟨(grpW (iniW ka kb) b q).a, (grpW (iniW ka kb) b q).b, (grpW (iniW ka kb) b q).c, xorW (grpW (iniW ka kb) b q).d m⟩ := ⟨_, rfl⟩
   rw [← ht1]
   refine ⟨trivial, ?_⟩
   replace hF := hF.st hs
   replace hT := hT.t hs; replace hb := hb.t hs; replace hz := hz.t hs
   refine cS (kq 63 (.call { callee := .value (.func 68), args := #[(.tmp 62)], argTypes := #[113] })) rfl rfl (ent Tryz.call68 rfl) (refround_ok (s := t1) hF) ?_
   rintro vw19 w19 ⟨rfl, hs⟩
   obtain ⟨t2, ht2⟩ : ∃ z, z = rndW t1 := ⟨_, rfl⟩
   rw [← ht2]
   refine ⟨trivial, ?_⟩
   replace hF := hF.st hs
   replace hT := hT.t hs; replace hb := hb.t hs; replace hz := hz.t hs
   refine aN (k0 (.store 113 (.tmp 5) (.tmp 63))) rfl (a_storeAll (vs := [.int .u64 t2.a, .int .u64 t2.b, .int .u64 t2.c, .int .u64 t2.d]) (n := 4) rfl rfl (by kernel_rfl) rfl rfl (by intro z hz; simp only [List.mem_cons, List.not_mem_nil, or_false] at hz; rcases hz with rfl | rfl | rfl | rfl <;> rfl) hz rfl) ?_
   rintro _ w20 ⟨rfl, hs, hz⟩
   refine ⟨trivial, ?_⟩
   replace hF := hF.st hs
   replace hT := hT.t hs; replace hb := hb.t hs
   refine Sch.nil ?_
   refine run_sq ?_
   refine run_pl [yy 0, nn 1, yy 2, yy 3, yy 4, nn 5] ?_
   refine yV (kq 64 (.indexAddr 113 (.tmp 5) (.const (.int .i64 0)))) (fun _ => val_indexArr (n := 1) (o' := 0) Tryz.underlying113 (by kernel_rfl) rfl rfl (by decide) (by decide) rfl) ?_
   refine nS (kq 65 (.load 27 (.tmp 64))) rfl rfl trivial (val_loadOwn hz.at_ (by kernel_rfl) rfl rfl) ?_
   refine yV (kq 66 (.move (.tmp 7))) (fun _ => val_is (val_move rfl) (congrArg (Value.int .u64) hm.symm)) ?_
   refine yV (kq 67 (.binOp .xor 27 (.tmp 65) (.tmp 66) 27)) (fun _ => val_xor rfl rfl) ?_
   refine yV (kq 68 (.indexAddr 113 (.tmp 5) (.const (.int .i64 0)))) (fun _ => val_indexArr (n := 1) (o' := 0) Tryz.underlying113 (by kernel_rfl) rfl rfl (by decide) (by decide) rfl) ?_
   refine aN (k0 (.store 27 (.tmp 68) (.tmp 67))) rfl (a_store1 rfl rfl (by kernel_rfl) rfl rfl hz (by simp)) ?_
   rintro _ w21 ⟨rfl, hs, hz⟩
   refine ⟨trivial, ?_⟩
   replace hF := hF.st hs
   replace hT := hT.t hs; replace hb := hb.t hs
   refine Sch.nil ?_
   have htk : takeW (grpW (iniW ka kb) b q) m = ⟨xorW t2.a m, t2.b, t2.c, t2.d⟩ := by rw [ht2, ht1]; rfl
   refine run_sq ?_
   refine run_pl [yy 0, yy 1] ?_
   refine yM 69 8 ?_
   refine yV (kq 70 (.binOp .lss 3 (.tmp 69) (.const (.int .i64 8)) 3)) (fun _ => val_lss rfl rfl) ?_
   refine Sch.nil ?_
   refine run_i 70 rfl (fun h70 => ?_) (fun h70 => ?_)
   ·
    exfalso; omega
   ·
    refine run_sk ?_
    refine run_inBlock ?_
    refine run_pl [yy 0, yy 1, yy 2] ?_
    refine yM 23 6 ?_
    refine yV (kq 24 (.binOp .add 3 (.tmp 23) (.const (.int .i64 8)) 3)) (fun _ => val_addi rfl rfl (by omega) (by omega)) ?_
    refine yA 6 24 ?_
    refine Sch.nil ?_
    refine kp (sub_cons 1 rfl rfl (sub_cons 5 rfl rfl (sub_cons 6 rfl (eq_int (by omega)) (sub_nil _)))) (next1 (q + 1, C2) _ ⟨(by first | omega | (simp only; omega)), hF, hT, hb, (by rw [show grpW (iniW ka kb) b (q + 1) = ⟨xorW t2.a m, t2.b, t2.c, t2.d⟩ from by rw [← htk, hm]; rfl]; exact hz)⟩ (by first | omega | (simp only; omega)))
end Go.Proofs.YtfkggfmibpigpaaGreatDoor

/- Steps through functions of the program. -/
set_option linter.unusedVariables false
set_option linter.unusedSimpArgs false
set_option maxRecDepth 100000
set_option maxHeartbeats 4000000
namespace Go.Proofs.YtfkggfmibpigpaaGreatDoor
open Go.K Go.K.Rep
namespace F23
noncomputable def c0 := bodyOf Tryz.f23
end F23
theorem refparts_ok {w₀ : World} {C : Nat → Nat} {ka kb : Int} {l : List Tx} {vl : Value} (hF : Lim w₀ C) (hl : RV w₀ (Mc C) l vl) (hs0 : ∀ x ∈ l, x.l.length ≤ 65535) (hn : l.length ≤ 100) : Calls Tryz.prog 23 #[.agg #[.int .u64 ka, .int .u64 kb], vl] w₀ (Ret fun v w' => v = .int .u64 (partsW ka kb (l.map (·.l))) ∧ Stp [] w₀ C w' C) := by
 have hF0 := hF
 have hT := Stp.refl [2, 3, 4, 5, 6, 7, 8, 9] w₀ (col1 C)
 replace hF := hF.col1
 replace hl : RV w₀ (Mc (col1 C)) l vl := by rw [Mc_col1]; exact hl
 refine calls_start (c := F23.c0) (N := 39) [.agg #[.int .u64 ka, .int .u64 kb], vl] Tryz.func23 (by kernel_rfl) (by kernel_rfl) (by kernel_rfl) ?_
 show Run _ _ _ _ [(0, .agg #[.int .u64 ka, .int .u64 kb]), (1, vl)] _ _
 refine run_sq ?_
 refine run_pl [nn 0, yy 1] ?_
 refine aS (kq 2 (.box 29 (.tmp 0))) rfl rfl (a_box (cs := [.int .u64 ka, .int .u64 kb]) hF 3 rfl rfl) ?_
 rintro _ w1 ⟨Cw1, bw1, rfl, hs, hk, hF⟩
 refine ⟨trivial, ?_⟩
 replace hT := hT.t hs; replace hl := hl.t hs
 refine yAc 4 (.int .u64 0) ?_
 refine Sch.nil ?_
 refine run_sq ?_
 refine run_pl [yy 0] ?_
 refine yV (kq 5 (.assign (.const (.slice none 0 0)))) (fun _ => val_assign rfl) ?_
 refine Sch.nil ?_
 refine run_sq ?_
 refine run_sq ?_
 refine run_pl [yy 0] ?_
 refine yAc 6 (.int .i64 0) ?_
 refine Sch.nil ?_
 refine run_bk 0 ?_
 
 refine run_lp (ι := Nat × Value × (Nat → Nat)) (I := fun x w => x.1 ≤ l.length ∧ ((l.take x.1).flatMap fun x => lenB x.l).length ≤ 65537 * x.1 ∧ Lim w x.2.2 ∧ Stp [2, 3, 4, 5, 6, 7, 8, 9] w₀ (col1 C) w x.2.2 ∧ RV w (Mc x.2.2) l vl ∧ OwnB w x.2.2 3 bw1 (.cells [.int .u64 ka, .int .u64 kb].toArray 29) ∧ OwnL w x.2.2 4 5 x.2.1 ((l.take x.1).flatMap fun x => lenB x.l)) (e := fun x => [(1, vl), (2, .pointer (some ⟨bw1, 0, none⟩)), (5, x.2.1), (6, .int .i64 x.1)]) (m := fun x => l.length - x.1) (x₀ := (0, .slice none 0 0, Cw1)) (sr 1 (sr 2 (sr 5 (sr 6 (sub_nil _))))) ?_ ?_
 · exact ⟨Nat.zero_le _, by simp, hF, hT, hl, hk, OwnL.nil⟩
 intro ⟨k, vo, C1⟩ w2 hI next
 obtain ⟨hk0, hol, hF, hT, hl, hk, ho⟩ := hI
 try simp only at hk0 hol hF hT hl hk ho
 have next1 := next
 clear next
 show Run _ _ _ _ [(1, vl), (2, .pointer (some ⟨bw1, 0, none⟩)), (5, vo), (6, .int .i64 k)] _ _
 have hle := hl.le
 refine run_sq ?_
 refine run_sq ?_
 refine run_pl [yy 0, yy 1, yy 2, yy 3] ?_
 refine yM 8 6 ?_
 refine yM 9 1 ?_
 refine yS (kq 10 (.call { callee := .builtin .len, args := #[(.tmp 9)], argTypes := #[84] })) rfl rfl (fun w' hS => hl.lenV rfl Tryz.underlying84 w' ) ?_
 refine yV (kq 11 (.binOp .lss 3 (.tmp 8) (.tmp 10) 3)) (fun _ => val_lss rfl rfl) ?_
 refine Sch.nil ?_
 refine run_i 11 rfl (fun h11 => ?_) (fun h11 => ?_)
 ·
  have hkl : k < l.length := by omega
  have hx := hs0 _ (List.getElem_mem hkl)
  refine run_sk ?_
  refine run_sq ?_
  refine run_bk 1 ?_
  refine run_sq ?_
  refine run_pl [yy 0, yy 1, yy 2, nn 3, yy 4] ?_
  refine yM 14 1 ?_
  refine yM 15 6 ?_
  refine iS (e := 9) (kq 16 (.indexAddr 84 (.tmp 14) (.tmp 15))) rfl rfl hl rfl (by kernel_rfl) rfl (by omega) (by omega) ?_
  intro b16 o16 h16
  try simp only [Int.toNat_natCast] at h16
  refine lN (kq 17 (.load 9 (.tmp 16))) rfl rfl trivial h16 (by kernel_rfl) rfl rfl ?_
  intro v17 g17
  obtain ⟨rfl, hb17⟩ := rv_tx.1 g17
  refine yA 7 17 ?_
  refine Sch.nil ?_
  refine run_sq ?_
  refine run_sq ?_
  refine run_pl [yy 0, yy 1, yy 2] ?_
  refine yM 18 7 ?_
  refine yV (kq 19 (.call { callee := .builtin .len, args := #[(.tmp 18)], argTypes := #[9] })) (fun _ => val_lenT rfl Tryz.underlying9) ?_
  refine yV (kq 20 (.binOp .gtr 3 (.tmp 19) (.const (.int .i64 65535)) 3)) (fun _ => val_gtr rfl rfl) ?_
  refine Sch.nil ?_
  refine run_i 20 rfl (fun h20 => ?_) (fun h20 => ?_)
  ·
   exfalso; omega
  ·
   refine run_sk ?_
   refine run_sq ?_
   refine run_pl [yy 0, yy 1, yy 2, yy 3, yy 4, yy 5, yy 6, yy 7, nn 8, nn 9, yy 10] ?_
   refine yM 23 5 ?_
   refine yM 24 7 ?_
   refine yV (kq 25 (.call { callee := .builtin .len, args := #[(.tmp 24)], argTypes := #[9] })) (fun _ => val_lenT rfl Tryz.underlying9) ?_
   refine yV (kq 26 (.binOp .shr 3 (.tmp 25) (.const (.int .u64 8)) 58)) (fun _ => val_shr rfl rfl (by omega)) ?_
   refine yV (kq 27 (.convert 3 5 (.tmp 26))) (fun _ => val_conv_int rfl ⟨_, Tryz.underlying3⟩ Tryz.underlying5) ?_
   refine yM 28 7 ?_
   refine yV (kq 29 (.call { callee := .builtin .len, args := #[(.tmp 28)], argTypes := #[9] })) (fun _ => val_lenT rfl Tryz.underlying9) ?_
   refine yV (kq 30 (.convert 3 5 (.tmp 29))) (fun _ => val_conv_int rfl ⟨_, Tryz.underlying3⟩ Tryz.underlying5) ?_
   refine aS (kq 31 (.buildSlice 85 2 #[(0, (.tmp 27)), (1, (.tmp 30))])) rfl rfl (a_buildSlice (ys := ([⟨IntKind.u8.wrap (((l[k]'hkl).l.length : Int).fdiv (2 ^ min (8 : Int).toNat IntKind.i64.bits))⟩, ⟨IntKind.u8.wrap ((l[k]'hkl).l.length : Int)⟩] : List U8)) (e := 5) (bytes := 1) hF (by kernel_rfl) rfl (by decide) (by decide) ⟨rfl, ⟨_, rfl, rv_num.2 rfl⟩, rfl, ⟨_, rfl, rv_num.2 rfl⟩, trivial⟩) ?_
   rintro v31 w3 ⟨hs, g31, hF⟩
   refine ⟨trivial, ?_⟩
   replace hT := hT.t hs; replace hl := hl.t hs; replace hk := hk.t hs; replace ho := ho.t hs; replace h16 := h16.t hs
   refine aS (kq 32 (.call { callee := .builtin .append, args := #[(.tmp 23), (.tmp 31)], argTypes := #[85, 85] })) rfl rfl (a_append (e := 5) (bytes := 1) hF (by decide) rfl rfl (by kernel_rfl) (by decide) ho g31 (by simp only [List.length_cons, List.length_nil]; omega) (by simp only [List.length_cons, List.length_nil]; omega)) ?_
   rintro v32 w4 ⟨Cw4, hs, ho, hF⟩
   refine ⟨trivial, ?_⟩
   replace hT := hT.t hs; replace hl := hl.t hs; replace hk := hk.t hs; replace h16 := h16.t hs; replace g31 := g31.t hs
   refine yA 5 32 ?_
   refine Sch.nil ?_
   refine run_pl [yy 0, yy 1, nn 2, yy 3] ?_
   refine yM 33 5 ?_
   refine yM 34 7 ?_
   refine aS (kq 35 (.call { callee := .builtin .append, args := #[(.tmp 33), (.tmp 34)], argTypes := #[85, 9] })) rfl rfl (a_appendT (s := (l[k]'hkl).l) hF (by decide) rfl rfl (by kernel_rfl) Tryz.underlying9 ho (by simp only [List.length_append, List.length_cons, List.length_nil]; omega)) ?_
   rintro v35 w5 ⟨Cw5, hs, ho, hF⟩
   refine ⟨trivial, ?_⟩
   replace hT := hT.t hs; replace hl := hl.t hs; replace hk := hk.t hs; replace h16 := h16.t hs; replace g31 := g31.t hs
   refine yA 5 35 ?_
   refine Sch.nil ?_
   refine run_inBlock ?_
   refine run_pl [yy 0, yy 1, yy 2] ?_
   refine yM 12 6 ?_
   refine yV (kq 13 (.binOp .add 3 (.tmp 12) (.const (.int .i64 1)) 3)) (fun _ => val_addi rfl rfl (by omega) (by omega)) ?_
   refine yA 6 13 ?_
   refine Sch.nil ?_
   refine kp (sub_cons 1 rfl rfl (sub_cons 2 rfl rfl (sub_cons 5 rfl rfl (sub_cons 6 rfl (eq_int (by simp)) (sub_nil _))))) (next1 (k + 1, v35, Cw5) _ ⟨(by first | omega | (simp only; omega)), (by rw [lenB_next hkl]; simp only [List.length_append]; rw [lenB_len]; omega), hF, hT, hl, hk, (by rw [lenB_next hkl]; rw [List.append_assoc] at ho; exact ho)⟩ (by first | omega | (simp only; omega)))
 ·
  have hkl : k = l.length := by omega
  subst hkl
  rw [List.take_length] at ho hol
  refine run_ex 0 ?_
  refine run_sq ?_
  refine run_pl [nn 0, yy 1, nn 2, yy 3] ?_
  replace hF := hF.frz 4
  replace hT := hT.frz (n := 4) (fun b => Nat.lt_of_lt_of_le (col1_lt2 C b) (by decide))
  replace hl := hl.frz 4
  replace hk := hk.frz (n := 4) (by decide)
  have ho_ := ho.frz (n := 4) (by decide) (by omega)
  replace ho := ho_
  clear ho_
  refine nS (kq 36 (.load 29 (.tmp 2))) rfl rfl trivial (val_loadOwnAgg (n := 2) (vs := [.int .u64 ka, .int .u64 kb]) hk.at_ (by kernel_rfl) (by kernel_rfl) rfl rfl rfl) ?_
  refine yM 37 5 ?_
  refine cS (kq 38 (.call { callee := .value (.func 43), args := #[(.tmp 36), (.tmp 37)], argTypes := #[29, 85] })) rfl rfl (ent Tryz.call43 rfl) (refsum_ok hF ho) ?_
  rintro vw6 w6 ⟨rfl, hs⟩
  refine ⟨trivial, ?_⟩
  replace hF := hF.st hs
  replace hT := hT.t hs; replace hl := hl.t hs; replace hk := hk.t hs; replace ho := ho.t hs
  refine yA 4 38 ?_
  refine Sch.nil ?_
  refine run_ret1 (by kernel_rfl) Tryz.func23 Tryz.results23 rfl ?_
  exact ⟨by rw [partsW, List.flatMap_map], hT.out1 (by decide)⟩
end Go.Proofs.YtfkggfmibpigpaaGreatDoor
