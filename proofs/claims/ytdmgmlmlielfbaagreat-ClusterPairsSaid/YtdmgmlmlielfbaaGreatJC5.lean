/- Steps through functions of the program. -/
import Derived.Test.YtdmgmlmlielfbaaGreatJC4
set_option linter.unusedVariables false
set_option linter.unusedSimpArgs false
set_option maxRecDepth 100000
set_option maxHeartbeats 4000000
namespace Go.Proofs.YtdmgmlmlielfbaaGreat
open Go.K Go.K.Rep
noncomputable section
namespace F101
def c0 := bodyOf Tryz.f101
def c6 := (cl (cl (cl (cl (cr c0)))))
def o1 := rops (cl c6)
def c11 := (cr (cl (cl (cl (cr c0)))))
def o2 := rops (cl (cl c11))
end F101
theorem root_ok {w₀ : World} {C : Nat → Nat} {i b : Nat} {u₀ : List (Couple × Couple)} {ρ : Couple → Couple} {d : Couple → Nat} {r : Couple} (hF : Lim w₀ C) (hi : i ≠ 0) (hm : OwnM w₀ C i b kvC kvC u₀) (hf : Frst u₀ ρ d) (hr : ∃ v, mget u₀ r = some v) :
    Calls Tryz.prog 101 #[.map (some b), .agg #[.int .i64 r.a, .int .i64 r.b]] w₀ (Ret fun v w' => v = .agg (encR (ρ r)).toArray ∧ Stp [i] w₀ C w' C ∧ ∃ u, OwnM w' C i b kvC kvC u ∧ Frst u ρ d ∧ mget u (ρ r) = some (ρ r) ∧ (∀ s, (∃ v, mget u₀ s = some v) → ∃ v, mget u s = some v) ∧ ∀ s, mget u₀ s = some s → mget u s = some s) := by
 have hF0 := hF
 have hbc := hm.1
 replace hm := hm.col2 hi
 have hT := Stp.refl [2, 3, 4, 5, 6, 7, 8, 9] w₀ (col2 C i)
 replace hF := hF.col2 i
 refine c_st F101.c0 21 [.map (some b), .agg #[.int .i64 r.a, .int .i64 r.b]] Tryz.func101 ?_
 show Run _ _ _ _ [(0, .map (some b)), (1, .agg #[.int .i64 r.a, .int .i64 r.b])] _ _
 refine run_sq (run_pl [nn 0, nn 1] ?_)
 refine aT (kq 3 (.box 47 (.tmp 1))) rfl rfl (a_box (cs := encR r) hF 3 rfl rfl) ?_
 rintro _ w1 ⟨Cw1, bw1, rfl, s_1, hx, hF⟩
 refine aT (kq 4 (.alloc 47)) rfl rfl (a_alloc (cs := [.int .i64 0, .int .i64 0]) hF 4 (by kernel_rfl)) ?_
 rintro _ w2 ⟨Cw2, bw2, rfl, s_2, hy, hF⟩
 refine Sch.nil (run_sq (run_bk 0 ?_))
 refine run_lp (ι := Couple × (List (Couple × Couple)) × (Nat → Nat)) (I := fun x w => Frst x.2.1 ρ d ∧ (∃ v, mget x.2.1 x.1 = some v) ∧ ρ x.1 = ρ r ∧ (∀ s, (∃ v, mget u₀ s = some v) → ∃ v, mget x.2.1 s = some v) ∧ (∀ s, mget u₀ s = some s → mget x.2.1 s = some s) ∧ Lim w x.2.2 ∧ Stp [2, 3, 4, 5, 6, 7, 8, 9] w₀ (col2 C i) w x.2.2 ∧ OwnB w x.2.2 3 bw1 (.cells (encR x.1).toArray 47) ∧ OwnB w x.2.2 4 bw2 (.cells [.int .i64 0, .int .i64 0].toArray 47) ∧ OwnM w x.2.2 2 b kvC kvC x.2.1) (e := fun x => [(0, .map (some b)), (3, .pointer (some ⟨bw1, 0, none⟩)), (4, .pointer (some ⟨bw2, 0, none⟩))]) (m := fun x => d x.1) (x₀ := (r, u₀, Cw2)) (sr 0 (sr 3 (sr 4 (sub_nil _)))) ?_ ?_
 ·
   replace hT := (hT.t s_1).t s_2; replace hm := (hm.t s_1).t s_2; replace hx := hx.t s_2
   exact ⟨hf, hr, rfl, fun s h => h, fun s h => h, hF, hT, hx, hy, hm⟩
 intro ⟨c, u, C1⟩ w3 hI next1
 obtain ⟨hf, hc, hρ, hdom, hfx, hF, hT, hx, hy, hm⟩ := hI
 try simp only at hf hc hρ hdom hfx hF hT hx hy hm
 show Run _ _ _ _ [(0, .map (some b)), (3, .pointer (some ⟨bw1, 0, none⟩)), (4, .pointer (some ⟨bw2, 0, none⟩))] _ _
 obtain ⟨v, hv⟩ := hc
 obtain ⟨⟨v2, hv2⟩, hρv, hdv, hsf⟩ := hf c v hv
 refine run_sq (run_sq ?_)
 refine run_draw (id := 1) (ops := F101.o1) [] (C1) [yy 0, yy 1, yy 2, yy 3, yy 4] Tryz_mixed (by kernel_rfl) (by kernel_rfl) (by kernel_rfl) ?_
 intro w4 s_3
 refine yM 5 0 ?_
 replace hx := hx.t s_3
 refine yS (kq 6 (.load 47 (.tmp 3))) rfl rfl (fun w' hS => val_loadOwnAgg (n := 2) (vs := encR c) (hx.stay hS (by decide)) (by kernel_rfl) (by kernel_rfl) rfl rfl rfl) ?_
 replace hm := hm.t s_3
 refine yS (kq 7 (.lookup 139 (.tmp 5) (.tmp 6) false)) rfl rfl (fun w' hS => val_is ((hm.stay hS (by decide)).lookup (z0 := (⟨0, 0⟩ : Couple)) Tryz.underlying139 (keyOK_couple Tryz.underlying47 (by decide) (by decide) (by kernel_rfl) Tryz.underlying3) Tryz.zeroValue47 rfl rfl) (show _ = kvC v from by rw [hv]; rfl)) ?_
 refine yS (kq 8 (.load 47 (.tmp 3))) rfl rfl (fun w' hS => val_loadOwnAgg (n := 2) (vs := encR c) (hx.stay hS (by decide)) (by kernel_rfl) (by kernel_rfl) rfl rfl rfl) ?_
 refine yV (kq 9 (.binOp .neq 47 (.tmp 7) (.tmp 8) 47)) (fun _ => val_neC (a := v) (b := c) Tryz.underlying47 (by decide) (by decide) (by kernel_rfl) Tryz.underlying3 rfl rfl) ?_
 refine Sch.nil ?_
 refine run_i 9 rfl (fun h9 => ?_) (fun h9 => ?_)
 ·
  refine run_sk (run_bk 1 (run_sq ?_))
  refine run_draw (id := 2) (ops := F101.o2) [] (C1) [yy 0, yy 1, yy 2, yy 3, yy 4, yy 5, yy 6, nn 7] Tryz_mixed (by kernel_rfl) (by kernel_rfl) (by kernel_rfl) ?_
  intro w5 s_4
  have hR := Stp.refl [] w5 (C1)
  refine yM 10 0 ?_
  replace hx := hx.t s_4
  refine yS (kq 11 (.load 47 (.tmp 3))) rfl rfl (fun w' hS => val_loadOwnAgg (n := 2) (vs := encR c) (hx.stay hS (by decide)) (by kernel_rfl) (by kernel_rfl) rfl rfl rfl) ?_
  refine yM 12 0 ?_
  refine yM 13 0 ?_
  refine yS (kq 14 (.load 47 (.tmp 3))) rfl rfl (fun w' hS => val_loadOwnAgg (n := 2) (vs := encR c) (hx.stay hS (by decide)) (by kernel_rfl) (by kernel_rfl) rfl rfl rfl) ?_
  replace hm := hm.t s_4
  refine yS (kq 15 (.lookup 139 (.tmp 13) (.tmp 14) false)) rfl rfl (fun w' hS => val_is ((hm.stay hS (by decide)).lookup (z0 := (⟨0, 0⟩ : Couple)) Tryz.underlying139 (keyOK_couple Tryz.underlying47 (by decide) (by decide) (by kernel_rfl) Tryz.underlying3) Tryz.zeroValue47 rfl rfl) (show _ = kvC v from by rw [hv]; rfl)) ?_
  refine yS (kq 16 (.lookup 139 (.tmp 12) (.tmp 15) false)) rfl rfl (fun w' hS => val_is ((hm.stay hS (by decide)).lookup (z0 := (⟨0, 0⟩ : Couple)) Tryz.underlying139 (keyOK_couple Tryz.underlying47 (by decide) (by decide) (by kernel_rfl) Tryz.underlying3) Tryz.zeroValue47 rfl rfl) (show _ = kvC v2 from by rw [hv2]; rfl)) ?_
  refine Sch.free rfl ?_
  refine aU (k0 (.mapUpdate 139 (.tmp 10) (.tmp 11) (.tmp 16))) rfl (a_mapUpdate (k := c) (u := v2) hm Tryz.underlying139 (keyOK_couple Tryz.underlying47 (by decide) (by decide) (by kernel_rfl) Tryz.underlying3) rfl rfl rfl) ?_
  rintro _ w6 ⟨rfl, s_5, hm⟩
  refine Sch.nil (run_pl [yy 0, nn 1, nn 2, nn 3] ?_)
  refine yM 17 0 ?_
  replace hx := hx.t s_5
  refine nS (kq 18 (.load 47 (.tmp 3))) rfl rfl trivial (val_loadOwnAgg (n := 2) (vs := encR c) hx.at_ (by kernel_rfl) (by kernel_rfl) rfl rfl rfl) ?_
  refine nS (kq 19 (.lookup 139 (.tmp 17) (.tmp 18) false)) rfl rfl trivial (val_is (hm.lookup (z0 := (⟨0, 0⟩ : Couple)) Tryz.underlying139 (keyOK_couple Tryz.underlying47 (by decide) (by decide) (by kernel_rfl) Tryz.underlying3) Tryz.zeroValue47 rfl rfl) (show _ = kvC v2 from by rw [mget_mput, if_pos rfl]; rfl)) ?_
  refine aU (k0 (.store 47 (.tmp 3) (.tmp 19))) rfl (a_storeAll (vs := encR v2) (n := 2) rfl rfl (by kernel_rfl) rfl rfl (by intro u hu; simp only [encR, List.mem_cons, List.not_mem_nil, or_false] at hu; rcases hu with rfl | rfl <;> rfl) hx rfl) ?_
  rintro _ w7 ⟨rfl, s_6, hx⟩
  refine Sch.nil (run_inBlock ?_)
  replace hF := (((hF.st s_3).st s_4).st s_5).st s_6; replace hT := (((hT.t s_3).t s_4).t s_5).t s_6; replace hy := (((hy.t s_3).t s_4).t s_5).t s_6; replace hm := hm.t s_6
  refine kp (sub_cons 0 rfl rfl (sub_cons 3 rfl rfl (sub_cons 4 rfl rfl (sub_nil _)))) (next1 (v2, mput u c v2, C1) _ ⟨(hf.halve hv hv2 h9), (by
      obtain ⟨⟨v3, hv3⟩, _⟩ := hf v v2 hv2
      rw [mget_mput]; split
      · exact ⟨_, rfl⟩
      · exact ⟨v3, hv3⟩), ((hf v v2 hv2).2.1.trans (hρv.trans hρ)), (fun s s_6 => by
      obtain ⟨x, hx⟩ := hdom s s_6
      rw [mget_mput]; split
      · exact ⟨_, rfl⟩
      · exact ⟨x, hx⟩), (fun s s_6 => by
      rw [mget_mput, if_neg]
      · exact hfx s s_6
      · intro e; subst e; have := hfx _ s_6; rw [hv] at this; exact h9 (Option.some.inj this)), hF, hT, hx, hy, hm⟩ (by
      simp only
      have a1 := hdv h9
      by_cases e : v2 = v
      · rw [e]; exact a1
      · have := (hf v v2 hv2).2.2.1 e; omega))
 obtain rfl : v = c := Classical.not_not.1 h9
 have hfix : ρ r = v := by rw [← hρ]; exact hf.idem hv
 refine run_ex 0 ?_
 refine run_sq (run_pl [nn 0, nn 1] ?_)
 refine nS (kq 20 (.load 47 (.tmp 3))) rfl rfl trivial (val_loadOwnAgg (n := 2) (vs := encR v) hx.at_ (by kernel_rfl) (by kernel_rfl) rfl rfl rfl) ?_
 replace hy := hy.t s_3
 refine aU (k0 (.store 47 (.tmp 4) (.tmp 20))) rfl (a_storeAll (vs := encR v) (n := 2) rfl rfl (by kernel_rfl) rfl rfl (by intro u hu; simp only [encR, List.mem_cons, List.not_mem_nil, or_false] at hu; rcases hu with rfl | rfl <;> rfl) hy rfl) ?_
 rintro _ w8 ⟨rfl, s_7, hy⟩
 refine Sch.nil ?_
 refine run_retC1 (by kernel_rfl) Tryz.func101 Tryz.results101 rfl hy.at_ (by kernel_rfl) (by kernel_rfl) rfl ?_
 replace hT := (hT.t s_3).t s_7; replace hm := hm.t s_7
 exact ⟨by rw [hfix], hT.out2 (by decide), u, hm.outM hbc, hf, by rw [hfix]; exact hv, hdom, hfx⟩
namespace F100
def c0 := bodyOf Tryz.f100
def c24 := (cr (cl (cr (cr (cr c0)))))
def c33 := (cl (cr (cr (cl (cl c24)))))
def o10 := rops (cr (cl c33))
end F100
theorem grown_ok {w₀ : World} {C : Nat → Nat} {l : List Bond} {vl : Value} (hF : Lim w₀ C) (hl : RV w₀ (Mc C) l vl) (hlen : l.length ≤ 100000) (j : Nat) (hj : j ≠ 0) :
    Calls Tryz.prog 100 #[vl] w₀ (Ret fun v w' => ∃ C' b u d, v = .map (some b) ∧ Stp [] w₀ C w' C' ∧ Lim w' C' ∧ OwnM w' C' j b kvC kvC u ∧ Frst u (rhoS l) d ∧ Dom u (refsS l)) := by
 have hF0 := hF
 have hT := Stp.refl [2, 3, 4, 5, 6, 7, 8, 9] w₀ (col1 C)
 replace hF := hF.col1
 replace hl := hl.c1
 refine c_st F100.c0 37 [vl] Tryz.func100 ?_
 show Run _ _ _ _ [(0, vl)] _ _
 refine run_sq (run_pl [yy 0] ?_)
 refine yV (kq 2 (.assign (.const (.map none)))) (fun _ => val_assign rfl) ?_
 refine Sch.nil (run_sq (run_pl [nn 0, yy 1] ?_))
 refine aT (kq 8 (.makeMap 139 none)) rfl rfl (a_makeMap hF 3 kvC kvC) ?_
 rintro _ wm ⟨Cm, bm, rfl, s_1, hm, hF⟩
 refine yA 3 8 ?_
 refine Sch.nil (run_sq (run_sq (run_pl [yy 0, nn 1, yy 2, yy 3] ?_)))
 refine yM 9 0 ?_
 replace hl := hl.t s_1
 refine cG 10 72 [9] [23] Tryz.call72 rfl (refs_ok hF hl hlen) ?_
 rintro vR w1 ⟨s_2, hrs⟩
 refine yS (kq 11 (.call { callee := .builtin .len, args := #[(.tmp 10)], argTypes := #[53] })) rfl rfl (fun w' hS => hrs.lenV rfl Tryz.underlying53 w' ) ?_
 refine yC 12 (.int .i64 0) ?_
 refine Sch.nil (run_bk 0 ?_)
 refine run_lp (ι := Nat × (List (Couple × Couple)) × (Nat → Nat)) (I := fun x w => x.1 ≤ (refsS l).length ∧ Frst x.2.1 id (fun _ => 0) ∧ Dom x.2.1 ((refsS l).take x.1) ∧ Lim w x.2.2 ∧ Stp [2, 3, 4, 5, 6, 7, 8, 9] w₀ (col1 C) w x.2.2 ∧ RV w (Mc x.2.2) l vl ∧ RV w (Mc x.2.2) (refsS l) vR ∧ OwnM w x.2.2 3 bm kvC kvC x.2.1) (e := fun x => [(0, vl), (3, .map (some bm)), (10, vR), (11, .int .i64 (refsS l).length), (12, .int .i64 x.1)]) (m := fun x => (refsS l).length - x.1) (x₀ := (0, [], Cm)) (sr 0 (sr 3 (sr 10 (sr 11 (sr 12 (sub_nil _)))))) ?_ ?_
 ·
   replace hT := (hT.t s_1).t s_2; replace hF := hF.st s_2; replace hl := hl.t s_2; replace hm := hm.t s_2
   exact ⟨Nat.zero_le _, fun r v h => by simp [mget] at h, fun r hr => by simp at hr, hF, hT, hl, hrs, hm⟩
 intro ⟨k, u, C1⟩ w2 hI next1
 obtain ⟨hk, hf, hdom, hF, hT, hl, hrs, hm⟩ := hI
 try simp only at hk hf hdom hF hT hl hrs hm
 show Run _ _ _ _ [(0, vl), (3, .map (some bm)), (10, vR), (11, .int .i64 (refsS l).length), (12, .int .i64 k)] _ _
 have hrl := hrs.le
 refine run_sq (run_pl [yy 0] ?_)
 refine yL 13 3 12 11 ?_
 refine Sch.nil (run_sq ?_)
 refine run_i 13 rfl (fun h13 => ?_) (fun h13 => ?_)
 ·
  have hkl : k < (refsS l).length := by omega
  refine run_sk (run_sq (run_bk 1 (run_sq (run_pl [yy 0, nn 1, nn 2, nn 3] ?_))))
  refine iR 47 14 53 10 12 hrs rfl (h := ?_)
  intro b14 o14 h14
  try simp only [Int.toNat_natCast] at h14
  refine lNA (kq 15 (.load 47 (.tmp 14))) rfl rfl trivial h14 (by kernel_rfl) (by kernel_rfl) rfl rfl ?_
  intro v15 g15
  obtain rfl := rv_couple.1 g15
  refine aT (kq 5 (.alloc 47)) rfl rfl (a_alloc (cs := [.int .i64 0, .int .i64 0]) hF 4 (by kernel_rfl)) ?_
  rintro _ w3 ⟨Cw3, bw3, rfl, s_3, hx, hF⟩
  refine aU (k0 (.store 47 (.tmp 5) (.tmp 15))) rfl (a_storeAll (vs := encR ((refsS l)[k]'hkl)) (n := 2) rfl rfl (by kernel_rfl) rfl rfl (by intro u hu; simp only [encR, List.mem_cons, List.not_mem_nil, or_false] at hu; rcases hu with rfl | rfl <;> rfl) hx rfl) ?_
  rintro _ w4 ⟨rfl, s_4, hx⟩
  refine Sch.nil (run_pl [yy 0, nn 1, nn 2, nn 3] ?_)
  refine yM 16 3 ?_
  refine nS (kq 17 (.load 47 (.tmp 5))) rfl rfl trivial (val_loadOwnAgg (n := 2) (vs := encR ((refsS l)[k]'hkl)) hx.at_ (by kernel_rfl) (by kernel_rfl) rfl rfl rfl) ?_
  refine nS (kq 18 (.load 47 (.tmp 5))) rfl rfl trivial (val_loadOwnAgg (n := 2) (vs := encR ((refsS l)[k]'hkl)) hx.at_ (by kernel_rfl) (by kernel_rfl) rfl rfl rfl) ?_
  replace hm := (hm.t s_3).t s_4
  refine aU (k0 (.mapUpdate 139 (.tmp 16) (.tmp 17) (.tmp 18))) rfl (a_mapUpdate (k := (refsS l)[k]'hkl) (u := (refsS l)[k]'hkl) hm Tryz.underlying139 (keyOK_couple Tryz.underlying47 (by decide) (by decide) (by kernel_rfl) Tryz.underlying3) rfl rfl rfl) ?_
  rintro _ w5 ⟨rfl, s_5, hm⟩
  refine Sch.nil (run_inBlock (run_pl [yy 0, yy 1] ?_))
  refine yI 19 3 12 1 ?_
  refine yM 12 19 ?_
  refine Sch.nil ?_
  replace hT := ((hT.t s_3).t s_4).t s_5; replace hl := ((hl.t s_3).t s_4).t s_5; replace hrs := ((hrs.t s_3).t s_4).t s_5; replace hF := (hF.st s_4).st s_5
  refine kp (sr 0 (sr 3 (sr 10 (sr 11 (sub_cons 12 rfl (eq_int (by simp)) (sub_nil _)))))) (next1 (k + 1, mput u ((refsS l)[k]'hkl) ((refsS l)[k]'hkl), Cw3) _ ⟨(by first | omega | (simp only; omega)), (hf.self _), (by simp only; rw [List.take_succ_eq_append_getElem hkl]; exact hdom.putIn _ _), hF, hT, hl, hrs, hm⟩ (by first | omega | (simp only; omega)))
 have hkl : k = (refsS l).length := by omega
 subst hkl
 rw [List.take_length] at hdom
 refine run_ex 0 ?_
 refine run_sq (run_sq (run_pl [yy 0, yy 1, yy 2] ?_))
 refine yM 20 0 ?_
 refine yS (kq 21 (.call { callee := .builtin .len, args := #[(.tmp 20)], argTypes := #[23] })) rfl rfl (fun w' hS => hl.lenV rfl Tryz.underlying23 w' ) ?_
 refine yC 22 (.int .i64 0) ?_
 refine Sch.nil (run_bk 2 ?_)
 refine run_lp (ι := Nat × (List (Couple × Couple)) × (Nat → Nat)) (I := fun x w => x.1 ≤ l.length ∧ (∃ d, Frst x.2.1 (rhoS (l.take x.1)) d) ∧ Dom x.2.1 (refsS l) ∧ Lim w x.2.2 ∧ Stp [2, 3, 4, 5, 6, 7, 8, 9] w₀ (col1 C) w x.2.2 ∧ RV w (Mc x.2.2) l vl ∧ OwnM w x.2.2 3 bm kvC kvC x.2.1) (e := fun x => [(3, .map (some bm)), (20, vl), (21, .int .i64 l.length), (22, .int .i64 x.1)]) (m := fun x => l.length - x.1) (x₀ := (0, u, C1)) (sr 3 (sr 20 (sr 21 (sr 22 (sub_nil _))))) ?_ ?_
 · exact ⟨Nat.zero_le _, ⟨_, hf⟩, hdom, hF, hT, hl, hm⟩
 intro ⟨k, u, C1⟩ w6 hI next2
 obtain ⟨hk, hf, hdom, hF, hT, hl, hm⟩ := hI
 try simp only at hk hf hdom hF hT hl hm
 show Run _ _ _ _ [(3, .map (some bm)), (20, vl), (21, .int .i64 l.length), (22, .int .i64 k)] _ _
 have hll := hl.le
 obtain ⟨dd, hf⟩ := hf
 refine run_sq (run_pl [yy 0] ?_)
 refine yL 23 3 22 21 ?_
 refine Sch.nil (run_sq ?_)
 refine run_i 23 rfl (fun h23 => ?_) (fun h23 => ?_)
 ·
  have hkl : k < l.length := by omega
  have hinA := hdom (l[k]).A (mem_refsS.2 ⟨_, List.getElem_mem hkl, .inl rfl⟩)
  have hinB := hdom (l[k]).B (mem_refsS.2 ⟨_, List.getElem_mem hkl, .inr rfl⟩)
  refine run_sk (run_sq (run_bk 3 (run_sq (run_pl [yy 0, nn 1, nn 2, nn 3] ?_))))
  refine iR 49 24 23 20 22 hl rfl (h := ?_)
  intro b24 o24 h24
  try simp only [Int.toNat_natCast] at h24
  refine lNA (kq 25 (.load 49 (.tmp 24))) rfl rfl trivial h24 (by kernel_rfl) (by kernel_rfl) rfl rfl ?_
  intro v25 g25
  obtain rfl := rv_bond.1 g25
  refine aT (kq 7 (.alloc 49)) rfl rfl (a_alloc (cs := [.int .i64 0, .int .i64 0, .int .i64 0, .int .i64 0, .int .i64 0]) hF 4 (by kernel_rfl)) ?_
  rintro _ w7 ⟨Cw7, bw7, rfl, s_6, hy, hF⟩
  refine aU (k0 (.store 49 (.tmp 7) (.tmp 25))) rfl (a_storeAll (vs := encB (l[k]'hkl)) (n := 5) rfl rfl (by kernel_rfl) rfl rfl (by intro u hu; simp only [encB, List.mem_cons, List.not_mem_nil, or_false] at hu; rcases hu with rfl | rfl | rfl | rfl | rfl <;> rfl) hy rfl) ?_
  rintro _ w8 ⟨rfl, s_7, hy⟩
  refine Sch.nil ?_
  refine run_draw (id := 10) (ops := F100.o10) [3] (Cw7) [yy 0, yy 1, yy 2, yy 3, yy 5, yy 6, yy 7, nn 4, nn 8, nn 9] Tryz_mixed (by kernel_rfl) (by kernel_rfl) (by kernel_rfl) ?_
  intro w9 s_8
  have hR := Stp.refl [3] w9 (Cw7)
  refine yM 26 3 ?_
  refine yM 27 3 ?_
  refine yF 28 49 7 0 0 ?_
  replace hy := hy.t s_8
  refine yS (kq 29 (.load 47 (.tmp 28))) rfl rfl (fun w' hS => val_loadOwnAgg (n := 2) (vs := encR (l[k]'hkl).A) (hy.stay hS (by decide)) (by kernel_rfl) (by kernel_rfl) rfl rfl rfl) ?_
  refine yM 31 3 ?_
  refine yF 32 49 7 1 2 ?_
  refine yS (kq 33 (.load 47 (.tmp 32))) rfl rfl (fun w' hS => val_loadOwnAgg (n := 2) (vs := encR (l[k]'hkl).B) (hy.stay hS (by decide)) (by kernel_rfl) (by kernel_rfl) rfl rfl rfl) ?_
  replace hm := ((hm.t s_6).t s_7).t s_8; replace hF := (hF.st s_7).st s_8
  refine cF 30 101 [27, 29] [139, 47] Tryz.call101 rfl (root_ok (r := (l[k]'hkl).A) hF (by decide) hm hf hinA) ?_
  rintro vw10 w10 ⟨rfl, s_9, ua, hm, hf, hra, hda, _⟩
  refine ⟨(hR.trans s_9 (by simp)).ext, ?_⟩
  replace hF := hF.st s_9
  refine cF 34 101 [31, 33] [139, 47] Tryz.call101 rfl (root_ok (r := (l[k]'hkl).B) hF (by decide) hm hf (hda _ hinB)) ?_
  rintro vw11 w11 ⟨rfl, s_10, ub, hm, hf, hrb, hdb, hxb⟩
  replace hR := hR.t s_9
  refine ⟨(hR.trans s_10 (by simp)).ext, ?_⟩
  refine Sch.free rfl ?_
  have hra2 := hxb _ hra
  refine aU (k0 (.mapUpdate 139 (.tmp 26) (.tmp 30) (.tmp 34))) rfl (a_mapUpdate (k := rhoS (l.take k) (l[k]'hkl).A) (u := rhoS (l.take k) (l[k]'hkl).B) hm Tryz.underlying139 (keyOK_couple Tryz.underlying47 (by decide) (by decide) (by kernel_rfl) Tryz.underlying3) rfl rfl rfl) ?_
  rintro _ w12 ⟨rfl, s_11, hm⟩
  refine Sch.nil (run_inBlock (run_pl [yy 0, yy 1] ?_))
  refine yI 35 3 22 1 ?_
  refine yM 22 35 ?_
  refine Sch.nil ?_
  replace hT := (((((hT.t s_6).t s_7).t s_8).t s_9).t s_10).t s_11; replace hl := (((((hl.t s_6).t s_7).t s_8).t s_9).t s_10).t s_11; replace hF := (hF.st s_10).st s_11
  refine kp (sr 3 (sr 20 (sr 21 (sub_cons 22 rfl (eq_int (by simp)) (sub_nil _))))) (next2 (k + 1, mput ub (rhoS (l.take k) (l[k]'hkl).A) (rhoS (l.take k) (l[k]'hkl).B), Cw7) _ ⟨(by first | omega | (simp only; omega)), (by simp only; rw [List.take_succ_eq_append_getElem hkl, rhoS_snoc]; exact hf.join hra2 hrb), (Dom.put (fun s s_11 => hdb _ (hda _ (hdom s s_11))) _ _), hF, hT, hl, hm⟩ (by first | omega | (simp only; omega)))
 have hkl : k = l.length := by omega
 subst hkl
 rw [List.take_length] at hf
 refine run_ex 2 ?_
 refine run_sq (run_pl [yy 0, yy 1] ?_)
 refine yM 36 3 ?_
 refine yA 2 36 ?_
 refine Sch.nil ?_
 refine rt1 Tryz.func100 Tryz.results100 ?_
 obtain ⟨Cg, hcg, hmg, hFg⟩ := hm.give hT hF0 (fun b _ => col1_lt C (by decide) b) j
 exact ⟨Cg, bm, u, dd, rfl, (hT.out1 (by decide)).give hcg, hFg, hmg, hf, hdom⟩
end
end Go.Proofs.YtdmgmlmlielfbaaGreat
