/- Steps through functions of the program. -/
import Derived.Test.YtionghonhnedgaaGreatJVN
set_option linter.unusedVariables false
set_option linter.unusedSimpArgs false
set_option maxRecDepth 100000
set_option maxHeartbeats 4000000
namespace Go.Proofs.YtionghonhnedgaaGreat
open Go.K Go.K.Rep

namespace F75
noncomputable def c0 := bodyOf Tryz.f75
end F75
theorem pick_any {w₀ : World} {C : Nat → Nat} {i b : Nat} {l : List ByteArray} {vl : Value} (hF : Lim w₀ C) (hi : i ≠ 0) (hd : DeckIs w₀ C i b) (hl : RV w₀ (Mc C) l vl) (hne : 0 < l.length) : Calls Tryz.prog 75 #[.pointer (some ⟨b, 0, none⟩), vl] w₀ (Ret fun v w' => ∃ s : ByteArray, v = .string s ∧ s ∈ l ∧ Stp [i] w₀ C w' C ∧ DeckIs w' C i b) := by
 have hF0 := hF
 have hbc := hd.colour
 replace hd := hd.col2 hi
 have hT := Stp.refl [2, 3, 4, 5, 6, 7, 8, 9] w₀ (col2 C i)
 replace hF := hF.col2 i
 replace hl : RV w₀ (Mc (col2 C i)) l vl := by rw [Mc_col2]; exact hl
 have hle := hl.le
 refine calls_start (c := F75.c0) (N := 12) [.pointer (some ⟨b, 0, none⟩), vl] Tryz.func75 (by kernel_rfl) (by kernel_rfl) (by kernel_rfl) ?_
 show Run _ _ _ _ [(0, .pointer (some ⟨b, 0, none⟩)), (1, vl)] _ _
 refine run_sq ?_
 refine run_pl [yy 0] ?_
 refine yV (kq 4 (.assign (.const (.string ⟨#[]⟩)))) (fun _ => val_assign rfl) ?_
 refine Sch.nil ?_
 refine run_sq ?_
 refine run_pl [yy 0, yy 1, yy 2, yy 3, nn 4, yy 5, nn 6, yy 7] ?_
 refine yM 5 1 ?_
 refine yM 6 0 ?_
 refine yM 7 1 ?_
 refine yS (kq 8 (.call { callee := .builtin .len, args := #[(.tmp 7)], argTypes := #[35] })) rfl rfl (fun w' hS => hl.lenV rfl Tryz.underlying35 w' ) ?_
 refine cS (kq 9 (.call { callee := .value (.func 11), args := #[(.tmp 6), (.tmp 8)], argTypes := #[40, 3] })) rfl rfl (ent Tryz.call11 rfl) (next_any hF (by decide) hd (by omega) (by omega)) ?_
 rintro vw1 w1 ⟨k, rfl, hk, hs, hd⟩
 refine ⟨trivial, ?_⟩
 replace hF := hF.st hs
 replace hT := hT.t hs; replace hl := hl.t hs
 have hkl : k < l.length := by omega
 refine iS (e := 9) (kq 10 (.indexAddr 35 (.tmp 5) (.tmp 9))) rfl rfl hl rfl (by kernel_rfl) rfl (by omega) (by omega) ?_
 intro b10 o10 h10
 try simp only [Int.toNat_natCast] at h10
 refine lN (kq 11 (.load 9 (.tmp 10))) rfl rfl trivial h10 (by kernel_rfl) rfl rfl ?_
 intro v11 g11
 obtain ⟨rfl, _⟩ := rv_str.1 g11
 refine yA 4 11 ?_
 refine Sch.nil ?_
 refine run_ret1 (by kernel_rfl) Tryz.func75 Tryz.results75 rfl ?_
 exact ⟨_, rfl, List.getElem_mem hkl, hT.out2 (by decide), hd.out hT hF0 hbc⟩
def valsP : List ByteArray := [⟨#[]⟩, ⟨#[97, 110, 110, 97]⟩, ⟨#[98, 111, 98, 32, 115, 109, 105, 116, 104]⟩, ⟨#[50, 48, 48, 48, 48, 50, 48, 51]⟩, ⟨#[56, 48, 48, 49]⟩, ⟨#[120]⟩]
theorem valsP_len : ∀ s ∈ valsP, s.size ≤ 9 := by unfold valsP; intro s hs; simp only [List.mem_cons, List.not_mem_nil, or_false] at hs; rcases hs with rfl | rfl | rfl | rfl | rfl | rfl <;> decide
namespace F38
noncomputable def c0 := bodyOf Tryz.f38
end F38
theorem value_any {w₀ : World} {C : Nat → Nat} {i b : Nat} (hF : Lim w₀ C) (hi : i ≠ 0) (hd : DeckIs w₀ C i b) : Calls Tryz.prog 38 #[.pointer (some ⟨b, 0, none⟩)] w₀ (Ret fun v w' => ∃ s : ByteArray, v = .string s ∧ s.size ≤ 9 ∧ Stp [i] w₀ C w' C ∧ DeckIs w' C i b) := by
 have hF0 := hF
 have hbc := hd.colour
 replace hd := hd.col2 hi
 have hT := Stp.refl [2, 3, 4, 5, 6, 7, 8, 9] w₀ (col2 C i)
 replace hF := hF.col2 i
 refine calls_start (c := F38.c0) (N := 6) [.pointer (some ⟨b, 0, none⟩)] Tryz.func38 (by kernel_rfl) (by kernel_rfl) (by kernel_rfl) ?_
 show Run _ _ _ _ [(0, .pointer (some ⟨b, 0, none⟩))] _ _
 refine run_sq ?_
 refine run_pl [yy 0] ?_
 refine yV (kq 2 (.assign (.const (.string ⟨#[]⟩)))) (fun _ => val_assign rfl) ?_
 refine Sch.nil ?_
 refine run_sq ?_
 refine run_pl [yy 0, nn 1, nn 2, yy 3] ?_
 refine yM 3 0 ?_
 refine aS (kq 4 (.buildSlice 35 6 #[(0, (.const (.string ⟨#[]⟩))), (1, (.const (.string ⟨#[97, 110, 110, 97]⟩))), (2, (.const (.string ⟨#[98, 111, 98, 32, 115, 109, 105, 116, 104]⟩))), (3, (.const (.string ⟨#[50, 48, 48, 48, 48, 50, 48, 51]⟩))), (4, (.const (.string ⟨#[56, 48, 48, 49]⟩))), (5, (.const (.string ⟨#[120]⟩)))])) rfl rfl (a_buildSlice (ys := valsP) (e := 9) (bytes := 16) hF (by kernel_rfl) rfl (by decide) (by decide) ⟨rfl, ⟨_, rfl, rv_str.2 ⟨rfl, by decide⟩⟩, rfl, ⟨_, rfl, rv_str.2 ⟨rfl, by decide⟩⟩, rfl, ⟨_, rfl, rv_str.2 ⟨rfl, by decide⟩⟩, rfl, ⟨_, rfl, rv_str.2 ⟨rfl, by decide⟩⟩, rfl, ⟨_, rfl, rv_str.2 ⟨rfl, by decide⟩⟩, rfl, ⟨_, rfl, rv_str.2 ⟨rfl, by decide⟩⟩, trivial⟩) ?_
 rintro v4 w1 ⟨hs, gl, hF⟩
 refine ⟨trivial, ?_⟩
 replace hT := hT.t hs
 replace hd := hd.st hs (by first | decide | (simp <;> omega)) (by first | decide | (simp <;> omega))
 refine cS (kq 5 (.call { callee := .value (.func 75), args := #[(.tmp 3), (.tmp 4)], argTypes := #[40, 35] })) rfl rfl (ent Tryz.call75 rfl) (pick_any hF (by decide) hd gl (by decide)) ?_
 rintro vw2 w2 ⟨s, rfl, hm, hs, hd⟩
 refine ⟨trivial, ?_⟩
 replace hF := hF.st hs
 replace hT := hT.t hs; replace gl := gl.t hs
 refine yA 2 5 ?_
 refine Sch.nil ?_
 refine run_ret1 (by kernel_rfl) Tryz.func38 Tryz.results38 rfl ?_
 exact ⟨_, rfl, valsP_len _ hm, hT.out2 (by decide), hd.out hT hF0 hbc⟩
namespace F13
noncomputable def c0 := bodyOf Tryz.f13
noncomputable def c8 := (cl (cr (cl (cr (cr c0)))))
noncomputable def o5 := rops (cl (cl (cr (cl c8))))
end F13
/-- A record is dealt. -/
theorem plain_any {w₀ : World} {C : Nat → Nat} {i b n : Nat} {id : Int} (hF : Lim w₀ C) (hi : i ≠ 0) (hd : DeckIs w₀ C i b) (h5 : n ≤ 5) : Calls Tryz.prog 13 #[.pointer (some ⟨b, 0, none⟩), .int .i64 id, .int .i64 n] w₀ (Ret fun v w' => ∃ (ver : Int) (vals : List ByteArray) (vv : Value), v = .agg #[.int .i64 id, .int .i64 ver, vv] ∧ 1 ≤ ver ∧ ver ≤ 2 ∧ vals.length = n ∧ (∀ s ∈ vals, s.size ≤ 9) ∧ Stp [i] w₀ C w' C ∧ RV w' (Mc C) vals vv ∧ DeckIs w' C i b) := by
 have hF0 := hF
 have hbc := hd.colour
 replace hd := hd.col2 hi
 have hT := Stp.refl [2, 3, 4, 5, 6, 7, 8, 9] w₀ (col2 C i)
 replace hF := hF.col2 i
 refine calls_start (c := F13.c0) (N := 27) [.pointer (some ⟨b, 0, none⟩), .int .i64 id, .int .i64 n] Tryz.func13 (by kernel_rfl) (by kernel_rfl) (by kernel_rfl) ?_
 show Run _ _ _ _ [(0, .pointer (some ⟨b, 0, none⟩)), (1, .int .i64 id), (2, .int .i64 n)] _ _
 refine run_sq ?_
 refine run_pl [nn 0] ?_
 refine aS (kq 6 (.alloc 37)) rfl rfl (a_alloc (cs := [.int .i64 0, .int .i64 0, .slice none 0 0]) hF 4 (by kernel_rfl)) ?_
 rintro _ w1 ⟨Cw1, bw1, rfl, hs, hy, hF⟩
 refine ⟨trivial, ?_⟩
 replace hT := hT.t hs
 replace hd := hd.st hs (by first | decide | (simp <;> omega)) (by first | decide | (simp <;> omega))
 refine Sch.nil ?_
 refine run_sq ?_
 refine run_pl [yy 0, yy 1, nn 2, yy 3, yy 4, nn 5, nn 6] ?_
 refine yM 9 1 ?_
 refine yM 10 0 ?_
 refine cS (kq 11 (.call { callee := .value (.func 11), args := #[(.tmp 10), (.const (.int .i64 2))], argTypes := #[40, 3] })) rfl rfl (ent Tryz.call11 rfl) (next_any (n := 2) hF (by decide) hd (by omega) (by omega)) ?_
 rintro vw2 w2 ⟨kv, rfl, hkv, hs, hd⟩
 refine ⟨trivial, ?_⟩
 replace hF := hF.st hs
 replace hT := hT.t hs; replace hy := hy.t hs
 refine yV (kq 12 (.binOp .add 3 (.const (.int .i64 1)) (.tmp 11) 3)) (fun _ => val_addi rfl rfl (by omega) (by omega)) ?_
 refine yV (kq 13 (.build 37 #[(0, (.tmp 9)), (1, (.tmp 12))])) (fun _ => val_build (zs := [.int .i64 0, .int .i64 0, .slice none 0 0]) (ps := [(0, 1), (1, 1), (2, 1)]) (qs := [(0, [.int .i64 id]), (1, [.int .i64 (1 + (kv : Int))])]) (cs := [.int .i64 id, .int .i64 (1 + (kv : Int)), .slice none 0 0]) (by kernel_rfl) (by kernel_rfl) (by exact ⟨rfl, ⟨_, rfl, rfl⟩, rfl, ⟨_, rfl, rfl⟩, trivial⟩) rfl) ?_
 refine aS (kq 7 (.alloc 37)) rfl rfl (a_alloc (cs := [.int .i64 0, .int .i64 0, .slice none 0 0]) hF 5 (by kernel_rfl)) ?_
 rintro _ w3 ⟨Cw3, bw3, rfl, hs, hw, hF⟩
 refine ⟨trivial, ?_⟩
 replace hT := hT.t hs
 replace hd := hd.st hs (by first | decide | (simp <;> omega)) (by first | decide | (simp <;> omega))
 replace hy := hy.t hs
 refine aN (k0 (.store 37 (.tmp 7) (.tmp 13))) rfl (a_storeAll (vs := [.int .i64 id, .int .i64 (1 + (kv : Int)), .slice none 0 0]) (n := 3) rfl rfl (by kernel_rfl) rfl rfl (by intro u hu; simp only [List.mem_cons, List.not_mem_nil, or_false] at hu; rcases hu with rfl | rfl | rfl <;> rfl) hw rfl) ?_
 rintro _ w4 ⟨rfl, hs, hw⟩
 refine ⟨trivial, ?_⟩
 replace hF := hF.st hs
 replace hT := hT.t hs
 replace hd := hd.st hs (by first | decide | (simp <;> omega)) (by first | decide | (simp <;> omega))
 replace hy := hy.t hs
 refine Sch.nil ?_
 refine run_sq ?_
 refine run_sq ?_
 refine run_pl [yy 0] ?_
 refine yAc 8 (.int .i64 0) ?_
 refine Sch.nil ?_
 refine run_bk 0 ?_
 
 refine run_lp (ι := Nat × Value × (List ByteArray) × (Nat → Nat)) (I := fun x w => x.1 ≤ n ∧ x.2.2.1.length = x.1 ∧ (∀ s ∈ x.2.2.1, s.size ≤ 9) ∧ Lim w x.2.2.2 ∧ Stp [2, 3, 4, 5, 6, 7, 8, 9] w₀ (col2 C i) w x.2.2.2 ∧ DeckIs w x.2.2.2 2 b ∧ OwnB w x.2.2.2 4 bw1 (.cells [.int .i64 0, .int .i64 0, .slice none 0 0].toArray 37) ∧ OwnB w x.2.2.2 5 bw3 (.cells [.int .i64 id, .int .i64 (1 + (kv : Int)), x.2.1].toArray 37) ∧ OwnL w x.2.2.2 6 9 x.2.1 x.2.2.1) (e := fun x => [(0, .pointer (some ⟨b, 0, none⟩)), (2, .int .i64 n), (6, .pointer (some ⟨bw1, 0, none⟩)), (7, .pointer (some ⟨bw3, 0, none⟩)), (8, .int .i64 x.1)]) (m := fun x => n - x.1) (x₀ := (0, .slice none 0 0, [], Cw3)) (sr 0 (sr 2 (sr 6 (sr 7 (sr 8 (sub_nil _)))))) ?_ ?_
 · exact ⟨Nat.zero_le _, rfl, by simp, hF, hT, hd, hy, hw, OwnL.nil⟩
 intro ⟨k, vo, vals, C1⟩ w5 hI next
 obtain ⟨hk, hln, h9, hF, hT, hd, hy, hw, ho⟩ := hI
 try simp only at hk hln h9 hF hT hd hy hw ho
 have next1 := next
 clear next
 show Run _ _ _ _ [(0, .pointer (some ⟨b, 0, none⟩)), (2, .int .i64 n), (6, .pointer (some ⟨bw1, 0, none⟩)), (7, .pointer (some ⟨bw3, 0, none⟩)), (8, .int .i64 k)] _ _
 refine run_sq ?_
 refine run_sq ?_
 refine run_pl [yy 0, yy 1, yy 2] ?_
 refine yM 14 8 ?_
 refine yM 15 2 ?_
 refine yV (kq 16 (.binOp .lss 3 (.tmp 14) (.tmp 15) 3)) (fun _ => val_lss rfl rfl) ?_
 refine Sch.nil ?_
 refine run_i 16 rfl (fun h16 => ?_) (fun h16 => ?_)
 ·
  have hkn : k < n := by omega
  refine run_sk ?_
  refine run_sq ?_
  refine run_bk 1 ?_
  refine run_draw (id := 5) (ops := F13.o5) [2, 6] (C1) [yy 0, yy 1, yy 2, nn 3, nn 4, nn 5, yy 6, nn 7] Tryz_mixed (by kernel_rfl) (by kernel_rfl) (by kernel_rfl) ?_
  intro w6 hs
  replace hF := hF.st hs
  replace hT := hT.t hs
  replace hd := hd.st hs (by first | decide | (simp <;> omega)) (by first | decide | (simp <;> omega))
  replace hy := hy.t hs; replace hw := hw.t hs; replace ho := ho.t hs
  have hR := Stp.refl [2, 6] w6 (C1)
  refine yF 19 37 7 2 2 ?_
  refine yS (kq 20 (.load 35 (.tmp 19))) rfl rfl (fun w' hS => val_loadOwn (hw.sy hS) (by kernel_rfl) rfl rfl) ?_
  refine yM 21 0 ?_
  refine cS (kq 22 (.call { callee := .value (.func 38), args := #[(.tmp 21)], argTypes := #[40] })) rfl rfl (ent Tryz.call38 rfl) (value_any hF (by decide) hd) ?_
  rintro vw7 w7 ⟨s, rfl, hsz, hs, hd⟩
  refine ⟨(hR.trans hs (by simp)).ext, ?_⟩
  replace hF := hF.st hs
  replace hT := hT.t hs; replace hy := hy.t hs; replace hw := hw.t hs; replace ho := ho.t hs; replace hR := hR.t hs
  refine aS (kq 23 (.buildSlice 35 1 #[(0, (.tmp 22))])) rfl rfl (a_buildSlice (ys := ([s] : List ByteArray)) (e := 9) (bytes := 16) hF (by kernel_rfl) rfl (by decide) (by decide) ⟨rfl, ⟨_, rfl, rv_str.2 ⟨rfl, by omega⟩⟩, trivial⟩) ?_
  rintro v23 w8 ⟨hs, g23, hF⟩
  refine ⟨(hR.trans hs (by simp)).ext, ?_⟩
  replace hT := hT.t hs
  replace hd := hd.st hs (by first | decide | (simp <;> omega)) (by first | decide | (simp <;> omega))
  replace hy := hy.t hs; replace hw := hw.t hs; replace ho := ho.t hs; replace hR := hR.t hs
  refine aS (kq 24 (.call { callee := .builtin .append, args := #[(.tmp 20), (.tmp 23)], argTypes := #[35, 35] })) rfl rfl (a_append (e := 9) (bytes := 16) hF (by decide) rfl rfl (by kernel_rfl) (by decide) ho g23 (by simp only [List.length_cons, List.length_nil]; omega) (by simp only [List.length_cons, List.length_nil]; omega)) ?_
  rintro v24 w9 ⟨Cw9, hs, ho, hF⟩
  refine ⟨(hR.trans hs (by simp)).ext, ?_⟩
  replace hT := hT.t hs
  replace hd := hd.st hs (by first | decide | (simp <;> omega)) (by first | decide | (simp <;> omega))
  replace hy := hy.t hs; replace hw := hw.t hs; replace hR := hR.t hs; replace g23 := g23.t hs
  refine yF 25 37 7 2 2 ?_
  refine Sch.free rfl ?_
  refine aN (k0 (.store 35 (.tmp 25) (.tmp 24))) rfl (a_store1 rfl rfl (by kernel_rfl) ho.one.1 ho.one.2 hw (by simp)) ?_
  rintro _ w10 ⟨rfl, hs, hw⟩
  refine ⟨trivial, ?_⟩
  replace hF := hF.st hs
  replace hT := hT.t hs
  replace hd := hd.st hs (by first | decide | (simp <;> omega)) (by first | decide | (simp <;> omega))
  replace hy := hy.t hs; replace ho := ho.t hs; replace g23 := g23.t hs
  refine Sch.nil ?_
  refine run_inBlock ?_
  refine run_pl [yy 0, yy 1, yy 2] ?_
  refine yM 17 8 ?_
  refine yV (kq 18 (.binOp .add 3 (.tmp 17) (.const (.int .i64 1)) 3)) (fun _ => val_addi rfl rfl (by omega) (by omega)) ?_
  refine yA 8 18 ?_
  refine Sch.nil ?_
  refine kp (sub_cons 0 rfl rfl (sub_cons 2 rfl rfl (sub_cons 6 rfl rfl (sub_cons 7 rfl rfl (sub_cons 8 rfl (eq_int (by simp)) (sub_nil _)))))) (next1 (k + 1, v24, vals ++ [s], Cw9) _ ⟨(by first | omega | (simp only; omega)), (by simp only [List.length_append, List.length_cons, List.length_nil]; omega), (fun x hx => by
      rcases List.mem_append.1 hx with hx | hx
      · exact h9 x hx
      · rw [List.mem_singleton.1 hx]; exact hsz), hF, hT, hd, hy, hw, ho⟩ (by first | omega | (simp only; omega)))
 ·
  have hkn : k = n := by omega
  refine run_ex 0 ?_
  refine run_sq ?_
  refine run_pl [nn 0, nn 1] ?_
  refine nS (kq 26 (.load 37 (.tmp 7))) rfl rfl trivial (val_loadOwnAgg (n := 3) (vs := [.int .i64 id, .int .i64 (1 + (kv : Int)), vo]) hw.at_ (by kernel_rfl) (by kernel_rfl) rfl rfl rfl) ?_
  refine aN (k0 (.store 37 (.tmp 6) (.tmp 26))) rfl (a_storeAll (vs := [.int .i64 id, .int .i64 (1 + (kv : Int)), vo]) (n := 3) rfl rfl (by kernel_rfl) rfl rfl (by intro u hu; simp only [List.mem_cons, List.not_mem_nil, or_false] at hu; rcases hu with rfl | rfl | rfl <;> first | rfl | exact ho.one.2) hy rfl) ?_
  rintro _ w11 ⟨rfl, hs, hy⟩
  refine ⟨trivial, ?_⟩
  replace hF := hF.st hs
  replace hT := hT.t hs
  replace hd := hd.st hs (by first | decide | (simp <;> omega)) (by first | decide | (simp <;> omega))
  replace hw := hw.t hs; replace ho := ho.t hs
  refine Sch.nil ?_
  refine run_retC1 (by kernel_rfl) Tryz.func13 Tryz.results13 rfl hy.at_ (by kernel_rfl) (by kernel_rfl) rfl ?_
  exact ⟨_, vals, vo, rfl, by omega, by omega, by omega, h9, hT.out2 (by decide), ho.out hT hF0 (Mc_col2 C i) (fun b _ => col2_lt C i (by decide) b) (by omega), hd.out hT hF0 hbc⟩
end Go.Proofs.YtionghonhnedgaaGreat
