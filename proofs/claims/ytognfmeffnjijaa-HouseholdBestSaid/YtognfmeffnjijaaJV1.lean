/- Steps through functions of the program. -/
import Derived.Test.YtognfmeffnjijaaJU3
import Derived.Test.YtognfmeffnjijaaL2
set_option linter.unusedVariables false
set_option linter.unusedSimpArgs false
set_option maxRecDepth 100000
set_option maxHeartbeats 4000000
namespace Go.Proofs.Ytognfmeffnjijaa
open Go.K Go.K.Rep

namespace F21
noncomputable def c0 := bodyOf Try.f21
end F21
theorem range_any {w₀ : World} {C : Nat → Nat} {i b : Nat} {lo hi : Int} (hF : Lim w₀ C) (hi0 : i ≠ 0) (hd : DeckIs w₀ C i b) (h1 : lo ≤ hi) (h2 : -1000000000 ≤ lo) (h3 : hi ≤ 1000000000) :
    Calls Try.prog 21 #[.pointer (some ⟨b, 0, none⟩), .int .i64 lo, .int .i64 hi] w₀ (Ret fun v w' => ∃ n : Int, v = .int .i64 n ∧ lo ≤ n ∧ n ≤ hi ∧ Stp [i] w₀ C w' C ∧ DeckIs w' C i b) := by
 have hF0 := hF
 have hbc := hd.colour
 replace hd := hd.col2 hi0
 have hT := Stp.refl [2, 3, 4, 5, 6, 7, 8, 9] w₀ (col2 C i)
 replace hF := hF.col2 i
 refine calls_start (c := F21.c0) (N := 15) [.pointer (some ⟨b, 0, none⟩), .int .i64 lo, .int .i64 hi] Try.func21 (by kernel_rfl) (by kernel_rfl) (by kernel_rfl) ?_
 show Run _ _ _ _ [(0, .pointer (some ⟨b, 0, none⟩)), (1, .int .i64 lo), (2, .int .i64 hi)] _ _
 refine run_sq ?_
 refine run_pl [yy 0] ?_
 refine yAc 6 (.int .i64 0) ?_
 refine Sch.nil ?_
 refine run_sq ?_
 refine run_pl [yy 0, yy 1, yy 2, yy 3, yy 4, yy 5, nn 6, yy 7, yy 8] ?_
 refine yM 7 1 ?_
 refine yM 8 0 ?_
 refine yM 9 2 ?_
 refine yM 10 1 ?_
 refine yV (kq 11 (.binOp .sub 3 (.tmp 9) (.tmp 10) 3)) (fun _ => val_subi rfl rfl (by omega) (by omega)) ?_
 refine yV (kq 12 (.binOp .add 3 (.tmp 11) (.const (.int .i64 1)) 3)) (fun _ => val_addi rfl rfl (by omega) (by omega)) ?_
 refine cS (kq 13 (.call { callee := .value (.func 10), args := #[(.tmp 8), (.tmp 12)], argTypes := #[25, 3] })) rfl rfl (ent Try.call10 rfl) (next_any (n := hi - lo + 1) hF (by decide) hd (by omega) (by omega)) ?_
 rintro vw1 w1 ⟨k, rfl, hk, hs, hd⟩
 refine ⟨trivial, ?_⟩
 replace hF := hF.st hs
 replace hT := hT.t hs
 refine yV (kq 14 (.binOp .add 3 (.tmp 7) (.tmp 13) 3)) (fun _ => val_addi rfl rfl (by omega) (by omega)) ?_
 refine yA 6 14 ?_
 refine Sch.nil ?_
 refine run_ret1 (by kernel_rfl) Try.func21 Try.results21 rfl ?_
 exact ⟨_, rfl, by omega, by omega, hT.out2 (by decide), hd.out hT hF0 hbc⟩
theorem DeckIs.give {w' : World} {C1 C' : Nat → Nat} {b i : Nat} (h : DeckIs w' C1 2 b) (hM : ∀ b, Mc C' b → Mc C1 b) (hb : C' b = i) : DeckIs w' C' i b := let ⟨d, ⟨h1, v, h2, h3⟩, h4⟩ := h; ⟨d, ⟨h1, v, RV.give h2 hM, ⟨hb, h3.at_⟩⟩, h4⟩

namespace F12
noncomputable def c0 := bodyOf Try.f12
noncomputable def c8 := (cl (cr (cl (cr (cr c0)))))
noncomputable def c18 := (cl (cl (cl (cr (cl c8)))))
noncomputable def c19 := (cr (cl (cl (cr (cl c8)))))
noncomputable def c29 := (cl (cl (cr (cl (cl c19)))))
end F12
/-- 'Edges'. -/
theorem edges_any {w₀ : World} {C : Nat → Nat} {i0 b n m : Nat} {one : Int} (hF : Lim w₀ C) (hi0 : i0 ≠ 0) (hd : DeckIs w₀ C i0 b) (hn : n ≤ 8) (hm : m ≤ 8) (h1 : 1 ≤ one) (h63 : one ≤ 9223372036854775807) :
    Calls Try.prog 12 #[.pointer (some ⟨b, 0, none⟩), .int .i64 n, .int .i64 m, .int .i64 one] w₀ (Ret fun v w' => ∃ l, EdD n m l ∧ (Stp [i0] w₀ C w' C ∧ RV w' (Mc C) l v ∧ DeckIs w' C i0 b) ∧
      ∀ j, j ≠ 0 → ∃ C', Stp [i0] w₀ C w' C' ∧ Lim w' C' ∧ OwnL w' C' j 45 v l ∧ DeckIs w' C' i0 b) := by
 have hF0 := hF
 have hbc := hd.colour
 replace hd := hd.col2 hi0
 have hT := Stp.refl [2, 3, 4, 5, 6, 7, 8, 9] w₀ (col2 C i0)
 replace hF := hF.col2 i0
 refine calls_start (c := F12.c0) (N := 34) [.pointer (some ⟨b, 0, none⟩), .int .i64 n, .int .i64 m, .int .i64 one] Try.func12 (by kernel_rfl) (by kernel_rfl) (by kernel_rfl) ?_
 show Run _ _ _ _ [(0, .pointer (some ⟨b, 0, none⟩)), (1, .int .i64 n), (2, .int .i64 m), (3, .int .i64 one)] _ _
 refine run_sq ?_
 refine run_pl [yy 0] ?_
 refine yV (kq 8 (.assign (.const (.slice none 0 0)))) (fun _ => val_assign rfl) ?_
 refine Sch.nil ?_
 refine run_sq ?_
 refine run_pl [yy 0] ?_
 refine yV (kq 9 (.assign (.const (.slice none 0 0)))) (fun _ => val_assign rfl) ?_
 refine Sch.nil ?_
 refine run_sq ?_
 refine run_sq ?_
 refine run_pl [yy 0] ?_
 refine yAc 10 (.int .i64 0) ?_
 refine Sch.nil ?_
 refine run_bk 0 ?_
 
 refine run_lp (ι := Nat × (List K.Edge) × Value × (Nat → Nat)) (I := fun x w => x.1 ≤ n ∧ DE n m x.1 0 x.2.1 ∧ Lim w x.2.2.2 ∧ Stp [2, 3, 4, 5, 6, 7, 8, 9] w₀ (col2 C i0) w x.2.2.2 ∧ DeckIs w x.2.2.2 2 b ∧ OwnL w x.2.2.2 3 45 x.2.2.1 x.2.1) (e := fun x => [(0, .pointer (some ⟨b, 0, none⟩)), (1, .int .i64 n), (2, .int .i64 m), (3, .int .i64 one), (9, x.2.2.1), (10, .int .i64 x.1)]) (m := fun x => n - x.1) (x₀ := (0, [], .slice none 0 0, col2 C i0)) (sr 0 (sr 1 (sr 2 (sr 3 (sr 9 (sr 10 (sub_nil _))))))) ?_ ?_
 · exact ⟨Nat.zero_le _, DE.start, hF, hT, hd, OwnL.nil⟩
 intro ⟨i, l, vo, C1⟩ w1 hI next
 obtain ⟨hi, hD, hF, hT, hd, ho⟩ := hI
 try simp only at hi hD hF hT hd ho
 have next1 := next
 clear next
 show Run _ _ _ _ [(0, .pointer (some ⟨b, 0, none⟩)), (1, .int .i64 n), (2, .int .i64 m), (3, .int .i64 one), (9, vo), (10, .int .i64 i)] _ _
 refine run_sq ?_
 refine run_sq ?_
 refine run_pl [yy 0, yy 1, yy 2] ?_
 refine yM 12 10 ?_
 refine yM 13 1 ?_
 refine yV (kq 14 (.binOp .lss 3 (.tmp 12) (.tmp 13) 3)) (fun _ => val_lss rfl rfl) ?_
 refine Sch.nil ?_
 refine run_i 14 rfl (fun h14 => ?_) (fun h14 => ?_)
 ·
  have hin : i < n := by omega
  refine run_sk ?_
  refine run_sq ?_
  refine run_bk 1 ?_
  refine run_sq ?_
  refine run_pl [yy 0] ?_
  refine yAc 11 (.int .i64 0) ?_
  refine Sch.nil ?_
  refine run_bk 2 ?_
  
  refine run_lp (ι := Nat × (List K.Edge) × Value × (Nat → Nat)) (I := fun x w => x.1 ≤ m ∧ DE n m i x.1 x.2.1 ∧ Lim w x.2.2.2 ∧ Stp [2, 3, 4, 5, 6, 7, 8, 9] w₀ (col2 C i0) w x.2.2.2 ∧ DeckIs w x.2.2.2 2 b ∧ OwnL w x.2.2.2 3 45 x.2.2.1 x.2.1) (e := fun x => [(0, .pointer (some ⟨b, 0, none⟩)), (1, .int .i64 n), (2, .int .i64 m), (3, .int .i64 one), (9, x.2.2.1), (10, .int .i64 i), (11, .int .i64 x.1)]) (m := fun x => m - x.1) (x₀ := (0, l, vo, C1)) (sr 0 (sr 1 (sr 2 (sr 3 (sr 9 (sr 10 (sr 11 (sub_nil _)))))))) ?_ ?_
  · exact ⟨Nat.zero_le _, hD, hF, hT, hd, ho⟩
  intro ⟨j, l, vo, C1⟩ w2 hI next
  obtain ⟨hj, hD, hF, hT, hd, ho⟩ := hI
  try simp only at hj hD hF hT hd ho
  have next2 := next
  clear next
  show Run _ _ _ _ [(0, .pointer (some ⟨b, 0, none⟩)), (1, .int .i64 n), (2, .int .i64 m), (3, .int .i64 one), (9, vo), (10, .int .i64 i), (11, .int .i64 j)] _ _
  have hln := hD.len
  refine run_sq ?_
  refine run_sq ?_
  refine run_pl [yy 0, yy 1, yy 2] ?_
  refine yM 17 11 ?_
  refine yM 18 2 ?_
  refine yV (kq 19 (.binOp .lss 3 (.tmp 17) (.tmp 18) 3)) (fun _ => val_lss rfl rfl) ?_
  refine Sch.nil ?_
  refine run_i 19 rfl (fun h19 => ?_) (fun h19 => ?_)
  ·
   have hjm : j < m := by omega
   refine run_sk ?_
   refine run_sq ?_
   refine run_bk 3 ?_
   refine run_sq ?_
   refine run_pl [yy 0, yy 1, nn 2] ?_
   refine yM 22 0 ?_
   refine yM 23 3 ?_
   refine cS (kq 24 (.call { callee := .value (.func 20), args := #[(.tmp 22), (.tmp 23)], argTypes := #[25, 3] })) rfl rfl (ent Try.call20 rfl) (one_any hF (by decide) hd h1 h63) ?_
   rintro vw3 w3 ⟨t, rfl, hs, hd⟩
   refine ⟨trivial, ?_⟩
   replace hF := hF.st hs
   replace hT := hT.t hs; replace ho := ho.t hs
   refine Sch.nil ?_
   refine run_c 24 rfl (fun h24 => ?_) (fun h24 => ?_)
   ·
    refine run_pl [yy 0, yy 1, yy 2, yy 3, nn 4, yy 5, nn 6, nn 7, yy 8] ?_
    refine yM 25 9 ?_
    refine yM 26 10 ?_
    refine yM 27 11 ?_
    refine yM 28 0 ?_
    refine cS (kq 29 (.call { callee := .value (.func 21), args := #[(.tmp 28), (.const (.int .i64 (-2))), (.const (.int .i64 7))], argTypes := #[25, 3, 3] })) rfl rfl (ent Try.call21 rfl) (range_any (lo := -2) (hi := 7) hF (by decide) hd (by decide) (by decide) (by decide)) ?_
    rintro vw4 w4 ⟨x, rfl, hx1, hx2, hs, hd⟩
    refine ⟨trivial, ?_⟩
    replace hF := hF.st hs
    replace hT := hT.t hs; replace ho := ho.t hs
    refine yV (kq 30 (.build 45 #[(0, (.tmp 26)), (1, (.tmp 27)), (2, (.tmp 29))])) (fun _ => val_build (zs := [.int .i64 0, .int .i64 0, .int .i64 0]) (ps := [(0, 1), (1, 1), (2, 1)]) (qs := [(0, [.int .i64 (i : Int)]), (1, [.int .i64 (j : Int)]), (2, [.int .i64 x])]) (cs := [.int .i64 (i : Int), .int .i64 (j : Int), .int .i64 x]) (by kernel_rfl) (by kernel_rfl) (by exact ⟨rfl, ⟨_, rfl, rfl⟩, rfl, ⟨_, rfl, rfl⟩, rfl, ⟨_, rfl, rfl⟩, trivial⟩) rfl) ?_
    refine aS (kq 31 (.buildSlice 29 1 #[(0, (.tmp 30))])) rfl rfl (a_buildSlice (ys := ([⟨i, j, x⟩] : List K.Edge)) (e := 45) (bytes := 24) hF (by kernel_rfl) rfl (by decide) (by decide) ⟨rfl, ⟨_, rfl, rv_edge.2 rfl⟩, trivial⟩) ?_
    rintro v31 w5 ⟨hs, g31, hF⟩
    refine ⟨trivial, ?_⟩
    replace hT := hT.t hs
    replace hd := hd.st hs (by first | decide | (simp <;> omega)) (by first | decide | (simp <;> omega))
    replace ho := ho.t hs
    refine aS (kq 32 (.call { callee := .builtin .append, args := #[(.tmp 25), (.tmp 31)], argTypes := #[29, 29] })) rfl rfl (a_append (e := 45) (bytes := 24) hF (by decide) rfl rfl (by kernel_rfl) (by decide) ho g31 (by simp only [List.length_cons, List.length_nil]; omega) (by simp only [List.length_cons, List.length_nil]; omega)) ?_
    rintro v32 w6 ⟨Cw6, hs, ho, hF⟩
    refine ⟨trivial, ?_⟩
    replace hT := hT.t hs
    replace hd := hd.st hs (by first | decide | (simp <;> omega)) (by first | decide | (simp <;> omega))
    replace g31 := g31.t hs
    refine yA 9 32 ?_
    refine Sch.nil ?_
    refine run_inBlock ?_
    refine run_pl [yy 0, yy 1, yy 2] ?_
    refine yM 20 11 ?_
    refine yV (kq 21 (.binOp .add 3 (.tmp 20) (.const (.int .i64 1)) 3)) (fun _ => val_addi rfl rfl (by omega) (by omega)) ?_
    refine yA 11 21 ?_
    refine Sch.nil ?_
    refine kp (sub_cons 0 rfl rfl (sub_cons 1 rfl rfl (sub_cons 2 rfl rfl (sub_cons 3 rfl rfl (sub_cons 9 rfl rfl (sub_cons 10 rfl rfl (sub_cons 11 rfl (eq_int (by simp)) (sub_nil _)))))))) (next2 (j + 1, l ++ [⟨i, j, x⟩], v32, Cw6) _ ⟨(by first | omega | (simp only; omega)), (hD.push hin hjm hx1 hx2), hF, hT, hd, ho⟩ (by first | omega | (simp only; omega)))
   ·
    refine run_sk ?_
    refine run_inBlock ?_
    refine run_pl [yy 0, yy 1, yy 2] ?_
    refine yM 20 11 ?_
    refine yV (kq 21 (.binOp .add 3 (.tmp 20) (.const (.int .i64 1)) 3)) (fun _ => val_addi rfl rfl (by omega) (by omega)) ?_
    refine yA 11 21 ?_
    refine Sch.nil ?_
    refine kp (sub_cons 0 rfl rfl (sub_cons 1 rfl rfl (sub_cons 2 rfl rfl (sub_cons 3 rfl rfl (sub_cons 9 rfl rfl (sub_cons 10 rfl rfl (sub_cons 11 rfl (eq_int (by simp)) (sub_nil _)))))))) (next2 (j + 1, l, vo, C1) _ ⟨(by first | omega | (simp only; omega)), hD.skip, hF, hT, hd, ho⟩ (by first | omega | (simp only; omega)))
  ·
   have hjm : j = m := by omega
   rw [hjm] at hD
   refine run_ex 2 ?_
   refine run_inBlock ?_
   refine run_pl [yy 0, yy 1, yy 2] ?_
   refine yM 15 10 ?_
   refine yV (kq 16 (.binOp .add 3 (.tmp 15) (.const (.int .i64 1)) 3)) (fun _ => val_addi rfl rfl (by omega) (by omega)) ?_
   refine yA 10 16 ?_
   refine Sch.nil ?_
   refine kp (sub_cons 0 rfl rfl (sub_cons 1 rfl rfl (sub_cons 2 rfl rfl (sub_cons 3 rfl rfl (sub_cons 9 rfl rfl (sub_cons 10 rfl (eq_int (by simp)) (sub_nil _))))))) (next1 (i + 1, l, vo, C1) _ ⟨(by first | omega | (simp only; omega)), (hD.row hm), hF, hT, hd, ho⟩ (by first | omega | (simp only; omega)))
 ·
  have hin : i = n := by omega
  rw [hin] at hD
  refine run_ex 0 ?_
  refine run_sq ?_
  refine run_pl [yy 0, yy 1] ?_
  refine yM 33 9 ?_
  refine yA 8 33 ?_
  refine Sch.nil ?_
  refine run_ret1 (by kernel_rfl) Try.func12 Try.results12 rfl ?_
  have hln := hD.len
  refine ⟨l, hD.fin hn, ⟨hT.out2 (by decide), ho.out hT hF0 (Mc_col2 C i0) (fun b _ => col2_lt C i0 (by decide) b) (by omega), hd.out hT hF0 hbc⟩, fun j hj => ?_⟩
  obtain ⟨Cg, hcg, hFg, hMg, hog⟩ := ho.give hT hF0 (Mc_col2 C i0) (fun b _ => col2_lt C i0 (by decide) b) (by decide) j hj
  exact ⟨Cg, (hT.out2 (by decide)).give hcg, hFg, hog, hd.give hMg (by rw [hcg b (hF0 b (by rw [hbc]; exact hi0)), hbc])⟩
end Go.Proofs.Ytognfmeffnjijaa
