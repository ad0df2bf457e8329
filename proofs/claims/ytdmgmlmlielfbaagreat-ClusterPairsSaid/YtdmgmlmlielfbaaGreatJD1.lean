/- Steps through functions of the program. -/
import Derived.Test.YtdmgmlmlielfbaaGreatRows
import Derived.Test.YtdmgmlmlielfbaaGreatL1
set_option linter.unusedVariables false
set_option linter.unusedSimpArgs false
set_option maxRecDepth 100000
set_option maxHeartbeats 400000
namespace Go.Proofs.YtdmgmlmlielfbaaGreat
open Go.K Go.K.Rep
noncomputable section
theorem Tryz_mixed : Tryz.prog.follows .mixedOrders = true := Tryz.checked.mixed
namespace F12
def c0 := bodyOf Tryz.f12
end F12
theorem few_ok (a : Option Addr) (l c : Nat) (w : World) : Calls Tryz.prog 12 #[.slice a l c] w (Ret fun v w' => v = .bool (decide ((l : Int) ≤ 400)) ∧ w' = w) := by
 refine c_st F12.c0 6 [.slice a l c] Tryz.func12 ?_
 show Run _ _ _ _ [(0, .slice a l c)] _ _
 refine run_sq (run_pl [yy 0] ?_)
 refine yAc 2 (.bool false) ?_
 refine Sch.nil (run_sq (run_pl [yy 0, yy 1, yy 2, yy 3] ?_))
 refine yM 3 0 ?_
 refine yV (kq 4 (.call { callee := .builtin .len, args := #[(.tmp 3)], argTypes := #[22] })) (fun _ => val_len_slice rfl Tryz.underlying22) ?_
 refine yV (kq 5 (.binOp .leq 3 (.tmp 4) (.const (.int .i64 400)) 3)) (fun _ => val_leq rfl rfl) ?_
 refine yA 2 5 ?_
 refine Sch.nil ?_
 refine rt1 Tryz.func12 Tryz.results12 ?_
 exact ⟨rfl, rfl⟩
namespace F13
def c0 := bodyOf Tryz.f13
end F13
theorem new_ok {w : World} {C : Nat → Nat} {l : List Int} {vl : Value} (hF : Lim w C) (hl : RV w (Mc C) l vl) : Calls Tryz.prog 13 #[vl] w (Ret fun v w' => ∃ C' b, v = .pointer (some ⟨b, 0, none⟩) ∧ Stp [] w C w' C' ∧ Lim w' C' ∧ DeckAt 68 w' C' 3 b ⟨l, 0, 11400714819323198485⟩) := by
 have hT := Stp.refl [] w C
 refine c_st F13.c0 6 [vl] Tryz.func13 ?_
 show Run _ _ _ _ [(0, vl)] _ _
 refine run_sq (run_pl [yy 0] ?_)
 refine yV (kq 2 (.assign (.const (.pointer none)))) (fun _ => val_assign rfl) ?_
 refine Sch.nil (run_sq (run_pl [yy 0, yy 1, nn 2, yy 3] ?_))
 refine yM 3 0 ?_
 refine yV (kq 4 (.build 68 #[(0, (.tmp 3)), (2, (.const (.int .u64 11400714819323198485)))])) (fun _ => val_build (zs := [.slice none 0 0, .int .i64 0, .int .u64 0]) (ps := [(0, 1), (1, 1), (2, 1)]) (qs := [(0, [vl]), (2, [.int .u64 11400714819323198485])]) (cs := [vl, .int .i64 0, .int .u64 11400714819323198485]) (by kernel_rfl) (by kernel_rfl) ⟨rfl, ⟨_, rfl, (hl.one rfl).1⟩, rfl, ⟨_, rfl, rfl⟩, trivial⟩ rfl) ?_
 refine aT (kq 5 (.box 68 (.tmp 4))) rfl rfl (a_box (cs := [vl, .int .i64 0, .int .u64 11400714819323198485]) hF 3 rfl rfl) ?_
 rintro _ w1 ⟨Cw1, bw1, rfl, s_1, hb, hF⟩
 refine yA 2 5 ?_
 refine Sch.nil ?_
 refine rt1 Tryz.func13 Tryz.results13 ?_
 replace hl := hl.t s_1; replace hT := hT.t s_1
 exact ⟨_, _, rfl, hT, hF, Nat.zero_le _, vl, hl, hb⟩
namespace F37
def c0 := bodyOf Tryz.f37
def o2 := rops (cl (cl (cr (cr c0))))
def c8 := (cl (cr (cl (cr (cr c0)))))
def o3 := rops (cl c8)
def c15 := (cl (cr (cr (cr (cr c0)))))
def o6 := rops c15
end F37
theorem word_ok {w : World} {C : Nat → Nat} {i b : Nat} {d : Dk} (hF : Lim w C) (hi : i ≠ 0) (hd : DeckAt 68 w C i b d) (hlen : d.list.length ≤ 9223372036854775807) : Calls Tryz.prog 37 #[.pointer (some ⟨b, 0, none⟩)] w (Ret fun v w' => v = .int .u64 d.word ∧ Stp [i] w C w' C ∧ DeckAt 68 w' C i b d.next) := by
 obtain ⟨hat, vl, hl, hb⟩ := hd.col2 hi
 have hbc : C b = i := by obtain ⟨_, _, _, h⟩ := hd; exact h.col
 have hF0 := hF
 replace hF := hF.col2 i
 have hT := Stp.refl [2, 3, 4, 5, 6, 7, 8, 9] w (col2 C i)
 refine c_st F37.c0 60 [.pointer (some ⟨b, 0, none⟩)] Tryz.func37 ?_
 show Run _ _ _ _ [(0, .pointer (some ⟨b, 0, none⟩))] _ _
 refine run_sq (run_pl [yy 0] ?_)
 refine yAc 2 (.int .u64 0) ?_
 refine Sch.nil (run_sq (run_pl [yy 0] ?_))
 refine yAc 3 (.int .u64 0) ?_
 refine Sch.nil (run_sq (run_sq ?_))
 refine run_draw (id := 2) (ops := F37.o2) [] (col2 C i) [yy 0, yy 1, yy 2, yy 3, yy 4, yy 5, yy 6, yy 7, yy 8, yy 9] Tryz_mixed (by kernel_rfl) (by kernel_rfl) (by kernel_rfl) ?_
 intro w1 s_1
 refine yM 5 0 ?_
 refine yN 6 5 ?_
 refine yF 7 68 6 1 1 ?_
 replace hb := hb.t s_1
 refine yS (kq 8 (.load 3 (.tmp 7))) rfl rfl (fun w' hS => val_loadOwn (hb.sy hS) (by kernel_rfl) rfl rfl) ?_
 refine yM 9 0 ?_
 refine yN 10 9 ?_
 refine yF 11 68 10 0 0 ?_
 refine yS (kq 12 (.load 22 (.tmp 11))) rfl rfl (fun w' hS => val_loadOwn (hb.sy hS) (by kernel_rfl) rfl rfl) ?_
 replace hl := hl.t s_1
 refine yS (kq 13 (.call { callee := .builtin .len, args := #[(.tmp 12)], argTypes := #[22] })) rfl rfl (fun w' hS => hl.lenV rfl Tryz.underlying22 w' ) ?_
 refine yL 14 3 8 13 ?_
 refine Sch.nil ?_
 refine run_i 14 rfl (fun h14 => ?_) (fun h14 => ?_)
 ·
  have hx : d.x = IntKind.u64.wrap d.list[d.at_] := by unfold Dk.x; rw [dif_pos (by omega)]
  have hn : d.next = ⟨d.list, d.at_ + 1, mix d.state d.x⟩ := by unfold Dk.next; rw [if_pos (by omega)]
  refine run_sq ?_
  refine run_draw (id := 3) (ops := F37.o3) [] (col2 C i) [yy 0, yy 1, yy 2, yy 3, yy 4, yy 5, yy 6, yy 7, yy 8, yy 9, yy 10, yy 11] Tryz_mixed (by kernel_rfl) (by kernel_rfl) (by kernel_rfl) ?_
  intro w2 s_2
  refine yM 15 0 ?_
  refine yN 16 15 ?_
  refine yF 17 68 16 0 0 ?_
  replace hb := hb.t s_2
  refine yS (kq 18 (.load 22 (.tmp 17))) rfl rfl (fun w' hS => val_loadOwn (hb.sy hS) (by kernel_rfl) rfl rfl) ?_
  refine yM 19 0 ?_
  refine yN 20 19 ?_
  refine yF 21 68 20 1 1 ?_
  refine yS (kq 22 (.load 3 (.tmp 21))) rfl rfl (fun w' hS => val_loadOwn (hb.sy hS) (by kernel_rfl) rfl rfl) ?_
  replace hl := hl.t s_2
  refine iR 3 23 22 18 22 hl rfl (h := ?_)
  intro b23 o23 h23
  try simp only [Int.toNat_natCast] at h23
  refine lS (kq 24 (.load 3 (.tmp 23))) rfl rfl (fun w' hS => h23.sy hS) h23 (by kernel_rfl) rfl rfl ?_
  intro v24 g24
  first | (obtain rfl := rv_nat.1 g24) | (obtain rfl := rv_int.1 g24)
  refine yV (kq 25 (.convert 3 66 (.tmp 24))) (fun _ => val_conv_int rfl ⟨_, Tryz.underlying3⟩ Tryz.underlying66) ?_
  refine yA 3 25 ?_
  refine Sch.nil (run_pl [yy 0, yy 1, yy 2, nn 3, yy 4, yy 5, yy 6, nn 7] ?_)
  refine yM 26 0 ?_
  refine yN 27 26 ?_
  refine yF 28 68 27 1 1 ?_
  refine nO 29 3 28 hb.at_ rfl rfl ?_
  refine yI 30 3 29 1 ?_
  refine yN 31 26 ?_
  refine yF 32 68 31 1 1 ?_
  refine aU (k0 (.store 3 (.tmp 32) (.tmp 30))) rfl (a_store1 rfl rfl (by kernel_rfl) rfl rfl hb (by simp)) ?_
  rintro _ w3 ⟨rfl, s_3, hb⟩
  refine Sch.nil (run_sq (run_pl [yy 0, yy 1, yy 2, yy 3, nn 4, yy 5, yy 6, yy 7, yy 8, yy 9, yy 10, nn 11] ?_))
  refine yM 33 0 ?_
  refine yM 34 0 ?_
  refine yN 35 34 ?_
  refine yF 36 68 35 2 2 ?_
  refine nO 37 66 36 hb.at_ rfl rfl ?_
  refine yM 38 3 ?_
  refine yV (kq 39 (.binOp .add 66 (.tmp 37) (.tmp 38) 66)) (fun _ => val_add rfl rfl) ?_
  refine yV (kq 40 (.binOp .mul 66 (.tmp 39) (.const (.int .u64 6364136223846793005)) 66)) (fun _ => val_mul rfl rfl) ?_
  refine yV (kq 41 (.binOp .add 66 (.tmp 40) (.const (.int .u64 1442695040888963407)) 66)) (fun _ => val_add rfl rfl) ?_
  refine yN 42 33 ?_
  refine yF 43 68 42 2 2 ?_
  refine aU (k0 (.store 66 (.tmp 43) (.tmp 41))) rfl (a_store1 rfl rfl (by kernel_rfl) rfl rfl hb (by simp)) ?_
  rintro _ w4 ⟨rfl, s_4, hb⟩
  refine Sch.nil (run_sq ?_)
  refine run_draw (id := 6) (ops := F37.o6) [] (col2 C i) [yy 0, yy 1, yy 2, yy 3, yy 4, yy 5, yy 6, yy 7, yy 8, yy 9, yy 10] Tryz_mixed (by kernel_rfl) (by kernel_rfl) (by kernel_rfl) ?_
  intro w5 s_5
  refine yM 44 0 ?_
  refine yN 45 44 ?_
  refine yF 46 68 45 2 2 ?_
  replace hb := hb.t s_5
  refine yS (kq 47 (.load 66 (.tmp 46))) rfl rfl (fun w' hS => val_loadOwn (hb.sy hS) (by kernel_rfl) rfl rfl) ?_
  refine yM 48 0 ?_
  refine yN 49 48 ?_
  refine yF 50 68 49 2 2 ?_
  refine yS (kq 51 (.load 66 (.tmp 50))) rfl rfl (fun w' hS => val_loadOwn (hb.sy hS) (by kernel_rfl) rfl rfl) ?_
  refine yV (kq 52 (.binOp .shr 66 (.tmp 51) (.const (.int .u64 33)) 70)) (fun _ => val_shr rfl rfl (by omega)) ?_
  refine yV (kq 53 (.binOp .xor 66 (.tmp 47) (.tmp 52) 66)) (fun _ => val_xor rfl rfl) ?_
  refine yA 4 53 ?_
  refine Sch.nil (run_sq (run_pl [yy 0, yy 1, yy 2] ?_))
  refine yM 54 4 ?_
  refine yV (kq 55 (.binOp .mul 66 (.tmp 54) (.const (.int .u64 18397679294719823053)) 66)) (fun _ => val_mul rfl rfl) ?_
  refine yA 4 55 ?_
  refine Sch.nil (run_sq (run_pl [yy 0, yy 1, yy 2, yy 3, yy 4] ?_))
  refine yM 56 4 ?_
  refine yM 57 4 ?_
  refine yV (kq 58 (.binOp .shr 66 (.tmp 57) (.const (.int .u64 29)) 70)) (fun _ => val_shr rfl rfl (by omega)) ?_
  refine yV (kq 59 (.binOp .xor 66 (.tmp 56) (.tmp 58) 66)) (fun _ => val_xor rfl rfl) ?_
  refine yA 2 59 ?_
  refine Sch.nil ?_
  refine rt1 Tryz.func37 Tryz.results37 ?_
  replace hT := ((((hT.t s_1).t s_2).t s_3).t s_4).t s_5
  refine ⟨eq_int (by simp only [Dk.word, Dk.next, stir1, stir2, mix, hx]), hT.out2 (by decide), DeckAt.out (d := d.next) ?_ hT hF0 hbc⟩
  rw [hn]
  simp only [List.set_cons_succ, List.set_cons_zero] at hb
  replace hl := ((hl.t s_3).t s_4).t s_5
  refine ⟨by simp only; omega, vl, hl, ?_⟩
  simpa [mix, hx] using hb
 have hx : d.x = 0 := by unfold Dk.x; rw [dif_neg (by omega)]
 have hn : d.next = ⟨d.list, d.at_, mix d.state d.x⟩ := by unfold Dk.next; rw [if_neg (by omega)]
 refine run_sk (run_sq (run_pl [yy 0, yy 1, yy 2, yy 3, nn 4, yy 5, yy 6, yy 7, yy 8, yy 9, yy 10, nn 11] ?_))
 refine yM 33 0 ?_
 refine yM 34 0 ?_
 refine yN 35 34 ?_
 refine yF 36 68 35 2 2 ?_
 refine nO 37 66 36 hb.at_ rfl rfl ?_
 refine yM 38 3 ?_
 refine yV (kq 39 (.binOp .add 66 (.tmp 37) (.tmp 38) 66)) (fun _ => val_add rfl rfl) ?_
 refine yV (kq 40 (.binOp .mul 66 (.tmp 39) (.const (.int .u64 6364136223846793005)) 66)) (fun _ => val_mul rfl rfl) ?_
 refine yV (kq 41 (.binOp .add 66 (.tmp 40) (.const (.int .u64 1442695040888963407)) 66)) (fun _ => val_add rfl rfl) ?_
 refine yN 42 33 ?_
 refine yF 43 68 42 2 2 ?_
 refine aU (k0 (.store 66 (.tmp 43) (.tmp 41))) rfl (a_store1 rfl rfl (by kernel_rfl) rfl rfl hb (by simp)) ?_
 rintro _ w6 ⟨rfl, s_6, hb⟩
 refine Sch.nil (run_sq ?_)
 refine run_draw (id := 6) (ops := F37.o6) [] (col2 C i) [yy 0, yy 1, yy 2, yy 3, yy 4, yy 5, yy 6, yy 7, yy 8, yy 9, yy 10] Tryz_mixed (by kernel_rfl) (by kernel_rfl) (by kernel_rfl) ?_
 intro w7 s_7
 refine yM 44 0 ?_
 refine yN 45 44 ?_
 refine yF 46 68 45 2 2 ?_
 replace hb := hb.t s_7
 refine yS (kq 47 (.load 66 (.tmp 46))) rfl rfl (fun w' hS => val_loadOwn (hb.sy hS) (by kernel_rfl) rfl rfl) ?_
 refine yM 48 0 ?_
 refine yN 49 48 ?_
 refine yF 50 68 49 2 2 ?_
 refine yS (kq 51 (.load 66 (.tmp 50))) rfl rfl (fun w' hS => val_loadOwn (hb.sy hS) (by kernel_rfl) rfl rfl) ?_
 refine yV (kq 52 (.binOp .shr 66 (.tmp 51) (.const (.int .u64 33)) 70)) (fun _ => val_shr rfl rfl (by omega)) ?_
 refine yV (kq 53 (.binOp .xor 66 (.tmp 47) (.tmp 52) 66)) (fun _ => val_xor rfl rfl) ?_
 refine yA 4 53 ?_
 refine Sch.nil (run_sq (run_pl [yy 0, yy 1, yy 2] ?_))
 refine yM 54 4 ?_
 refine yV (kq 55 (.binOp .mul 66 (.tmp 54) (.const (.int .u64 18397679294719823053)) 66)) (fun _ => val_mul rfl rfl) ?_
 refine yA 4 55 ?_
 refine Sch.nil (run_sq (run_pl [yy 0, yy 1, yy 2, yy 3, yy 4] ?_))
 refine yM 56 4 ?_
 refine yM 57 4 ?_
 refine yV (kq 58 (.binOp .shr 66 (.tmp 57) (.const (.int .u64 29)) 70)) (fun _ => val_shr rfl rfl (by omega)) ?_
 refine yV (kq 59 (.binOp .xor 66 (.tmp 56) (.tmp 58) 66)) (fun _ => val_xor rfl rfl) ?_
 refine yA 2 59 ?_
 refine Sch.nil ?_
 refine rt1 Tryz.func37 Tryz.results37 ?_
 replace hT := ((hT.t s_1).t s_6).t s_7
 refine ⟨eq_int (by simp only [Dk.word, Dk.next, stir1, stir2, mix, hx]), hT.out2 (by decide), DeckAt.out (d := d.next) ?_ hT hF0 hbc⟩
 rw [hn]
 simp only [List.set_cons_succ, List.set_cons_zero] at hb
 replace hl := (hl.t s_6).t s_7
 refine ⟨by simp only; omega, vl, hl, ?_⟩
 simpa [mix, hx] using hb
namespace F15
def c0 := bodyOf Tryz.f15
end F15
theorem next_ok {w : World} {C : Nat → Nat} {i b : Nat} {d : Dk} {n : Int} (hF : Lim w C) (hi : i ≠ 0) (hd : DeckAt 68 w C i b d) (hlen : d.list.length ≤ 9223372036854775807) (hn63 : n ≤ 9223372036854775807) : Calls Tryz.prog 15 #[.pointer (some ⟨b, 0, none⟩), .int .i64 n] w (Ret fun v w' => v = .int .i64 (d.num n) ∧ Stp [i] w C w' C ∧ DeckAt 68 w' C i b (d.after n)) := by
 have hF0 := hF
 have hT := Stp.refl [i] w C
 refine c_st F15.c0 13 [.pointer (some ⟨b, 0, none⟩), .int .i64 n] Tryz.func15 ?_
 show Run _ _ _ _ [(0, .pointer (some ⟨b, 0, none⟩)), (1, .int .i64 n)] _ _
 refine run_sq (run_pl [yy 0] ?_)
 refine yAc 4 (.int .i64 0) ?_
 refine Sch.nil (run_sq (run_sq (run_pl [yy 0, yy 1] ?_)))
 refine yM 5 1 ?_
 refine yV (kq 6 (.binOp .lss 3 (.tmp 5) (.const (.int .i64 1)) 3)) (fun _ => val_lss rfl rfl) ?_
 refine Sch.nil ?_
 refine run_i 6 rfl (fun h6 => ?_) (fun h6 => ?_)
 ·
  have hn : d.num n = 0 := by unfold Dk.num; rw [if_pos (by omega)]
  have ha : d.after n = d := by unfold Dk.after; rw [if_pos (by omega)]
  refine run_sq (run_pl [yy 0] ?_)
  refine yAc 4 (.int .i64 0) ?_
  refine Sch.nil ?_
  refine rt1 Tryz.func15 Tryz.results15 ?_
  rw [ha, hn]
  exact ⟨rfl, hT, hd⟩
 have hn : d.num n = (d.word / 2) % n := by unfold Dk.num; rw [if_neg (by omega)]
 have ha : d.after n = d.next := by unfold Dk.after; rw [if_neg (by omega)]
 refine run_sk (run_sq (run_pl [yy 0, nn 1, yy 2, yy 3, yy 4, yy 5, yy 6] ?_))
 refine yM 7 0 ?_
 refine cG 8 37 [7] [28] Tryz.call37 rfl (word_ok hF0 hi hd hlen) ?_
 rintro vw1 w1 ⟨rfl, s_1, hd⟩
 have hwr := d.word_range
 refine yV (kq 9 (.binOp .shr 66 (.tmp 8) (.const (.int .u64 1)) 70)) (fun _ => val_shrE (r := d.word / 2) rfl rfl (by omega) (by show d.word.fdiv 2 = _; exact Int.fdiv_eq_ediv_of_nonneg _ (by decide))) ?_
 refine yV (kq 10 (.convert 66 3 (.tmp 9))) (fun _ => val_convE (r := d.word / 2) rfl ⟨_, Tryz.underlying66⟩ Tryz.underlying3 (wrap_i64 (by omega) (by omega))) ?_
 refine yM 11 1 ?_
 refine yV (kq 12 (.binOp .rem 3 (.tmp 10) (.tmp 11) 3)) (fun _ => val_modi rfl rfl (by omega) (by omega)) ?_
 refine yA 4 12 ?_
 refine Sch.nil ?_
 refine rt1 Tryz.func15 Tryz.results15 ?_
 rw [ha, hn]
 replace hT := hT.t s_1
 exact ⟨rfl, hT, hd⟩
end
end Go.Proofs.YtdmgmlmlielfbaaGreat
