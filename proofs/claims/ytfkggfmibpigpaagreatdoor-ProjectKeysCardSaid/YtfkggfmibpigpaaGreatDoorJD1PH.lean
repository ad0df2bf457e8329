/- Steps through functions of the program. -/
import Derived.Test.YtfkggfmibpigpaaGreatDoorRows
import Derived.Test.YtfkggfmibpigpaaGreatDoorL1
set_option linter.unusedVariables false
set_option linter.unusedSimpArgs false
set_option maxRecDepth 100000
set_option maxHeartbeats 400000
namespace Go.Proofs.YtfkggfmibpigpaaGreatDoor
open Go.K Go.K.Rep
theorem Tryz_mixed : Tryz.prog.follows .mixedOrders = true := Tryz.checked.mixed
namespace F5
noncomputable def c0 := bodyOf Tryz.f5
end F5
theorem few_ok (a : Option Addr) (l c : Nat) (w : World) : Calls Tryz.prog 5 #[.slice a l c] w (Ret fun v w' => v = .bool (decide ((l : Int) ≤ 400)) ∧ w' = w) := by
 refine calls_start (c := F5.c0) (N := 6) [.slice a l c] Tryz.func5 (by kernel_rfl) (by kernel_rfl) (by kernel_rfl) ?_
 show Run _ _ _ _ [(0, .slice a l c)] _ _
 refine run_sq ?_
 refine run_pl [yy 0] ?_
 refine yAc 2 (.bool false) ?_
 refine Sch.nil ?_
 refine run_sq ?_
 refine run_pl [yy 0, yy 1, yy 2, yy 3] ?_
 refine yM 3 0 ?_
 refine yV (kq 4 (.call { callee := .builtin .len, args := #[(.tmp 3)], argTypes := #[22] })) (fun _ => val_len_slice rfl Tryz.underlying22) ?_
 refine yV (kq 5 (.binOp .leq 3 (.tmp 4) (.const (.int .i64 400)) 3)) (fun _ => val_leq rfl rfl) ?_
 refine yA 2 5 ?_
 refine Sch.nil ?_
 refine run_ret1 (by kernel_rfl) Tryz.func5 Tryz.results5 rfl ?_
 exact ⟨rfl, rfl⟩
namespace F6
noncomputable def c0 := bodyOf Tryz.f6
end F6
theorem new_ok {w : World} {C : Nat → Nat} {l : List Int} {vl : Value} (hF : Lim w C) (hl : RV w (Mc C) l vl) : Calls Tryz.prog 6 #[vl] w (Ret fun v w' => ∃ C' b, v = .pointer (some ⟨b, 0, none⟩) ∧ Stp [] w C w' C' ∧ Lim w' C' ∧ DeckAt 54 w' C' 3 b ⟨l, 0, 11400714819323198485⟩) := by
 have hT := Stp.refl [] w C
 refine calls_start (c := F6.c0) (N := 6) [vl] Tryz.func6 (by kernel_rfl) (by kernel_rfl) (by kernel_rfl) ?_
 show Run _ _ _ _ [(0, vl)] _ _
 refine run_sq ?_
 refine run_pl [yy 0] ?_
 refine yV (kq 2 (.assign (.const (.pointer none)))) (fun _ => val_assign rfl) ?_
 refine Sch.nil ?_
 refine run_sq ?_
 refine run_pl [yy 0, yy 1, nn 2, yy 3] ?_
 refine yM 3 0 ?_
 refine yV (kq 4 (.build 54 #[(0, (.tmp 3)), (2, (.const (.int .u64 11400714819323198485)))])) (fun _ => val_build (zs := [.slice none 0 0, .int .i64 0, .int .u64 0]) (ps := [(0, 1), (1, 1), (2, 1)]) (qs := [(0, [vl]), (2, [.int .u64 11400714819323198485])]) (cs := [vl, .int .i64 0, .int .u64 11400714819323198485]) (by kernel_rfl) (by kernel_rfl) ⟨rfl, ⟨_, rfl, (hl.one rfl).1⟩, rfl, ⟨_, rfl, rfl⟩, trivial⟩ rfl) ?_
 refine aS (kq 5 (.box 54 (.tmp 4))) rfl rfl (a_box (cs := [vl, .int .i64 0, .int .u64 11400714819323198485]) hF 3 rfl rfl) ?_
 rintro _ w1 ⟨Cw1, bw1, rfl, hs, hb, hF⟩
 refine ⟨trivial, ?_⟩
 replace hl := hl.t hs; replace hT := hT.t hs
 refine yA 2 5 ?_
 refine Sch.nil ?_
 refine run_ret1 (by kernel_rfl) Tryz.func6 Tryz.results6 rfl ?_
 exact ⟨_, _, rfl, hT, hF, Nat.zero_le _, vl, hl, hb⟩
namespace F19
noncomputable def c0 := bodyOf Tryz.f19
noncomputable def o2 := rops (cl (cl (cr (cr c0))))
noncomputable def c8 := (cl (cr (cl (cr (cr c0)))))
noncomputable def o3 := rops (cl c8)
noncomputable def c15 := (cl (cr (cr (cr (cr c0)))))
noncomputable def o6 := rops c15
end F19
theorem word_ok {w : World} {C : Nat → Nat} {i b : Nat} {d : Dk} (hF : Lim w C) (hi : i ≠ 0) (hd : DeckAt 54 w C i b d) (hlen : d.list.length ≤ 9223372036854775807) : Calls Tryz.prog 19 #[.pointer (some ⟨b, 0, none⟩)] w (Ret fun v w' => v = .int .u64 d.word ∧ Stp [i] w C w' C ∧ DeckAt 54 w' C i b d.next) := by
 obtain ⟨hat, vl, hl, hb⟩ := hd.col2 hi
 have hbc : C b = i := by obtain ⟨_, _, _, h⟩ := hd; exact h.col
 have hF0 := hF
 replace hF := hF.col2 i
 have hT := Stp.refl [2, 3, 4, 5, 6, 7, 8, 9] w (col2 C i)
 refine calls_start (c := F19.c0) (N := 60) [.pointer (some ⟨b, 0, none⟩)] Tryz.func19 (by kernel_rfl) (by kernel_rfl) (by kernel_rfl) ?_
 show Run _ _ _ _ [(0, .pointer (some ⟨b, 0, none⟩))] _ _
 refine run_sq ?_
 refine run_pl [yy 0] ?_
 refine yAc 2 (.int .u64 0) ?_
 refine Sch.nil ?_
 refine run_sq ?_
 refine run_pl [yy 0] ?_
 refine yAc 3 (.int .u64 0) ?_
 refine Sch.nil ?_
 refine run_sq ?_
 refine run_sq ?_
 refine run_draw (id := 2) (ops := F19.o2) [] (col2 C i) [yy 0, yy 1, yy 2, yy 3, yy 4, yy 5, yy 6, yy 7, yy 8, yy 9] Tryz_mixed (by kernel_rfl) (by kernel_rfl) (by kernel_rfl) ?_
 intro w1 hs
 replace hl := hl.t hs; replace hb := hb.t hs
 replace hF := hF.st hs
 replace hT := hT.t hs
 refine yM 5 0 ?_
 refine yN 6 5 ?_
 refine yF 7 54 6 1 1 ?_
 refine yS (kq 8 (.load 3 (.tmp 7))) rfl rfl (fun w' hS => val_loadOwn (hb.sy hS) (by kernel_rfl) rfl rfl) ?_
 refine yM 9 0 ?_
 refine yN 10 9 ?_
 refine yF 11 54 10 0 0 ?_
 refine yS (kq 12 (.load 22 (.tmp 11))) rfl rfl (fun w' hS => val_loadOwn (hb.sy hS) (by kernel_rfl) rfl rfl) ?_
 refine yS (kq 13 (.call { callee := .builtin .len, args := #[(.tmp 12)], argTypes := #[22] })) rfl rfl (fun w' hS => hl.lenV rfl Tryz.underlying22 w' ) ?_
 refine yV (kq 14 (.binOp .lss 3 (.tmp 8) (.tmp 13) 3)) (fun _ => val_lss rfl rfl) ?_
 refine Sch.nil ?_
 refine run_i 14 rfl (fun h14 => ?_) (fun h14 => ?_)
 ·
  have hx : d.x = IntKind.u64.wrap d.list[d.at_] := by unfold Dk.x; rw [dif_pos (by omega)]
  have hn : d.next = ⟨d.list, d.at_ + 1, mix d.state d.x⟩ := by unfold Dk.next; rw [if_pos (by omega)]
  refine run_sq ?_
  refine run_draw (id := 3) (ops := F19.o3) [] (col2 C i) [yy 0, yy 1, yy 2, yy 3, yy 4, yy 5, yy 6, yy 7, yy 8, yy 9, yy 10, yy 11] Tryz_mixed (by kernel_rfl) (by kernel_rfl) (by kernel_rfl) ?_
  intro w2 hs
  replace hl := hl.t hs; replace hb := hb.t hs
  replace hF := hF.st hs
  replace hT := hT.t hs
  refine yM 15 0 ?_
  refine yN 16 15 ?_
  refine yF 17 54 16 0 0 ?_
  refine yS (kq 18 (.load 22 (.tmp 17))) rfl rfl (fun w' hS => val_loadOwn (hb.sy hS) (by kernel_rfl) rfl rfl) ?_
  refine yM 19 0 ?_
  refine yN 20 19 ?_
  refine yF 21 54 20 1 1 ?_
  refine yS (kq 22 (.load 3 (.tmp 21))) rfl rfl (fun w' hS => val_loadOwn (hb.sy hS) (by kernel_rfl) rfl rfl) ?_
  refine iS (e := 3) (kq 23 (.indexAddr 22 (.tmp 18) (.tmp 22))) rfl rfl hl rfl (by kernel_rfl) rfl (by omega) (by omega) ?_
  intro b23 o23 h23
  try simp only [Int.toNat_natCast] at h23
  refine lS (kq 24 (.load 3 (.tmp 23))) rfl rfl (fun w' hS => h23.sy hS) h23 (by kernel_rfl) rfl rfl ?_
  intro v24 g24
  first | (obtain rfl := rv_nat.1 g24) | (obtain rfl := rv_int.1 g24)
  refine yV (kq 25 (.convert 3 27 (.tmp 24))) (fun _ => val_conv_int rfl ⟨_, Tryz.underlying3⟩ Tryz.underlying27) ?_
  refine yA 3 25 ?_
  refine Sch.nil ?_
  refine run_pl [yy 0, yy 1, yy 2, nn 3, yy 4, yy 5, yy 6, nn 7] ?_
  refine yM 26 0 ?_
  refine yN 27 26 ?_
  refine yF 28 54 27 1 1 ?_
  refine nS (kq 29 (.load 3 (.tmp 28))) rfl rfl trivial (val_loadOwn hb.at_ (by kernel_rfl) rfl rfl) ?_
  refine yV (kq 30 (.binOp .add 3 (.tmp 29) (.const (.int .i64 1)) 3)) (fun _ => val_addi rfl rfl (by omega) (by omega)) ?_
  refine yN 31 26 ?_
  refine yF 32 54 31 1 1 ?_
  refine aN (k0 (.store 3 (.tmp 32) (.tmp 30))) rfl (a_store1 rfl rfl (by kernel_rfl) rfl rfl hb (by simp)) ?_
  rintro _ w3 ⟨rfl, hs, hb⟩
  refine ⟨trivial, ?_⟩
  replace hl := hl.t hs
  replace hF := hF.st hs
  replace hT := hT.t hs; replace h23 := h23.t hs
  refine Sch.nil ?_
  refine run_sq ?_
  refine run_pl [yy 0, yy 1, yy 2, yy 3, nn 4, yy 5, yy 6, yy 7, yy 8, yy 9, yy 10, nn 11] ?_
  refine yM 33 0 ?_
  refine yM 34 0 ?_
  refine yN 35 34 ?_
  refine yF 36 54 35 2 2 ?_
  refine nS (kq 37 (.load 27 (.tmp 36))) rfl rfl trivial (val_loadOwn hb.at_ (by kernel_rfl) rfl rfl) ?_
  refine yM 38 3 ?_
  refine yV (kq 39 (.binOp .add 27 (.tmp 37) (.tmp 38) 27)) (fun _ => val_add rfl rfl) ?_
  refine yV (kq 40 (.binOp .mul 27 (.tmp 39) (.const (.int .u64 6364136223846793005)) 27)) (fun _ => val_mul rfl rfl) ?_
  refine yV (kq 41 (.binOp .add 27 (.tmp 40) (.const (.int .u64 1442695040888963407)) 27)) (fun _ => val_add rfl rfl) ?_
  refine yN 42 33 ?_
  refine yF 43 54 42 2 2 ?_
  refine aN (k0 (.store 27 (.tmp 43) (.tmp 41))) rfl (a_store1 rfl rfl (by kernel_rfl) rfl rfl hb (by simp)) ?_
  rintro _ w4 ⟨rfl, hs, hb⟩
  refine ⟨trivial, ?_⟩
  replace hl := hl.t hs
  replace hF := hF.st hs
  replace hT := hT.t hs; replace h23 := h23.t hs
  refine Sch.nil ?_
  refine run_sq ?_
  refine run_draw (id := 6) (ops := F19.o6) [] (col2 C i) [yy 0, yy 1, yy 2, yy 3, yy 4, yy 5, yy 6, yy 7, yy 8, yy 9, yy 10] Tryz_mixed (by kernel_rfl) (by kernel_rfl) (by kernel_rfl) ?_
  intro w5 hs
  replace hl := hl.t hs; replace hb := hb.t hs
  replace hF := hF.st hs
  replace hT := hT.t hs; replace h23 := h23.t hs
  refine yM 44 0 ?_
  refine yN 45 44 ?_
  refine yF 46 54 45 2 2 ?_
  refine yS (kq 47 (.load 27 (.tmp 46))) rfl rfl (fun w' hS => val_loadOwn (hb.sy hS) (by kernel_rfl) rfl rfl) ?_
  refine yM 48 0 ?_
  refine yN 49 48 ?_
  refine yF 50 54 49 2 2 ?_
  refine yS (kq 51 (.load 27 (.tmp 50))) rfl rfl (fun w' hS => val_loadOwn (hb.sy hS) (by kernel_rfl) rfl rfl) ?_
  refine yV (kq 52 (.binOp .shr 27 (.tmp 51) (.const (.int .u64 33)) 58)) (fun _ => val_shr rfl rfl (by omega)) ?_
  refine yV (kq 53 (.binOp .xor 27 (.tmp 47) (.tmp 52) 27)) (fun _ => val_xor rfl rfl) ?_
  refine yA 4 53 ?_
  refine Sch.nil ?_
  refine run_sq ?_
  refine run_pl [yy 0, yy 1, yy 2] ?_
  refine yM 54 4 ?_
  refine yV (kq 55 (.binOp .mul 27 (.tmp 54) (.const (.int .u64 18397679294719823053)) 27)) (fun _ => val_mul rfl rfl) ?_
  refine yA 4 55 ?_
  refine Sch.nil ?_
  refine run_sq ?_
  refine run_pl [yy 0, yy 1, yy 2, yy 3, yy 4] ?_
  refine yM 56 4 ?_
  refine yM 57 4 ?_
  refine yV (kq 58 (.binOp .shr 27 (.tmp 57) (.const (.int .u64 29)) 58)) (fun _ => val_shr rfl rfl (by omega)) ?_
  refine yV (kq 59 (.binOp .xor 27 (.tmp 56) (.tmp 58) 27)) (fun _ => val_xor rfl rfl) ?_
  refine yA 2 59 ?_
  refine Sch.nil ?_
  refine run_ret1 (by kernel_rfl) Tryz.func19 Tryz.results19 rfl ?_
  refine ⟨eq_int (by simp only [Dk.word, Dk.next, stir1, stir2, mix, hx]), hT.out2 (by decide), DeckAt.out (d := d.next) ?_ hT hF0 hbc⟩
  rw [hn]
  simp only [List.set_cons_succ, List.set_cons_zero] at hb
  refine ⟨by simp only; omega, vl, hl, ?_⟩
  simpa [mix, hx] using hb
 ·
  have hx : d.x = 0 := by unfold Dk.x; rw [dif_neg (by omega)]
  have hn : d.next = ⟨d.list, d.at_, mix d.state d.x⟩ := by unfold Dk.next; rw [if_neg (by omega)]
  refine run_sk ?_
  refine run_sq ?_
  refine run_pl [yy 0, yy 1, yy 2, yy 3, nn 4, yy 5, yy 6, yy 7, yy 8, yy 9, yy 10, nn 11] ?_
  refine yM 33 0 ?_
  refine yM 34 0 ?_
  refine yN 35 34 ?_
  refine yF 36 54 35 2 2 ?_
  refine nS (kq 37 (.load 27 (.tmp 36))) rfl rfl trivial (val_loadOwn hb.at_ (by kernel_rfl) rfl rfl) ?_
  refine yM 38 3 ?_
  refine yV (kq 39 (.binOp .add 27 (.tmp 37) (.tmp 38) 27)) (fun _ => val_add rfl rfl) ?_
  refine yV (kq 40 (.binOp .mul 27 (.tmp 39) (.const (.int .u64 6364136223846793005)) 27)) (fun _ => val_mul rfl rfl) ?_
  refine yV (kq 41 (.binOp .add 27 (.tmp 40) (.const (.int .u64 1442695040888963407)) 27)) (fun _ => val_add rfl rfl) ?_
  refine yN 42 33 ?_
  refine yF 43 54 42 2 2 ?_
  refine aN (k0 (.store 27 (.tmp 43) (.tmp 41))) rfl (a_store1 rfl rfl (by kernel_rfl) rfl rfl hb (by simp)) ?_
  rintro _ w6 ⟨rfl, hs, hb⟩
  refine ⟨trivial, ?_⟩
  replace hl := hl.t hs
  replace hF := hF.st hs
  replace hT := hT.t hs
  refine Sch.nil ?_
  refine run_sq ?_
  refine run_draw (id := 6) (ops := F19.o6) [] (col2 C i) [yy 0, yy 1, yy 2, yy 3, yy 4, yy 5, yy 6, yy 7, yy 8, yy 9, yy 10] Tryz_mixed (by kernel_rfl) (by kernel_rfl) (by kernel_rfl) ?_
  intro w7 hs
  replace hl := hl.t hs; replace hb := hb.t hs
  replace hF := hF.st hs
  replace hT := hT.t hs
  refine yM 44 0 ?_
  refine yN 45 44 ?_
  refine yF 46 54 45 2 2 ?_
  refine yS (kq 47 (.load 27 (.tmp 46))) rfl rfl (fun w' hS => val_loadOwn (hb.sy hS) (by kernel_rfl) rfl rfl) ?_
  refine yM 48 0 ?_
  refine yN 49 48 ?_
  refine yF 50 54 49 2 2 ?_
  refine yS (kq 51 (.load 27 (.tmp 50))) rfl rfl (fun w' hS => val_loadOwn (hb.sy hS) (by kernel_rfl) rfl rfl) ?_
  refine yV (kq 52 (.binOp .shr 27 (.tmp 51) (.const (.int .u64 33)) 58)) (fun _ => val_shr rfl rfl (by omega)) ?_
  refine yV (kq 53 (.binOp .xor 27 (.tmp 47) (.tmp 52) 27)) (fun _ => val_xor rfl rfl) ?_
  refine yA 4 53 ?_
  refine Sch.nil ?_
  refine run_sq ?_
  refine run_pl [yy 0, yy 1, yy 2] ?_
  refine yM 54 4 ?_
  refine yV (kq 55 (.binOp .mul 27 (.tmp 54) (.const (.int .u64 18397679294719823053)) 27)) (fun _ => val_mul rfl rfl) ?_
  refine yA 4 55 ?_
  refine Sch.nil ?_
  refine run_sq ?_
  refine run_pl [yy 0, yy 1, yy 2, yy 3, yy 4] ?_
  refine yM 56 4 ?_
  refine yM 57 4 ?_
  refine yV (kq 58 (.binOp .shr 27 (.tmp 57) (.const (.int .u64 29)) 58)) (fun _ => val_shr rfl rfl (by omega)) ?_
  refine yV (kq 59 (.binOp .xor 27 (.tmp 56) (.tmp 58) 27)) (fun _ => val_xor rfl rfl) ?_
  refine yA 2 59 ?_
  refine Sch.nil ?_
  refine run_ret1 (by kernel_rfl) Tryz.func19 Tryz.results19 rfl ?_
  refine ⟨eq_int (by simp only [Dk.word, Dk.next, stir1, stir2, mix, hx]), hT.out2 (by decide), DeckAt.out (d := d.next) ?_ hT hF0 hbc⟩
  rw [hn]
  simp only [List.set_cons_succ, List.set_cons_zero] at hb
  refine ⟨by simp only; omega, vl, hl, ?_⟩
  simpa [mix, hx] using hb
namespace F8
noncomputable def c0 := bodyOf Tryz.f8
end F8
theorem next_ok {w : World} {C : Nat → Nat} {i b : Nat} {d : Dk} {n : Int} (hF : Lim w C) (hi : i ≠ 0) (hd : DeckAt 54 w C i b d) (hlen : d.list.length ≤ 9223372036854775807) (hn63 : n ≤ 9223372036854775807) : Calls Tryz.prog 8 #[.pointer (some ⟨b, 0, none⟩), .int .i64 n] w (Ret fun v w' => v = .int .i64 (d.num n) ∧ Stp [i] w C w' C ∧ DeckAt 54 w' C i b (d.after n)) := by
 have hF0 := hF
 have hT := Stp.refl [i] w C
 refine calls_start (c := F8.c0) (N := 13) [.pointer (some ⟨b, 0, none⟩), .int .i64 n] Tryz.func8 (by kernel_rfl) (by kernel_rfl) (by kernel_rfl) ?_
 show Run _ _ _ _ [(0, .pointer (some ⟨b, 0, none⟩)), (1, .int .i64 n)] _ _
 refine run_sq ?_
 refine run_pl [yy 0] ?_
 refine yAc 4 (.int .i64 0) ?_
 refine Sch.nil ?_
 refine run_sq ?_
 refine run_sq ?_
 refine run_pl [yy 0, yy 1] ?_
 refine yM 5 1 ?_
 refine yV (kq 6 (.binOp .lss 3 (.tmp 5) (.const (.int .i64 1)) 3)) (fun _ => val_lss rfl rfl) ?_
 refine Sch.nil ?_
 refine run_i 6 rfl (fun h6 => ?_) (fun h6 => ?_)
 ·
  have hn : d.num n = 0 := by unfold Dk.num; rw [if_pos (by omega)]
  have ha : d.after n = d := by unfold Dk.after; rw [if_pos (by omega)]
  refine run_sq ?_
  refine run_pl [yy 0] ?_
  refine yAc 4 (.int .i64 0) ?_
  refine Sch.nil ?_
  refine run_ret1 (by kernel_rfl) Tryz.func8 Tryz.results8 rfl ?_
  rw [ha, hn]
  exact ⟨rfl, hT, hd⟩
 ·
  have hn : d.num n = (d.word / 2) % n := by unfold Dk.num; rw [if_neg (by omega)]
  have ha : d.after n = d.next := by unfold Dk.after; rw [if_neg (by omega)]
  refine run_sk ?_
  refine run_sq ?_
  refine run_pl [yy 0, nn 1, yy 2, yy 3, yy 4, yy 5, yy 6] ?_
  refine yM 7 0 ?_
  refine cS (kq 8 (.call { callee := .value (.func 19), args := #[(.tmp 7)], argTypes := #[25] })) rfl rfl (ent Tryz.call19 rfl) (word_ok hF0 hi hd hlen) ?_
  rintro vw1 w1 ⟨rfl, hs, hd⟩
  refine ⟨trivial, ?_⟩
  replace hT := hT.t hs
  have hwr := d.word_range
  refine yV (kq 9 (.binOp .shr 27 (.tmp 8) (.const (.int .u64 1)) 58)) (fun _ => val_shrE (r := d.word / 2) rfl rfl (by omega) (by show d.word.fdiv 2 = _; exact Int.fdiv_eq_ediv_of_nonneg _ (by decide))) ?_
  refine yV (kq 10 (.convert 27 3 (.tmp 9))) (fun _ => val_convE (r := d.word / 2) rfl ⟨_, Tryz.underlying27⟩ Tryz.underlying3 (wrap_i64 (by omega) (by omega))) ?_
  refine yM 11 1 ?_
  refine yV (kq 12 (.binOp .rem 3 (.tmp 10) (.tmp 11) 3)) (fun _ => val_modi rfl rfl (by omega) (by omega)) ?_
  refine yA 4 12 ?_
  refine Sch.nil ?_
  refine run_ret1 (by kernel_rfl) Tryz.func8 Tryz.results8 rfl ?_
  rw [ha, hn]
  exact ⟨rfl, hT, hd⟩
end Go.Proofs.YtfkggfmibpigpaaGreatDoor

/- Steps through functions of the program. -/
set_option linter.unusedVariables false
set_option linter.unusedSimpArgs false
set_option maxRecDepth 100000
set_option maxHeartbeats 4000000
namespace Go.Proofs.YtfkggfmibpigpaaGreatDoor
open Go.K Go.K.Rep
namespace F61
noncomputable def c0 := bodyOf Tryz.f61
end F61
theorem greyRef_ok {w₀ : World} {C : Nat → Nat} {x : Couple} (hF : Lim w₀ C) : Calls Tryz.prog 61 #[.agg #[.int .i64 x.a, .int .i64 x.b]] w₀ (Ret fun v w' => v = .bool (refOK x) ∧ Stp [] w₀ C w' C) := by
 have hF0 := hF
 have hT := Stp.refl [2, 3, 4, 5, 6, 7, 8, 9] w₀ (col1 C)
 replace hF := hF.col1
 refine calls_start (c := F61.c0) (N := 21) [.agg #[.int .i64 x.a, .int .i64 x.b]] Tryz.func61 (by kernel_rfl) (by kernel_rfl) (by kernel_rfl) ?_
 show Run _ _ _ _ [(0, .agg #[.int .i64 x.a, .int .i64 x.b])] _ _
 refine run_sq ?_
 refine run_pl [nn 0, yy 1] ?_
 refine aS (kq 1 (.box 35 (.tmp 0))) rfl rfl (a_box (cs := [.int .i64 x.a, .int .i64 x.b]) hF 3 rfl rfl) ?_
 rintro _ w1 ⟨Cw1, bw1, rfl, hs, hx, hF⟩
 refine ⟨trivial, ?_⟩
 replace hT := hT.t hs
 refine yAc 2 (.bool false) ?_
 refine Sch.nil ?_
 refine kp (sub_cons 1 rfl rfl (sub_nil _)) ?_
 refine run_sq ?_
 refine run_cut 2 (refOK x) (Cw1) ?_ ?_
 ·
  intro hcut
  by_cases hA : 0 ≤ x.a
  ·
   by_cases hB : x.a < 4
   ·
    by_cases hC : 1 ≤ x.b
    ·
     refine run_pl [yy 0, nn 1, yy 2, yy 3, yy 4, nn 5, yy 6, yy 7, yy 8, yy 9, nn 10, yy 11, yy 12, yy 13, yy 14, nn 15, yy 16, yy 17, yy 18] ?_
     refine yF 3 35 1 0 0 ?_
     refine nS (kq 4 (.load 3 (.tmp 3))) rfl rfl trivial (val_loadOwn hx.at_ (by kernel_rfl) rfl rfl) ?_
     refine yV (kq 5 (.binOp .geq 3 (.tmp 4) (.const (.int .i64 0)) 3)) (fun _ => val_T (val_geq rfl rfl) hA) ?_
     refine yM 6 5 ?_
     refine yFg 7 35 1 0 0 3 true ?_
     refine nS (kg 8 (.load 3 (.tmp 7)) 3 true) rfl rfl trivial (val_loadOwn hx.at_ (by kernel_rfl) rfl rfl) ?_
     refine yV (kg 9 (.binOp .lss 3 (.tmp 8) (.const (.int .i64 4)) 3) 3 true) (fun _ => val_T (val_lss rfl rfl) hB) ?_
     refine yAt 10 6 9 ?_
     refine yM 11 10 ?_
     refine yFg 12 35 1 1 1 8 true ?_
     refine nS (kg 13 (.load 3 (.tmp 12)) 8 true) rfl rfl trivial (val_loadOwn hx.at_ (by kernel_rfl) rfl rfl) ?_
     refine yV (kg 14 (.binOp .geq 3 (.tmp 13) (.const (.int .i64 1)) 3) 8 true) (fun _ => val_T (val_geq rfl rfl) hC) ?_
     refine yAt 15 11 14 ?_
     refine yM 16 15 ?_
     refine yFg 17 35 1 1 1 13 true ?_
     refine nS (kg 18 (.load 3 (.tmp 17)) 13 true) rfl rfl trivial (val_loadOwn hx.at_ (by kernel_rfl) rfl rfl) ?_
     refine yV (kg 19 (.binOp .leq 3 (.tmp 18) (.const (.int .i64 1048576)) 3) 13 true) (fun _ => val_leq rfl rfl) ?_
     refine yAt 20 16 19 ?_
     refine yA 2 20 ?_
     exact Sch.nil (hcut _ _ _ (Stp.refl _ _ _) rfl (by unfold refOK; rw [decide_eq_true hA, decide_eq_true hB, decide_eq_true hC]; rfl) (sk 19))
    ·
     refine run_pl [yy 0, nn 1, yy 2, yy 3, yy 4, nn 5, yy 6, yy 7, yy 8, yy 9, nn 10, yy 11, yy 12, yy 13, yy 14, nn 15, yy 16, yy 17, yy 18] ?_
     refine yF 3 35 1 0 0 ?_
     refine nS (kq 4 (.load 3 (.tmp 3))) rfl rfl trivial (val_loadOwn hx.at_ (by kernel_rfl) rfl rfl) ?_
     refine yV (kq 5 (.binOp .geq 3 (.tmp 4) (.const (.int .i64 0)) 3)) (fun _ => val_T (val_geq rfl rfl) hA) ?_
     refine yM 6 5 ?_
     refine yFg 7 35 1 0 0 3 true ?_
     refine nS (kg 8 (.load 3 (.tmp 7)) 3 true) rfl rfl trivial (val_loadOwn hx.at_ (by kernel_rfl) rfl rfl) ?_
     refine yV (kg 9 (.binOp .lss 3 (.tmp 8) (.const (.int .i64 4)) 3) 3 true) (fun _ => val_T (val_lss rfl rfl) hB) ?_
     refine yAt 10 6 9 ?_
     refine yM 11 10 ?_
     refine yFg 12 35 1 1 1 8 true ?_
     refine nS (kg 13 (.load 3 (.tmp 12)) 8 true) rfl rfl trivial (val_loadOwn hx.at_ (by kernel_rfl) rfl rfl) ?_
     refine yV (kg 14 (.binOp .geq 3 (.tmp 13) (.const (.int .i64 1)) 3) 8 true) (fun _ => val_F (val_geq rfl rfl) hC) ?_
     refine yAt 15 11 14 ?_
     refine yM 16 15 ?_
     refine pX 17 13 true ?_
     refine pW (kg 18 (.load 3 (.tmp 17)) 13 true) rfl rfl trivial ?_
     refine pX 19 13 true ?_
     refine yAf 20 16 19 ?_
     refine yA 2 20 ?_
     exact Sch.nil (hcut _ _ _ (Stp.refl _ _ _) rfl (by unfold refOK; rw [decide_eq_true hA, decide_eq_true hB, decide_eq_false hC]; rfl) (sk 19))
   ·
    refine run_pl [yy 0, nn 1, yy 2, yy 3, yy 4, nn 5, yy 6, yy 7, yy 8, yy 9, nn 10, yy 11, yy 12, yy 13, yy 14, nn 15, yy 16, yy 17, yy 18] ?_
    refine yF 3 35 1 0 0 ?_
    refine nS (kq 4 (.load 3 (.tmp 3))) rfl rfl trivial (val_loadOwn hx.at_ (by kernel_rfl) rfl rfl) ?_
    refine yV (kq 5 (.binOp .geq 3 (.tmp 4) (.const (.int .i64 0)) 3)) (fun _ => val_T (val_geq rfl rfl) hA) ?_
    refine yM 6 5 ?_
    refine yFg 7 35 1 0 0 3 true ?_
    refine nS (kg 8 (.load 3 (.tmp 7)) 3 true) rfl rfl trivial (val_loadOwn hx.at_ (by kernel_rfl) rfl rfl) ?_
    refine yV (kg 9 (.binOp .lss 3 (.tmp 8) (.const (.int .i64 4)) 3) 3 true) (fun _ => val_F (val_lss rfl rfl) hB) ?_
    refine yAt 10 6 9 ?_
    refine yM 11 10 ?_
    refine pX 12 8 true ?_
    refine pW (kg 13 (.load 3 (.tmp 12)) 8 true) rfl rfl trivial ?_
    refine pX 14 8 true ?_
    refine yAf 15 11 14 ?_
    refine yM 16 15 ?_
    refine pX 17 13 true ?_
    refine pW (kg 18 (.load 3 (.tmp 17)) 13 true) rfl rfl trivial ?_
    refine pX 19 13 true ?_
    refine yAf 20 16 19 ?_
    refine yA 2 20 ?_
    exact Sch.nil (hcut _ _ _ (Stp.refl _ _ _) rfl (by unfold refOK; rw [decide_eq_true hA, decide_eq_false hB]; rfl) (sk 19))
  ·
   refine run_pl [yy 0, nn 1, yy 2, yy 3, yy 4, nn 5, yy 6, yy 7, yy 8, yy 9, nn 10, yy 11, yy 12, yy 13, yy 14, nn 15, yy 16, yy 17, yy 18] ?_
   refine yF 3 35 1 0 0 ?_
   refine nS (kq 4 (.load 3 (.tmp 3))) rfl rfl trivial (val_loadOwn hx.at_ (by kernel_rfl) rfl rfl) ?_
   refine yV (kq 5 (.binOp .geq 3 (.tmp 4) (.const (.int .i64 0)) 3)) (fun _ => val_F (val_geq rfl rfl) hA) ?_
   refine yM 6 5 ?_
   refine pX 7 3 true ?_
   refine pW (kg 8 (.load 3 (.tmp 7)) 3 true) rfl rfl trivial ?_
   refine pX 9 3 true ?_
   refine yAf 10 6 9 ?_
   refine yM 11 10 ?_
   refine pX 12 8 true ?_
   refine pW (kg 13 (.load 3 (.tmp 12)) 8 true) rfl rfl trivial ?_
   refine pX 14 8 true ?_
   refine yAf 15 11 14 ?_
   refine yM 16 15 ?_
   refine pX 17 13 true ?_
   refine pW (kg 18 (.load 3 (.tmp 17)) 13 true) rfl rfl trivial ?_
   refine pX 19 13 true ?_
   refine yAf 20 16 19 ?_
   refine yA 2 20 ?_
   exact Sch.nil (hcut _ _ _ (Stp.refl _ _ _) rfl (by unfold refOK; rw [decide_eq_false hA]; rfl) (sk 19))
 intro w2 hs
 replace hF := hF.st hs
 replace hT := hT.t hs; replace hx := hx.t hs
 refine run_ret1 (by kernel_rfl) Tryz.func61 Tryz.results61 rfl ?_
 exact ⟨rfl, hT.out1 (by decide)⟩
namespace F38
noncomputable def c0 := bodyOf Tryz.f38
end F38
theorem regs_ok {w₀ : World} {M : Nat → Prop} {l : List Int} {vl : Value} (hl : RV w₀ M l vl) (hR : RgsOK l) : Calls Tryz.prog 38 #[vl] w₀ (Ret fun v w' => v = .bool true ∧ w' = w₀) := by
 refine calls_start (c := F38.c0) (N := 35) [vl] Tryz.func38 (by kernel_rfl) (by kernel_rfl) (by kernel_rfl) ?_
 show Run _ _ _ _ [(0, vl)] _ _
 refine run_sq ?_
 refine run_pl [yy 0] ?_
 refine yAc 2 (.bool false) ?_
 refine Sch.nil ?_
 refine run_sq ?_
 refine run_sq ?_
 refine run_pl [yy 0, yy 1, yy 2] ?_
 refine yM 5 0 ?_
 refine yS (kq 6 (.call { callee := .builtin .len, args := #[(.tmp 5)], argTypes := #[22] })) rfl rfl (fun w' hS => hl.lenV rfl Tryz.underlying22 w' ) ?_
 refine yV (kq 7 (.move (.const (.int .i64 0)))) (fun _ => val_move rfl) ?_
 refine Sch.nil ?_
 refine run_bk 0 ?_
 
 refine run_lp (ι := Nat) (I := fun x w => x ≤ l.length ∧ w = w₀) (e := fun x => [(0, vl), (5, vl), (6, .int .i64 l.length), (7, .int .i64 x)]) (m := fun x => l.length - x) (x₀ := 0) (sr 0 (sr 5 (sr 6 (sr 7 (sub_nil _))))) ?_ ?_
 · exact ⟨Nat.zero_le _, rfl⟩
 intro k w1 hI next
 obtain ⟨hk, rfl⟩ := hI
 try simp only at hk
 have next1 := next
 clear next
 show Run _ _ _ _ [(0, vl), (5, vl), (6, .int .i64 l.length), (7, .int .i64 k)] _ _
 have hle := hl.le
 refine run_sq ?_
 refine run_pl [yy 0] ?_
 refine yV (kq 8 (.binOp .lss 3 (.tmp 7) (.tmp 6) 3)) (fun _ => val_lss rfl rfl) ?_
 refine Sch.nil ?_
 refine run_sq ?_
 refine run_i 8 rfl (fun h8 => ?_) (fun h8 => ?_)
 ·
  have hkl : k < l.length := by omega
  have hok := hR.ok k hkl
  refine run_sk ?_
  refine run_sq ?_
  refine run_bk 1 ?_
  refine run_sq ?_
  refine run_pl [yy 0, yy 1, nn 2, yy 3, yy 4] ?_
  refine yM 9 7 ?_
  refine iS (e := 3) (kq 10 (.indexAddr 22 (.tmp 5) (.tmp 7))) rfl rfl hl rfl (by kernel_rfl) rfl (by omega) (by omega) ?_
  intro b10 o10 h10
  try simp only [Int.toNat_natCast] at h10
  refine lN (kq 11 (.load 3 (.tmp 10))) rfl rfl trivial h10 (by kernel_rfl) rfl rfl ?_
  intro v11 g11
  first | (obtain rfl := rv_nat.1 g11) | (obtain rfl := rv_int.1 g11)
  refine yA 3 9 ?_
  refine yA 4 11 ?_
  refine Sch.nil ?_
  refine run_sq ?_
  by_cases hk0 : (0 : Int) < k
  ·
   refine run_pl [yy 0, yy 1, yy 2, yy 3, yy 4, yy 5, yy 6, yy 7, yy 8, yy 9, yy 10, yy 11, yy 12, yy 13, nn 14, yy 15, yy 16, yy 17, yy 18] ?_
   have hasc := hR.asc k hkl (by omega)
   refine yM 12 4 ?_
   refine yV (kq 13 (.binOp .lss 3 (.tmp 12) (.const (.int .i64 0)) 3)) (fun _ => val_is (val_lss rfl rfl) (show _ = Value.bool false from congrArg Value.bool (decide_eq_false (by omega)))) ?_
   refine yM 14 13 ?_
   refine yMg 15 4 2 false ?_
   refine yV (kg 16 (.binOp .geq 3 (.tmp 15) (.const (.int .i64 4)) 3) 2 false) (fun _ => val_is (val_geq rfl rfl) (show _ = Value.bool false from congrArg Value.bool (decide_eq_false (by omega)))) ?_
   refine yOf 17 14 16 ?_
   refine yM 18 17 ?_
   refine yMg 19 3 6 false ?_
   refine yV (kg 20 (.binOp .gtr 3 (.tmp 19) (.const (.int .i64 0)) 3) 6 false) (fun _ => val_T (val_gtr rfl rfl) hk0) ?_
   refine yMg 21 20 6 false ?_
   refine yMg 22 0 9 true ?_
   refine yMg 23 3 9 true ?_
   refine yV (kg 24 (.binOp .sub 3 (.tmp 23) (.const (.int .i64 1)) 3) 9 true) (fun _ => val_subi rfl rfl (by omega) (by omega)) ?_
   refine iS (e := 3) (kg 25 (.indexAddr 22 (.tmp 22) (.tmp 24)) 9 true) rfl rfl hl rfl (by kernel_rfl) rfl (by omega) (by omega) ?_
   intro b25 o25 h25
   try simp only [Int.toNat_natCast] at h25
   refine lN (kg 26 (.load 3 (.tmp 25)) 9 true) rfl rfl trivial h25 (by kernel_rfl) rfl rfl ?_
   intro v26 g26
   first | (obtain rfl := rv_nat.1 g26) | (obtain rfl := rv_int.1 g26)
   try simp only [show ((k : Int) - 1).toNat = k - 1 from by omega] at *
   refine yMg 27 4 9 true ?_
   refine yV (kg 28 (.binOp .geq 3 (.tmp 26) (.tmp 27) 3) 9 true) (fun _ => val_is (val_geq rfl rfl) (show _ = Value.bool false from congrArg Value.bool (decide_eq_false (by first | omega | (simp only [show ((k : Int) - 1).toNat = k - 1 from by omega]; omega))))) ?_
   refine yV (kg 29 (.pick (.tmp 21) (.tmp 28) (.const (.bool false))) 6 false) (fun _ => val_pick_t rfl rfl) ?_
   refine yOf 30 18 29 ?_
   refine Sch.nil ?_
   refine run_cF 30 ?_
   refine run_sk ?_
   refine run_inBlock ?_
   refine run_pl [yy 0, yy 1] ?_
   refine yV (kq 31 (.binOp .add 3 (.tmp 7) (.const (.int .i64 1)) 3)) (fun _ => val_addi rfl rfl (by omega) (by omega)) ?_
   refine yM 7 31 ?_
   refine Sch.nil ?_
   refine kp (sub_cons 0 rfl rfl (sub_cons 5 rfl rfl (sub_cons 6 rfl rfl (sub_cons 7 rfl (eq_int (by simp)) (sub_nil _))))) (next1 (k + 1) _ ⟨(by first | omega | (simp only; omega)), rfl⟩ (by first | omega | (simp only; omega)))
  ·
   refine run_pl [yy 0, yy 1, yy 2, yy 3, yy 4, yy 5, yy 6, yy 7, yy 8, yy 9, yy 10, yy 11, yy 12, yy 13, nn 14, yy 15, yy 16, yy 17, yy 18] ?_
   refine yM 12 4 ?_
   refine yV (kq 13 (.binOp .lss 3 (.tmp 12) (.const (.int .i64 0)) 3)) (fun _ => val_is (val_lss rfl rfl) (show _ = Value.bool false from congrArg Value.bool (decide_eq_false (by omega)))) ?_
   refine yM 14 13 ?_
   refine yMg 15 4 2 false ?_
   refine yV (kg 16 (.binOp .geq 3 (.tmp 15) (.const (.int .i64 4)) 3) 2 false) (fun _ => val_is (val_geq rfl rfl) (show _ = Value.bool false from congrArg Value.bool (decide_eq_false (by omega)))) ?_
   refine yOf 17 14 16 ?_
   refine yM 18 17 ?_
   refine yMg 19 3 6 false ?_
   refine yV (kg 20 (.binOp .gtr 3 (.tmp 19) (.const (.int .i64 0)) 3) 6 false) (fun _ => val_F (val_gtr rfl rfl) hk0) ?_
   refine yMg 21 20 6 false ?_
   refine pX 22 9 true ?_
   refine pX 23 9 true ?_
   refine pX 24 9 true ?_
   refine pX 25 9 true ?_
   refine pW (kg 26 (.load 3 (.tmp 25)) 9 true) rfl rfl trivial ?_
   refine pX 27 9 true ?_
   refine pX 28 9 true ?_
   refine yV (kg 29 (.pick (.tmp 21) (.tmp 28) (.const (.bool false))) 6 false) (fun _ => val_pick_f rfl rfl) ?_
   refine yOf 30 18 29 ?_
   refine Sch.nil ?_
   refine run_cF 30 ?_
   refine run_sk ?_
   refine run_inBlock ?_
   refine run_pl [yy 0, yy 1] ?_
   refine yV (kq 31 (.binOp .add 3 (.tmp 7) (.const (.int .i64 1)) 3)) (fun _ => val_addi rfl rfl (by omega) (by omega)) ?_
   refine yM 7 31 ?_
   refine Sch.nil ?_
   refine kp (sub_cons 0 rfl rfl (sub_cons 5 rfl rfl (sub_cons 6 rfl rfl (sub_cons 7 rfl (eq_int (by simp)) (sub_nil _))))) (next1 (k + 1) _ ⟨(by first | omega | (simp only; omega)), rfl⟩ (by first | omega | (simp only; omega)))
 ·
  have hkl : k = l.length := by omega
  have hl2 := hR.len
  refine run_ex 0 ?_
  refine run_sq ?_
  refine run_pl [yy 0, yy 1, yy 2, yy 3] ?_
  refine yM 32 0 ?_
  refine yS (kq 33 (.call { callee := .builtin .len, args := #[(.tmp 32)], argTypes := #[22] })) rfl rfl (fun w' hS => hl.lenV rfl Tryz.underlying22 w' ) ?_
  refine yV (kq 34 (.binOp .geq 3 (.tmp 33) (.const (.int .i64 2)) 3)) (fun _ => val_is (val_geq rfl rfl) (show _ = Value.bool true from congrArg Value.bool (decide_eq_true (by omega)))) ?_
  refine yA 2 34 ?_
  refine Sch.nil ?_
  refine run_ret1 (by kernel_rfl) Tryz.func38 Tryz.results38 rfl ?_
  exact ⟨rfl, rfl⟩
namespace F39
noncomputable def c0 := bodyOf Tryz.f39
noncomputable def c7 := (cl (cl (cr (cl (cr c0)))))
noncomputable def c17 := (cr (cl (cl (cr (cr c7)))))
noncomputable def o4 := rops (cl c17)
end F39
theorem person_ok {w₀ : World} {C : Nat → Nat} {l : List Couple} {vl : Value} (hF : Lim w₀ C) (hl : RV w₀ (Mc C) l vl) (hP : PsnOK l) : Calls Tryz.prog 39 #[vl] w₀ (Ret fun v w' => v = .bool true ∧ Stp [] w₀ C w' C) := by
 have hF0 := hF
 have hT := Stp.refl [2, 3, 4, 5, 6, 7, 8, 9] w₀ (col1 C)
 replace hF := hF.col1
 replace hl : RV w₀ (Mc (col1 C)) l vl := by rw [Mc_col1]; exact hl
 refine calls_start (c := F39.c0) (N := 34) [vl] Tryz.func39 (by kernel_rfl) (by kernel_rfl) (by kernel_rfl) ?_
 show Run _ _ _ _ [(0, vl)] _ _
 refine run_sq ?_
 refine run_pl [yy 0] ?_
 refine yAc 2 (.bool false) ?_
 refine Sch.nil ?_
 refine run_sq ?_
 refine run_sq ?_
 refine run_pl [yy 0, yy 1, yy 2] ?_
 refine yM 5 0 ?_
 refine yS (kq 6 (.call { callee := .builtin .len, args := #[(.tmp 5)], argTypes := #[42] })) rfl rfl (fun w' hS => hl.lenV rfl Tryz.underlying42 w' ) ?_
 refine yV (kq 7 (.move (.const (.int .i64 0)))) (fun _ => val_move rfl) ?_
 refine Sch.nil ?_
 refine run_bk 0 ?_
 
 refine run_lp (ι := Nat × (Nat → Nat)) (I := fun x w => x.1 ≤ l.length ∧ Lim w x.2 ∧ Stp [2, 3, 4, 5, 6, 7, 8, 9] w₀ (col1 C) w x.2 ∧ RV w (Mc x.2) l vl) (e := fun x => [(0, vl), (5, vl), (6, .int .i64 l.length), (7, .int .i64 x.1)]) (m := fun x => l.length - x.1) (x₀ := (0, col1 C)) (sr 0 (sr 5 (sr 6 (sr 7 (sub_nil _))))) ?_ ?_
 · exact ⟨Nat.zero_le _, hF, hT, hl⟩
 intro ⟨k, C1⟩ w1 hI next
 obtain ⟨hk, hF, hT, hl⟩ := hI
 try simp only at hk hF hT hl
 have next1 := next
 clear next
 show Run _ _ _ _ [(0, vl), (5, vl), (6, .int .i64 l.length), (7, .int .i64 k)] _ _
 have hle := hl.le
 refine run_sq ?_
 refine run_pl [yy 0] ?_
 refine yV (kq 8 (.binOp .lss 3 (.tmp 7) (.tmp 6) 3)) (fun _ => val_lss rfl rfl) ?_
 refine Sch.nil ?_
 refine run_sq ?_
 refine run_i 8 rfl (fun h8 => ?_) (fun h8 => ?_)
 ·
  have hkl : k < l.length := by omega
  have hok := hP.ok k hkl
  refine run_sk ?_
  refine run_sq ?_
  refine run_bk 1 ?_
  refine run_sq ?_
  refine run_pl [yy 0, yy 1, nn 2, nn 3, yy 4, nn 5] ?_
  refine yM 9 7 ?_
  refine iS (e := 35) (kq 10 (.indexAddr 42 (.tmp 5) (.tmp 7))) rfl rfl hl rfl (by kernel_rfl) rfl (by omega) (by omega) ?_
  intro b10 o10 h10
  try simp only [Int.toNat_natCast] at h10
  refine lNA (kq 11 (.load 35 (.tmp 10))) rfl rfl trivial h10 (by kernel_rfl) (by kernel_rfl) rfl rfl ?_
  intro v11 g11
  obtain rfl := rv_couple.1 g11
  refine aS (kq 4 (.alloc 35)) rfl rfl (a_alloc (cs := [.int .i64 0, .int .i64 0]) hF 6 (by kernel_rfl)) ?_
  rintro _ w2 ⟨Cw2, bw2, rfl, hs, hb, hF⟩
  refine ⟨trivial, ?_⟩
  replace hT := hT.t hs; replace hl := hl.t hs; replace h10 := h10.t hs
  refine yA 3 9 ?_
  refine aN (k0 (.store 35 (.tmp 4) (.tmp 11))) rfl (a_storeAll (vs := encR ((l[k]'hkl))) (n := 2) rfl rfl (by kernel_rfl) rfl rfl (by intro u hu; simp only [encR, List.mem_cons, List.not_mem_nil, or_false] at hu; rcases hu with rfl | rfl <;> rfl) hb rfl) ?_
  rintro _ w3 ⟨rfl, hs, hb⟩
  refine ⟨trivial, ?_⟩
  replace hF := hF.st hs
  replace hT := hT.t hs; replace hl := hl.t hs; replace h10 := h10.t hs
  refine Sch.nil ?_
  refine run_sq ?_
  by_cases hk0 : (0 : Int) < k
  ·
   refine run_draw (id := 4) (ops := F39.o4) [] (Cw2) [yy 0, nn 1, yy 2, yy 3, yy 4, yy 5, yy 6, yy 7, yy 8, yy 9, yy 10, yy 11, yy 12, yy 13, yy 14, yy 15, yy 16, yy 17] Tryz_mixed (by kernel_rfl) (by kernel_rfl) (by kernel_rfl) ?_
   intro w4 hs
   replace hF := hF.st hs
   replace hT := hT.t hs; replace hl := hl.t hs; replace h10 := h10.t hs; replace hb := hb.t hs
   have hR := Stp.refl [] w4 (Cw2)
   have hb0 := hb
   have hasc := hP.asc k hkl (by omega)
   have hl_b := hl
   refine yS (kq 12 (.load 35 (.tmp 4))) rfl rfl (fun w' hS => val_loadOwnAgg (n := 2) (vs := encR (l[k]'hkl)) (hb.stay hS (by decide)) (by kernel_rfl) (by kernel_rfl) rfl rfl rfl) ?_
   refine cS (kq 13 (.call { callee := .value (.func 61), args := #[(.tmp 12)], argTypes := #[35] })) rfl rfl (ent Tryz.call61 rfl) (greyRef_ok (x := (l[k]'hkl)) hF) ?_
   rintro vw5 w5 ⟨rfl, hs⟩
   rw [hok]
   refine ⟨(hR.trans hs (by simp)).ext, ?_⟩
   replace hF := hF.st hs
   replace hT := hT.t hs; replace hl := hl.t hs; replace h10 := h10.t hs; replace hb := hb.t hs; replace hR := hR.t hs
   refine yV (kq 14 (.unOp .not 4 (.tmp 13))) (fun _ => val_not rfl) ?_
   refine yM 15 14 ?_
   refine yMg 16 3 3 false ?_
   refine yV (kg 17 (.binOp .gtr 3 (.tmp 16) (.const (.int .i64 0)) 3) 3 false) (fun _ => val_T (val_gtr rfl rfl) hk0) ?_
   refine yMg 18 17 3 false ?_
   refine yMg 19 0 6 true ?_
   refine yMg 20 3 6 true ?_
   refine yV (kg 21 (.binOp .sub 3 (.tmp 20) (.const (.int .i64 1)) 3) 6 true) (fun _ => val_subi rfl rfl (by omega) (by omega)) ?_
   refine iS (e := 35) (kg 22 (.indexAddr 42 (.tmp 19) (.tmp 21)) 6 true) rfl rfl hl_b rfl (by kernel_rfl) rfl (by omega) (by omega) ?_
   intro b22 o22 h22
   try simp only [Int.toNat_natCast] at h22
   try simp only [show ((k : Int) - 1).toNat = k - 1 from by omega] at h22
   have h23 := RA.ca h22
   refine yFg 23 35 22 0 0 6 true ?_
   refine lS (kg 24 (.load 3 (.tmp 23)) 6 true) rfl rfl (fun w' hS => h23.sy hS) h23 (by kernel_rfl) rfl rfl ?_
   intro v24 g24
   first | (obtain rfl := rv_nat.1 g24) | (obtain rfl := rv_int.1 g24)
   refine yFg 25 35 4 0 0 6 true ?_
   refine yS (kg 26 (.load 3 (.tmp 25)) 6 true) rfl rfl (fun w' hS => val_loadOwn (hb0.sy hS) (by kernel_rfl) rfl rfl) ?_
   refine yV (kg 27 (.binOp .geq 3 (.tmp 24) (.tmp 26) 3) 6 true) (fun _ => val_is (val_geq rfl rfl) (show _ = Value.bool false from congrArg Value.bool (decide_eq_false (by omega)))) ?_
   refine yV (kg 28 (.pick (.tmp 18) (.tmp 27) (.const (.bool false))) 3 false) (fun _ => val_pick_t rfl rfl) ?_
   refine yOf 29 15 28 ?_
   refine Sch.nil ?_
   refine run_cF 29 ?_
   refine run_sk ?_
   refine run_inBlock ?_
   refine run_pl [yy 0, yy 1] ?_
   refine yV (kq 30 (.binOp .add 3 (.tmp 7) (.const (.int .i64 1)) 3)) (fun _ => val_addi rfl rfl (by omega) (by omega)) ?_
   refine yM 7 30 ?_
   refine Sch.nil ?_
   refine kp (sub_cons 0 rfl rfl (sub_cons 5 rfl rfl (sub_cons 6 rfl rfl (sub_cons 7 rfl (eq_int (by simp)) (sub_nil _))))) (next1 (k + 1, Cw2) _ ⟨(by first | omega | (simp only; omega)), hF, hT, hl⟩ (by first | omega | (simp only; omega)))
  ·
   refine run_draw (id := 4) (ops := F39.o4) [] (Cw2) [yy 0, nn 1, yy 2, yy 3, yy 4, yy 5, yy 6, yy 7, yy 8, yy 9, yy 10, yy 11, yy 12, yy 13, yy 14, yy 15, yy 16, yy 17] Tryz_mixed (by kernel_rfl) (by kernel_rfl) (by kernel_rfl) ?_
   intro w6 hs
   replace hF := hF.st hs
   replace hT := hT.t hs; replace hl := hl.t hs; replace h10 := h10.t hs; replace hb := hb.t hs
   have hR := Stp.refl [] w6 (Cw2)
   have hl_b := hl
   refine yS (kq 12 (.load 35 (.tmp 4))) rfl rfl (fun w' hS => val_loadOwnAgg (n := 2) (vs := encR (l[k]'hkl)) (hb.stay hS (by decide)) (by kernel_rfl) (by kernel_rfl) rfl rfl rfl) ?_
   refine cS (kq 13 (.call { callee := .value (.func 61), args := #[(.tmp 12)], argTypes := #[35] })) rfl rfl (ent Tryz.call61 rfl) (greyRef_ok (x := (l[k]'hkl)) hF) ?_
   rintro vw7 w7 ⟨rfl, hs⟩
   rw [hok]
   refine ⟨(hR.trans hs (by simp)).ext, ?_⟩
   replace hF := hF.st hs
   replace hT := hT.t hs; replace hl := hl.t hs; replace h10 := h10.t hs; replace hb := hb.t hs; replace hR := hR.t hs
   refine yV (kq 14 (.unOp .not 4 (.tmp 13))) (fun _ => val_not rfl) ?_
   refine yM 15 14 ?_
   refine yMg 16 3 3 false ?_
   refine yV (kg 17 (.binOp .gtr 3 (.tmp 16) (.const (.int .i64 0)) 3) 3 false) (fun _ => val_F (val_gtr rfl rfl) hk0) ?_
   refine yMg 18 17 3 false ?_
   refine pX 19 6 true ?_
   refine pX 20 6 true ?_
   refine pX 21 6 true ?_
   refine pX 22 6 true ?_
   refine pX 23 6 true ?_
   refine pX 24 6 true ?_
   refine pX 25 6 true ?_
   refine pX 26 6 true ?_
   refine pX 27 6 true ?_
   refine yV (kg 28 (.pick (.tmp 18) (.tmp 27) (.const (.bool false))) 3 false) (fun _ => val_pick_f rfl rfl) ?_
   refine yOf 29 15 28 ?_
   refine Sch.nil ?_
   refine run_cF 29 ?_
   refine run_sk ?_
   refine run_inBlock ?_
   refine run_pl [yy 0, yy 1] ?_
   refine yV (kq 30 (.binOp .add 3 (.tmp 7) (.const (.int .i64 1)) 3)) (fun _ => val_addi rfl rfl (by omega) (by omega)) ?_
   refine yM 7 30 ?_
   refine Sch.nil ?_
   refine kp (sub_cons 0 rfl rfl (sub_cons 5 rfl rfl (sub_cons 6 rfl rfl (sub_cons 7 rfl (eq_int (by simp)) (sub_nil _))))) (next1 (k + 1, Cw2) _ ⟨(by first | omega | (simp only; omega)), hF, hT, hl⟩ (by first | omega | (simp only; omega)))
 ·
  have hkl : k = l.length := by omega
  have hl2 := hP.len
  refine run_ex 0 ?_
  refine run_sq ?_
  refine run_pl [yy 0, yy 1, yy 2, yy 3] ?_
  refine yM 31 0 ?_
  refine yS (kq 32 (.call { callee := .builtin .len, args := #[(.tmp 31)], argTypes := #[42] })) rfl rfl (fun w' hS => hl.lenV rfl Tryz.underlying42 w' ) ?_
  refine yV (kq 33 (.binOp .geq 3 (.tmp 32) (.const (.int .i64 2)) 3)) (fun _ => val_is (val_geq rfl rfl) (show _ = Value.bool true from congrArg Value.bool (decide_eq_true (by omega)))) ?_
  refine yA 2 33 ?_
  refine Sch.nil ?_
  refine run_ret1 (by kernel_rfl) Tryz.func39 Tryz.results39 rfl ?_
  exact ⟨rfl, hT.out1 (by decide)⟩
namespace F83
noncomputable def c0 := bodyOf Tryz.f83
end F83
theorem indexI_ok {w₀ : World} {M : Nat → Prop} {l : List Int} {vl : Value} {u : Int} (hl : RV w₀ M l vl) : Calls Tryz.prog 83 #[vl, .int .i64 u] w₀ (Ret fun v w' => v = .int .i64 (idxOf (fun y => decide (u = y)) l) ∧ w' = w₀) := by
 refine calls_start (c := F83.c0) (N := 19) [vl, .int .i64 u] Tryz.func83 (by kernel_rfl) (by kernel_rfl) (by kernel_rfl) ?_
 show Run _ _ _ _ [(0, vl), (1, .int .i64 u)] _ _
 refine run_sq ?_
 refine run_pl [yy 0] ?_
 refine yAc 4 (.int .i64 0) ?_
 refine Sch.nil ?_
 refine run_sq ?_
 refine run_sq ?_
 refine run_pl [yy 0, yy 1, yy 2] ?_
 refine yM 6 0 ?_
 refine yS (kq 7 (.call { callee := .builtin .len, args := #[(.tmp 6)], argTypes := #[22] })) rfl rfl (fun w' hS => hl.lenV rfl Tryz.underlying22 w' ) ?_
 refine yV (kq 8 (.move (.const (.int .i64 0)))) (fun _ => val_move rfl) ?_
 refine Sch.nil ?_
 refine run_bk 0 ?_
 
 refine run_lp (ι := Nat) (I := fun x w => x ≤ l.length ∧ (∀ i (hi : i < x) (hl : i < l.length), decide (u = l[i]) = false) ∧ w = w₀) (e := fun x => [(0, vl), (1, .int .i64 u), (7, .int .i64 l.length), (8, .int .i64 x)]) (m := fun x => l.length - x) (x₀ := 0) (sr 0 (sr 1 (sr 7 (sr 8 (sub_nil _))))) ?_ ?_
 · exact ⟨Nat.zero_le _, fun i hi _ => by first | omega | (simp only at hi; omega), rfl⟩
 intro k w1 hI next
 obtain ⟨hk, h0, rfl⟩ := hI
 try simp only at hk h0
 have next1 := next
 clear next
 show Run _ _ _ _ [(0, vl), (1, .int .i64 u), (7, .int .i64 l.length), (8, .int .i64 k)] _ _
 have hle := hl.le
 refine run_sq ?_
 refine run_pl [yy 0] ?_
 refine yV (kq 9 (.binOp .lss 3 (.tmp 8) (.tmp 7) 3)) (fun _ => val_lss rfl rfl) ?_
 refine Sch.nil ?_
 refine run_sq ?_
 refine run_i 9 rfl (fun h9 => ?_) (fun h9 => ?_)
 ·
  have hkl : k < l.length := by omega
  refine run_sk ?_
  refine run_sq ?_
  refine run_bk 1 ?_
  refine run_sq ?_
  refine run_pl [yy 0, yy 1] ?_
  refine yM 10 8 ?_
  refine yA 5 10 ?_
  refine Sch.nil ?_
  refine run_sq ?_
  refine run_pl [yy 0, yy 1, yy 2, yy 3, nn 4, yy 5] ?_
  refine yM 11 1 ?_
  refine yM 12 0 ?_
  refine yM 13 5 ?_
  refine iS (e := 3) (kq 14 (.indexAddr 22 (.tmp 12) (.tmp 13))) rfl rfl hl rfl (by kernel_rfl) rfl (by omega) (by omega) ?_
  intro b14 o14 h14
  try simp only [Int.toNat_natCast] at h14
  refine lN (kq 15 (.load 3 (.tmp 14))) rfl rfl trivial h14 (by kernel_rfl) rfl rfl ?_
  intro v15 g15
  first | (obtain rfl := rv_nat.1 g15) | (obtain rfl := rv_int.1 g15)
  refine yV (kq 16 (.binOp .eql 3 (.tmp 11) (.tmp 15) 3)) (fun _ => val_eql rfl rfl) ?_
  refine Sch.nil ?_
  refine run_i 16 rfl (fun h16 => ?_) (fun h16 => ?_)
  ·
   refine run_sq ?_
   refine run_pl [yy 0, yy 1] ?_
   refine yM 17 5 ?_
   refine yA 4 17 ?_
   refine Sch.nil ?_
   refine run_ret1 (by kernel_rfl) Tryz.func83 Tryz.results83 rfl ?_
   exact ⟨by rw [idxOf_at (p := fun y => decide (u = y)) hkl (fun i hi => h0 i hi (by omega)) (decide_eq_true h16)], rfl⟩
  ·
   refine run_sk ?_
   refine run_inBlock ?_
   refine run_pl [yy 0, yy 1] ?_
   refine yV (kq 18 (.binOp .add 3 (.tmp 8) (.const (.int .i64 1)) 3)) (fun _ => val_addi rfl rfl (by omega) (by omega)) ?_
   refine yM 8 18 ?_
   refine Sch.nil ?_
   refine kp (sub_cons 0 rfl rfl (sub_cons 1 rfl rfl (sub_cons 7 rfl rfl (sub_cons 8 rfl (eq_int (by simp)) (sub_nil _))))) (next1 (k + 1) _ ⟨(by first | omega | (simp only; omega)), (fun i hi hl => by
       by_cases e : i = k
       · subst e; exact decide_eq_false h16
       · exact h0 i (by first | omega | (simp only at hi; omega)) hl), rfl⟩ (by first | omega | (simp only; omega)))
 ·
  have hkl : k = l.length := by omega
  refine run_ex 0 ?_
  refine run_sq ?_
  refine run_pl [yy 0] ?_
  refine yV (kq 4 (.assign (.const (.int .i64 (-1))))) (fun _ => val_assign rfl) ?_
  refine Sch.nil ?_
  refine run_ret1 (by kernel_rfl) Tryz.func83 Tryz.results83 rfl ?_
  exact ⟨by rw [idxOf_none (p := fun y => decide (u = y)) (fun i hi => h0 i (by omega) hi)], rfl⟩
namespace F56
noncomputable def c0 := bodyOf Tryz.f56
end F56
theorem containsI_ok {w₀ : World} {M : Nat → Prop} {l : List Int} {vl : Value} {u : Int} (hl : RV w₀ M l vl) : Calls Tryz.prog 56 #[vl, .int .i64 u] w₀ (Ret fun v w' => v = .bool (decide (u ∈ l)) ∧ w' = w₀) := by
 refine calls_start (c := F56.c0) (N := 9) [vl, .int .i64 u] Tryz.func56 (by kernel_rfl) (by kernel_rfl) (by kernel_rfl) ?_
 show Run _ _ _ _ [(0, vl), (1, .int .i64 u)] _ _
 refine run_sq ?_
 refine run_pl [yy 0] ?_
 refine yAc 4 (.bool false) ?_
 refine Sch.nil ?_
 refine run_sq ?_
 refine run_pl [yy 0, yy 1, nn 2, yy 3, yy 4] ?_
 refine yM 5 0 ?_
 refine yM 6 1 ?_
 refine cS (kq 7 (.call { callee := .value (.func 83), args := #[(.tmp 5), (.tmp 6)], argTypes := #[22, 3] })) rfl rfl (ent Tryz.call83 rfl) (indexI_ok hl) ?_
 rintro vw1 w1 ⟨rfl, rfl⟩
 refine ⟨trivial, ?_⟩
 refine yV (kq 8 (.binOp .geq 3 (.tmp 7) (.const (.int .i64 0)) 3)) (fun _ => val_geq rfl rfl) ?_
 refine yA 4 8 ?_
 refine Sch.nil ?_
 refine run_ret1 (by kernel_rfl) Tryz.func56 Tryz.results56 rfl ?_
 exact ⟨by congr 1; exact decide_eq_decide.2 idxI_ge, rfl⟩
namespace F69
noncomputable def c0 := bodyOf Tryz.f69
end F69
theorem indexR_ok {w₀ : World} {C : Nat → Nat} {l : List Couple} {vl : Value} {p : Couple → Bool} {nf : Nat} {caps : Array Value} (hcall : ∀ args w, (callFunc nf args).run Tryz.prog w = .ok (.enter nf args) w) (hp : ∀ w1, Stp [] w₀ C w1 C → ∀ x ∈ l, Calls Tryz.prog nf ([kvC x] ++ caps.toList).toArray w1 (Ret fun v w' => v = .bool (p x) ∧ Stp [] w1 C w' C)) (hF : Lim w₀ C) (hl : RV w₀ (Mc C) l vl) : Calls Tryz.prog 69 #[vl, .func (.func nf) #[] caps] w₀ (Ret fun v w' => v = .int .i64 (idxOf p l) ∧ Stp [] w₀ C w' C) := by
 have hT := Stp.refl [] w₀ C
 refine calls_start (c := F69.c0) (N := 19) [vl, .func (.func nf) #[] caps] Tryz.func69 (by kernel_rfl) (by kernel_rfl) (by kernel_rfl) ?_
 show Run _ _ _ _ [(0, vl), (1, .func (.func nf) #[] caps)] _ _
 refine run_sq ?_
 refine run_pl [yy 0] ?_
 refine yAc 4 (.int .i64 0) ?_
 refine Sch.nil ?_
 refine run_sq ?_
 refine run_sq ?_
 refine run_pl [yy 0, yy 1, yy 2] ?_
 refine yM 6 0 ?_
 refine yS (kq 7 (.call { callee := .builtin .len, args := #[(.tmp 6)], argTypes := #[42] })) rfl rfl (fun w' hS => hl.lenV rfl Tryz.underlying42 w' ) ?_
 refine yV (kq 8 (.move (.const (.int .i64 0)))) (fun _ => val_move rfl) ?_
 refine Sch.nil ?_
 refine run_bk 0 ?_
 
 refine run_lp (ι := Nat) (I := fun x w => x ≤ l.length ∧ (∀ i (hi : i < x) (hl : i < l.length), p l[i] = false) ∧ Lim w C ∧ Stp [] w₀ C w C ∧ RV w (Mc C) l vl) (e := fun x => [(0, vl), (1, .func (.func nf) #[] caps), (7, .int .i64 l.length), (8, .int .i64 x)]) (m := fun x => l.length - x) (x₀ := 0) (sr 0 (sr 1 (sr 7 (sr 8 (sub_nil _))))) ?_ ?_
 · exact ⟨Nat.zero_le _, fun i hi _ => by first | omega | (simp only at hi; omega), hF, hT, hl⟩
 intro k w1 hI next
 obtain ⟨hk, h0, hF, hT, hl⟩ := hI
 try simp only at hk h0 hF hT hl
 have next1 := next
 clear next
 show Run _ _ _ _ [(0, vl), (1, .func (.func nf) #[] caps), (7, .int .i64 l.length), (8, .int .i64 k)] _ _
 have hle := hl.le
 refine run_sq ?_
 refine run_pl [yy 0] ?_
 refine yV (kq 9 (.binOp .lss 3 (.tmp 8) (.tmp 7) 3)) (fun _ => val_lss rfl rfl) ?_
 refine Sch.nil ?_
 refine run_sq ?_
 refine run_i 9 rfl (fun h9 => ?_) (fun h9 => ?_)
 ·
  have hkl : k < l.length := by omega
  refine run_sk ?_
  refine run_sq ?_
  refine run_bk 1 ?_
  refine run_sq ?_
  refine run_pl [yy 0, yy 1] ?_
  refine yM 10 8 ?_
  refine yA 5 10 ?_
  refine Sch.nil ?_
  refine run_sq ?_
  refine run_pl [yy 0, yy 1, yy 2, yy 3, nn 4, nn 5] ?_
  refine yM 11 1 ?_
  refine yM 12 0 ?_
  refine yM 13 5 ?_
  refine iS (e := 35) (kq 14 (.indexAddr 42 (.tmp 12) (.tmp 13))) rfl rfl hl rfl (by kernel_rfl) rfl (by omega) (by omega) ?_
  intro b14 o14 h14
  try simp only [Int.toNat_natCast] at h14
  refine lNA (kq 15 (.load 35 (.tmp 14))) rfl rfl trivial h14 (by kernel_rfl) (by kernel_rfl) rfl rfl ?_
  intro v15 g15
  obtain rfl := rv_couple.1 g15
  refine cS (kq 16 (.call { callee := .value (.tmp 11), args := #[(.tmp 15)], argTypes := #[35] })) rfl rfl (enters_func hcall rfl rfl) (hp _ hT (l[k]'hkl) (List.getElem_mem hkl)) ?_
  rintro vw2 w2 ⟨rfl, hs⟩
  refine ⟨trivial, ?_⟩
  replace hF := hF.st hs
  replace hT := hT.t hs; replace hl := hl.t hs; replace h14 := h14.t hs
  refine Sch.nil ?_
  refine run_c 16 rfl (fun h16 => ?_) (fun h16 => ?_)
  ·
   refine run_sq ?_
   refine run_pl [yy 0, yy 1] ?_
   refine yM 17 5 ?_
   refine yA 4 17 ?_
   refine Sch.nil ?_
   refine run_ret1 (by kernel_rfl) Tryz.func69 Tryz.results69 rfl ?_
   exact ⟨by rw [idxOf_at hkl (fun i hi => h0 i hi (by omega)) h16], hT⟩
  ·
   refine run_sk ?_
   refine run_inBlock ?_
   refine run_pl [yy 0, yy 1] ?_
   refine yV (kq 18 (.binOp .add 3 (.tmp 8) (.const (.int .i64 1)) 3)) (fun _ => val_addi rfl rfl (by omega) (by omega)) ?_
   refine yM 8 18 ?_
   refine Sch.nil ?_
   refine kp (sub_cons 0 rfl rfl (sub_cons 1 rfl rfl (sub_cons 7 rfl rfl (sub_cons 8 rfl (eq_int (by simp)) (sub_nil _))))) (next1 (k + 1) _ ⟨(by first | omega | (simp only; omega)), (fun i hi hl => by
       by_cases e : i = k
       · subst e; exact h16
       · exact h0 i (by first | omega | (simp only at hi; omega)) hl), hF, hT, hl⟩ (by first | omega | (simp only; omega)))
 ·
  have hkl : k = l.length := by omega
  refine run_ex 0 ?_
  refine run_sq ?_
  refine run_pl [yy 0] ?_
  refine yV (kq 4 (.assign (.const (.int .i64 (-1))))) (fun _ => val_assign rfl) ?_
  refine Sch.nil ?_
  refine run_ret1 (by kernel_rfl) Tryz.func69 Tryz.results69 rfl ?_
  exact ⟨by rw [idxOf_none (fun i hi => h0 i (by omega) hi)], hT⟩
namespace F45
noncomputable def c0 := bodyOf Tryz.f45
end F45
theorem containsR_ok {w₀ : World} {C : Nat → Nat} {l : List Couple} {vl : Value} {p : Couple → Bool} {nf : Nat} {caps : Array Value} (hcall : ∀ args w, (callFunc nf args).run Tryz.prog w = .ok (.enter nf args) w) (hp : ∀ w1, Stp [] w₀ C w1 C → ∀ x ∈ l, Calls Tryz.prog nf ([kvC x] ++ caps.toList).toArray w1 (Ret fun v w' => v = .bool (p x) ∧ Stp [] w1 C w' C)) (hF : Lim w₀ C) (hl : RV w₀ (Mc C) l vl) : Calls Tryz.prog 45 #[vl, .func (.func nf) #[] caps] w₀ (Ret fun v w' => v = .bool (l.any p) ∧ Stp [] w₀ C w' C) := by
 have hT := Stp.refl [] w₀ C
 refine calls_start (c := F45.c0) (N := 9) [vl, .func (.func nf) #[] caps] Tryz.func45 (by kernel_rfl) (by kernel_rfl) (by kernel_rfl) ?_
 show Run _ _ _ _ [(0, vl), (1, .func (.func nf) #[] caps)] _ _
 refine run_sq ?_
 refine run_pl [yy 0] ?_
 refine yAc 4 (.bool false) ?_
 refine Sch.nil ?_
 refine run_sq ?_
 refine run_pl [yy 0, yy 1, nn 2, yy 3, yy 4] ?_
 refine yM 5 0 ?_
 refine yM 6 1 ?_
 refine cS (kq 7 (.call { callee := .value (.func 69), args := #[(.tmp 5), (.tmp 6)], argTypes := #[42, 89] })) rfl rfl (ent Tryz.call69 rfl) (indexR_ok hcall hp hF hl) ?_
 rintro vw1 w1 ⟨rfl, hs⟩
 refine ⟨trivial, ?_⟩
 replace hF := hF.st hs
 replace hT := hT.t hs; replace hl := hl.t hs
 refine yV (kq 8 (.binOp .geq 3 (.tmp 7) (.const (.int .i64 0)) 3)) (fun _ => val_geq rfl rfl) ?_
 refine yA 4 8 ?_
 refine Sch.nil ?_
 refine run_ret1 (by kernel_rfl) Tryz.func45 Tryz.results45 rfl ?_
 exact ⟨by rw [idxOf_ge], hT⟩
end Go.Proofs.YtfkggfmibpigpaaGreatDoor

/- Steps through functions of the program. -/
set_option linter.unusedVariables false
set_option linter.unusedSimpArgs false
set_option maxRecDepth 100000
set_option maxHeartbeats 4000000
namespace Go.Proofs.YtfkggfmibpigpaaGreatDoor
open Go.K Go.K.Rep
namespace F14
noncomputable def c0 := bodyOf Tryz.f14
end F14
theorem check_ok {w₀ : World} {C : Nat → Nat} {num ka kb : Int} {rs : List Int} {vr : Value} {lv : Bool} (hF : Lim w₀ C) (hr : RV w₀ (Mc C) rs vr) (hrs : RgsOK rs) (hn1 : 1 ≤ num) (hn4 : num ≤ 4) : Calls Tryz.prog 14 #[.agg #[.int .i64 num, .int .u64 ka, .int .u64 kb, vr, .bool lv]] w₀ (Ret fun v w' => v = .int .i64 0 ∧ Stp [] w₀ C w' C) := by
 have hF0 := hF
 have hT := Stp.refl [2, 3, 4, 5, 6, 7, 8, 9] w₀ (col1 C)
 replace hF := hF.col1
 replace hr : RV w₀ (Mc (col1 C)) rs vr := by rw [Mc_col1]; exact hr
 refine calls_start (c := F14.c0) (N := 17) [.agg #[.int .i64 num, .int .u64 ka, .int .u64 kb, vr, .bool lv]] Tryz.func14 (by kernel_rfl) (by kernel_rfl) (by kernel_rfl) ?_
 show Run _ _ _ _ [(0, .agg #[.int .i64 num, .int .u64 ka, .int .u64 kb, vr, .bool lv])] _ _
 refine run_sq ?_
 refine run_pl [nn 0, yy 1] ?_
 refine aS (kq 1 (.box 31 (.tmp 0))) rfl rfl (a_box (cs := [.int .i64 num, .int .u64 ka, .int .u64 kb, vr, .bool lv]) hF 3 rfl rfl) ?_
 rintro _ w1 ⟨Cw1, bw1, rfl, hs, hp, hF⟩
 refine ⟨trivial, ?_⟩
 replace hT := hT.t hs; replace hr := hr.t hs
 refine yAc 2 (.int .i64 0) ?_
 refine Sch.nil ?_
 refine run_sq ?_
 refine run_sq ?_
 refine run_pl [yy 0, nn 1, yy 2, yy 3, yy 4, nn 5, yy 6, yy 7, yy 8, yy 9, nn 10, nn 11, yy 12, yy 13] ?_
 refine yF 3 31 1 0 0 ?_
 refine nS (kq 4 (.load 3 (.tmp 3))) rfl rfl trivial (val_loadOwn hp.at_ (by kernel_rfl) rfl rfl) ?_
 refine yV (kq 5 (.binOp .lss 3 (.tmp 4) (.const (.int .i64 1)) 3)) (fun _ => val_is (val_lss rfl rfl) (show _ = Value.bool false from congrArg Value.bool (decide_eq_false (by omega)))) ?_
 refine yM 6 5 ?_
 refine yFg 7 31 1 0 0 3 false ?_
 refine nS (kg 8 (.load 3 (.tmp 7)) 3 false) rfl rfl trivial (val_loadOwn hp.at_ (by kernel_rfl) rfl rfl) ?_
 refine yV (kg 9 (.binOp .gtr 3 (.tmp 8) (.const (.int .i64 4)) 3) 3 false) (fun _ => val_is (val_gtr rfl rfl) (show _ = Value.bool false from congrArg Value.bool (decide_eq_false (by omega)))) ?_
 refine yOf 10 6 9 ?_
 refine yM 11 10 ?_
 refine yFg 12 31 1 2 3 8 false ?_
 refine nS (kg 13 (.load 22 (.tmp 12)) 8 false) rfl rfl trivial (val_loadOwn hp.at_ (by kernel_rfl) rfl rfl) ?_
 refine cS (kg 14 (.call { callee := .value (.func 38), args := #[(.tmp 13)], argTypes := #[22] }) 8 false) rfl rfl (ent Tryz.call38 rfl) (regs_ok hr hrs) ?_
 rintro vw2 w2 ⟨rfl, rfl⟩
 refine ⟨trivial, ?_⟩
 refine yV (kg 15 (.unOp .not 4 (.tmp 14)) 8 false) (fun _ => val_not rfl) ?_
 refine yOf 16 11 15 ?_
 refine Sch.nil ?_
 refine run_cF 16 ?_
 refine run_sk ?_
 refine run_sq ?_
 refine run_pl [yy 0] ?_
 refine yAc 2 (.int .i64 0) ?_
 refine Sch.nil ?_
 refine run_ret1 (by kernel_rfl) Tryz.func14 Tryz.results14 rfl ?_
 exact ⟨rfl, hT.out1 (by decide)⟩
namespace F55
noncomputable def c0 := bodyOf Tryz.f55
end F55
theorem fitsC_ok {w₀ : World} {M : Nat → Prop} {num ka kb : Int} {rs : List Int} {vr : Value} {lv : Bool} {x : Int} {bp : Nat} {fz : Nat × Nat} (hb : w₀.heap[bp]? = some (Obj.cells ([.int .i64 num, .int .u64 ka, .int .u64 kb, vr, .bool lv] : List Value).toArray 31 fz)) (hr : RV w₀ M rs vr) : Calls Tryz.prog 55 #[.int .i64 x, .pointer (some ⟨bp, 0, none⟩)] w₀ (Ret fun v w' => v = .bool (!decide (x ∈ rs)) ∧ w' = w₀) := by
 refine calls_start (c := F55.c0) (N := 9) [.int .i64 x, .pointer (some ⟨bp, 0, none⟩)] Tryz.func55 (by kernel_rfl) (by kernel_rfl) (by kernel_rfl) ?_
 show Run _ _ _ _ [(0, .int .i64 x), (1, .pointer (some ⟨bp, 0, none⟩))] _ _
 refine run_sq ?_
 refine run_pl [yy 0] ?_
 refine yAc 3 (.bool false) ?_
 refine Sch.nil ?_
 refine run_sq ?_
 refine run_pl [yy 0, nn 1, yy 2, nn 3, yy 4, yy 5] ?_
 refine yF 4 31 1 2 3 ?_
 refine nS (kq 5 (.load 22 (.tmp 4))) rfl rfl trivial (val_loadOwn hb (by kernel_rfl) rfl rfl) ?_
 refine yM 6 0 ?_
 refine cS (kq 7 (.call { callee := .value (.func 56), args := #[(.tmp 5), (.tmp 6)], argTypes := #[22, 3] })) rfl rfl (ent Tryz.call56 rfl) (containsI_ok hr) ?_
 rintro vw1 w1 ⟨rfl, rfl⟩
 refine ⟨trivial, ?_⟩
 refine yV (kq 8 (.unOp .not 4 (.tmp 7))) (fun _ => val_not rfl) ?_
 refine yA 3 8 ?_
 refine Sch.nil ?_
 refine run_ret1 (by kernel_rfl) Tryz.func55 Tryz.results55 rfl ?_
 exact ⟨rfl, rfl⟩
namespace F82
noncomputable def c0 := bodyOf Tryz.f82
end F82
theorem indexQ_ok {w₀ : World} {C : Nat → Nat} {l : List Int} {vl : Value} {p : Int → Bool} {nf : Nat} {caps : Array Value} (hcall : ∀ args w, (callFunc nf args).run Tryz.prog w = .ok (.enter nf args) w) (hp : ∀ w1, Stp [] w₀ C w1 C → ∀ x ∈ l, Calls Tryz.prog nf ([Value.int .i64 x] ++ caps.toList).toArray w1 (Ret fun v w' => v = .bool (p x) ∧ Stp [] w1 C w' C)) (hF : Lim w₀ C) (hl : RV w₀ (Mc C) l vl) : Calls Tryz.prog 82 #[vl, .func (.func nf) #[] caps] w₀ (Ret fun v w' => v = .int .i64 (idxOf p l) ∧ Stp [] w₀ C w' C) := by
 have hT := Stp.refl [] w₀ C
 refine calls_start (c := F82.c0) (N := 19) [vl, .func (.func nf) #[] caps] Tryz.func82 (by kernel_rfl) (by kernel_rfl) (by kernel_rfl) ?_
 show Run _ _ _ _ [(0, vl), (1, .func (.func nf) #[] caps)] _ _
 refine run_sq ?_
 refine run_pl [yy 0] ?_
 refine yAc 4 (.int .i64 0) ?_
 refine Sch.nil ?_
 refine run_sq ?_
 refine run_sq ?_
 refine run_pl [yy 0, yy 1, yy 2] ?_
 refine yM 6 0 ?_
 refine yS (kq 7 (.call { callee := .builtin .len, args := #[(.tmp 6)], argTypes := #[22] })) rfl rfl (fun w' hS => hl.lenV rfl Tryz.underlying22 w' ) ?_
 refine yV (kq 8 (.move (.const (.int .i64 0)))) (fun _ => val_move rfl) ?_
 refine Sch.nil ?_
 refine run_bk 0 ?_
 
 refine run_lp (ι := Nat) (I := fun x w => x ≤ l.length ∧ (∀ i (hi : i < x) (hl : i < l.length), p l[i] = false) ∧ Lim w C ∧ Stp [] w₀ C w C ∧ RV w (Mc C) l vl) (e := fun x => [(0, vl), (1, .func (.func nf) #[] caps), (7, .int .i64 l.length), (8, .int .i64 x)]) (m := fun x => l.length - x) (x₀ := 0) (sr 0 (sr 1 (sr 7 (sr 8 (sub_nil _))))) ?_ ?_
 · exact ⟨Nat.zero_le _, fun i hi _ => by first | omega | (simp only at hi; omega), hF, hT, hl⟩
 intro k w1 hI next
 obtain ⟨hk, h0, hF, hT, hl⟩ := hI
 try simp only at hk h0 hF hT hl
 have next1 := next
 clear next
 show Run _ _ _ _ [(0, vl), (1, .func (.func nf) #[] caps), (7, .int .i64 l.length), (8, .int .i64 k)] _ _
 have hle := hl.le
 refine run_sq ?_
 refine run_pl [yy 0] ?_
 refine yV (kq 9 (.binOp .lss 3 (.tmp 8) (.tmp 7) 3)) (fun _ => val_lss rfl rfl) ?_
 refine Sch.nil ?_
 refine run_sq ?_
 refine run_i 9 rfl (fun h9 => ?_) (fun h9 => ?_)
 ·
  have hkl : k < l.length := by omega
  refine run_sk ?_
  refine run_sq ?_
  refine run_bk 1 ?_
  refine run_sq ?_
  refine run_pl [yy 0, yy 1] ?_
  refine yM 10 8 ?_
  refine yA 5 10 ?_
  refine Sch.nil ?_
  refine run_sq ?_
  refine run_pl [yy 0, yy 1, yy 2, yy 3, nn 4, nn 5] ?_
  refine yM 11 1 ?_
  refine yM 12 0 ?_
  refine yM 13 5 ?_
  refine iS (e := 3) (kq 14 (.indexAddr 22 (.tmp 12) (.tmp 13))) rfl rfl hl rfl (by kernel_rfl) rfl (by omega) (by omega) ?_
  intro b14 o14 h14
  try simp only [Int.toNat_natCast] at h14
  refine lN (kq 15 (.load 3 (.tmp 14))) rfl rfl trivial h14 (by kernel_rfl) rfl rfl ?_
  intro v15 g15
  first | (obtain rfl := rv_nat.1 g15) | (obtain rfl := rv_int.1 g15)
  refine cS (kq 16 (.call { callee := .value (.tmp 11), args := #[(.tmp 15)], argTypes := #[3] })) rfl rfl (enters_func hcall rfl rfl) (hp _ hT (l[k]'hkl) (List.getElem_mem hkl)) ?_
  rintro vw2 w2 ⟨rfl, hs⟩
  refine ⟨trivial, ?_⟩
  replace hF := hF.st hs
  replace hT := hT.t hs; replace hl := hl.t hs; replace h14 := h14.t hs
  refine Sch.nil ?_
  refine run_c 16 rfl (fun h16 => ?_) (fun h16 => ?_)
  ·
   refine run_sq ?_
   refine run_pl [yy 0, yy 1] ?_
   refine yM 17 5 ?_
   refine yA 4 17 ?_
   refine Sch.nil ?_
   refine run_ret1 (by kernel_rfl) Tryz.func82 Tryz.results82 rfl ?_
   exact ⟨by rw [idxOf_at hkl (fun i hi => h0 i hi (by omega)) h16], hT⟩
  ·
   refine run_sk ?_
   refine run_inBlock ?_
   refine run_pl [yy 0, yy 1] ?_
   refine yV (kq 18 (.binOp .add 3 (.tmp 8) (.const (.int .i64 1)) 3)) (fun _ => val_addi rfl rfl (by omega) (by omega)) ?_
   refine yM 8 18 ?_
   refine Sch.nil ?_
   refine kp (sub_cons 0 rfl rfl (sub_cons 1 rfl rfl (sub_cons 7 rfl rfl (sub_cons 8 rfl (eq_int (by simp)) (sub_nil _))))) (next1 (k + 1) _ ⟨(by first | omega | (simp only; omega)), (fun i hi hl => by
       by_cases e : i = k
       · subst e; exact h16
       · exact h0 i (by first | omega | (simp only at hi; omega)) hl), hF, hT, hl⟩ (by first | omega | (simp only; omega)))
 ·
  have hkl : k = l.length := by omega
  refine run_ex 0 ?_
  refine run_sq ?_
  refine run_pl [yy 0] ?_
  refine yV (kq 4 (.assign (.const (.int .i64 (-1))))) (fun _ => val_assign rfl) ?_
  refine Sch.nil ?_
  refine run_ret1 (by kernel_rfl) Tryz.func82 Tryz.results82 rfl ?_
  exact ⟨by rw [idxOf_none (fun i hi => h0 i (by omega) hi)], hT⟩
namespace F54
noncomputable def c0 := bodyOf Tryz.f54
end F54
theorem containsQ_ok {w₀ : World} {C : Nat → Nat} {l : List Int} {vl : Value} {p : Int → Bool} {nf : Nat} {caps : Array Value} (hcall : ∀ args w, (callFunc nf args).run Tryz.prog w = .ok (.enter nf args) w) (hp : ∀ w1, Stp [] w₀ C w1 C → ∀ x ∈ l, Calls Tryz.prog nf ([Value.int .i64 x] ++ caps.toList).toArray w1 (Ret fun v w' => v = .bool (p x) ∧ Stp [] w1 C w' C)) (hF : Lim w₀ C) (hl : RV w₀ (Mc C) l vl) : Calls Tryz.prog 54 #[vl, .func (.func nf) #[] caps] w₀ (Ret fun v w' => v = .bool (l.any p) ∧ Stp [] w₀ C w' C) := by
 have hT := Stp.refl [] w₀ C
 refine calls_start (c := F54.c0) (N := 9) [vl, .func (.func nf) #[] caps] Tryz.func54 (by kernel_rfl) (by kernel_rfl) (by kernel_rfl) ?_
 show Run _ _ _ _ [(0, vl), (1, .func (.func nf) #[] caps)] _ _
 refine run_sq ?_
 refine run_pl [yy 0] ?_
 refine yAc 4 (.bool false) ?_
 refine Sch.nil ?_
 refine run_sq ?_
 refine run_pl [yy 0, yy 1, nn 2, yy 3, yy 4] ?_
 refine yM 5 0 ?_
 refine yM 6 1 ?_
 refine cS (kq 7 (.call { callee := .value (.func 82), args := #[(.tmp 5), (.tmp 6)], argTypes := #[22, 56] })) rfl rfl (ent Tryz.call82 rfl) (indexQ_ok hcall hp hF hl) ?_
 rintro vw1 w1 ⟨rfl, hs⟩
 refine ⟨trivial, ?_⟩
 replace hF := hF.st hs
 replace hT := hT.t hs; replace hl := hl.t hs
 refine yV (kq 8 (.binOp .geq 3 (.tmp 7) (.const (.int .i64 0)) 3)) (fun _ => val_geq rfl rfl) ?_
 refine yA 4 8 ?_
 refine Sch.nil ?_
 refine run_ret1 (by kernel_rfl) Tryz.func54 Tryz.results54 rfl ?_
 exact ⟨by rw [idxOf_ge], hT⟩
namespace F32
noncomputable def c0 := bodyOf Tryz.f32
end F32
theorem fits_ok {w₀ : World} {C : Nat → Nat} {num ka kb : Int} {rs : List Int} {vr : Value} {lv : Bool} {l : List Int} {vl : Value} (hF : Lim w₀ C) (hr : RV w₀ (Mc C) rs vr) (hl : RV w₀ (Mc C) l vl) (hls : RgsOK l) (hsub : ∀ x ∈ l, x ∈ rs) : Calls Tryz.prog 32 #[.agg #[.int .i64 num, .int .u64 ka, .int .u64 kb, vr, .bool lv], vl] w₀ (Ret fun v w' => v = .bool true ∧ Stp [] w₀ C w' C) := by
 have hF0 := hF
 have hT := Stp.refl [2, 3, 4, 5, 6, 7, 8, 9] w₀ (col1 C)
 replace hF := hF.col1
 replace hr : RV w₀ (Mc (col1 C)) rs vr := by rw [Mc_col1]; exact hr
 replace hl : RV w₀ (Mc (col1 C)) l vl := by rw [Mc_col1]; exact hl
 refine calls_start (c := F32.c0) (N := 13) [.agg #[.int .i64 num, .int .u64 ka, .int .u64 kb, vr, .bool lv], vl] Tryz.func32 (by kernel_rfl) (by kernel_rfl) (by kernel_rfl) ?_
 show Run _ _ _ _ [(0, .agg #[.int .i64 num, .int .u64 ka, .int .u64 kb, vr, .bool lv]), (1, vl)] _ _
 refine run_sq ?_
 refine run_pl [nn 0, yy 1] ?_
 refine aS (kq 2 (.box 31 (.tmp 0))) rfl rfl (a_box (cs := [.int .i64 num, .int .u64 ka, .int .u64 kb, vr, .bool lv]) hF 3 rfl rfl) ?_
 rintro _ w1 ⟨Cw1, bw1, rfl, hs, hp, hF⟩
 refine ⟨trivial, ?_⟩
 replace hT := hT.t hs; replace hr := hr.t hs; replace hl := hl.t hs
 refine yAc 4 (.bool false) ?_
 refine Sch.nil ?_
 refine run_sq ?_
 refine run_pl [yy 0, nn 1, yy 2, yy 3, yy 4, nn 5, yy 6, yy 7, yy 8] ?_
 refine yM 5 1 ?_
 refine cS (kq 6 (.call { callee := .value (.func 38), args := #[(.tmp 5)], argTypes := #[22] })) rfl rfl (ent Tryz.call38 rfl) (regs_ok hl hls) ?_
 rintro vw2 w2 ⟨rfl, rfl⟩
 refine ⟨trivial, ?_⟩
 refine yM 7 6 ?_
 refine yMg 8 1 2 true ?_
 refine yV (kg 9 (.makeFunc (.func 55) #[] #[(.tmp 2)]) 2 true) (fun _ => val_makeFunc rfl rfl) ?_
 have hcl : ∀ w1, Stp [] w2 (Cw1) w1 (Cw1) → ∀ x ∈ l, Calls Tryz.prog 55 ([Value.int .i64 x] ++ (#[.pointer (some ⟨bw1, 0, none⟩)] : Array Value).toList).toArray w1 (Ret fun v w' => v = .bool ((fun x => !decide (x ∈ rs)) x) ∧ Stp [] w1 (Cw1) w' (Cw1)) := by
   intro w1 h1 x hx
   have q1 := (hp.st h1 (by decide)).at_; have q2 := hr.st h1 (by decide)
   exact (fitsC_ok (x := x) q1 q2).mono (Ret.mono fun v w2 ⟨e1, e2⟩ => ⟨e1, by rw [e2]; exact Stp.refl _ _ _⟩)
 refine cS (kg 10 (.call { callee := .value (.func 54), args := #[(.tmp 8), (.tmp 9)], argTypes := #[22, 56] }) 2 true) rfl rfl (ent Tryz.call54 rfl) (containsQ_ok (p := fun x => !decide (x ∈ rs)) (nf := 55) (caps := #[.pointer (some ⟨bw1, 0, none⟩)]) (fun args w => Tryz.call55 args w) hcl hF hl) ?_
 rintro vw3 w3 ⟨rfl, hs⟩
 rw [show l.any (fun x => !decide (x ∈ rs)) = false from List.any_eq_false.2 fun x hx => by simp [hsub x hx]]
 refine ⟨trivial, ?_⟩
 replace hF := hF.st hs
 replace hT := hT.t hs; replace hr := hr.t hs; replace hl := hl.t hs; replace hp := hp.t hs
 refine yV (kg 11 (.unOp .not 4 (.tmp 10)) 2 true) (fun _ => val_not rfl) ?_
 refine yAt 12 7 11 ?_
 refine yA 4 12 ?_
 refine Sch.nil ?_
 refine run_ret1 (by kernel_rfl) Tryz.func32 Tryz.results32 rfl ?_
 exact ⟨rfl, hT.out1 (by decide)⟩
namespace F15
noncomputable def c0 := bodyOf Tryz.f15
noncomputable def c23 := (cr (cl (cr (cr (cr c0)))))
noncomputable def c32 := (cl (cr (cr (cl (cl c23)))))
noncomputable def c42 := (cr (cr (cl (cr (cl c32)))))
noncomputable def o11 := rops (cl c42)
end F15
theorem valid_ok {w₀ : World} {C : Nat → Nat} {num ka kb : Int} {rs : List Int} {vr : Value} {lv : Bool} {l : List Lnk} {vl : Value} (hF : Lim w₀ C) (hr : RV w₀ (Mc C) rs vr) (hrs : RgsOK rs) (hn1 : 1 ≤ num) (hn4 : num ≤ 4) (hl : RV w₀ (Mc C) l vl) (h1 : l.length ≤ 1) (hV : ∀ x ∈ l, RgsOK x.regs ∧ ∀ y ∈ x.regs, y ∈ rs) : Calls Tryz.prog 15 #[.agg #[.int .i64 num, .int .u64 ka, .int .u64 kb, vr, .bool lv], vl] w₀ (Ret fun v w' => v = .int .i64 0 ∧ Stp [] w₀ C w' C) := by
 have hF0 := hF
 have hT := Stp.refl [2, 3, 4, 5, 6, 7, 8, 9] w₀ (col1 C)
 replace hF := hF.col1
 replace hr : RV w₀ (Mc (col1 C)) rs vr := by rw [Mc_col1]; exact hr
 replace hl : RV w₀ (Mc (col1 C)) l vl := by rw [Mc_col1]; exact hl
 refine calls_start (c := F15.c0) (N := 44) [.agg #[.int .i64 num, .int .u64 ka, .int .u64 kb, vr, .bool lv], vl] Tryz.func15 (by kernel_rfl) (by kernel_rfl) (by kernel_rfl) ?_
 show Run _ _ _ _ [(0, .agg #[.int .i64 num, .int .u64 ka, .int .u64 kb, vr, .bool lv]), (1, vl)] _ _
 refine run_sq ?_
 refine run_pl [nn 0, yy 1] ?_
 refine aS (kq 2 (.box 31 (.tmp 0))) rfl rfl (a_box (cs := [.int .i64 num, .int .u64 ka, .int .u64 kb, vr, .bool lv]) hF 3 rfl rfl) ?_
 rintro _ w1 ⟨Cw1, bw1, rfl, hs, hp, hF⟩
 refine ⟨trivial, ?_⟩
 replace hT := hT.t hs; replace hr := hr.t hs; replace hl := hl.t hs
 refine yAc 4 (.int .i64 0) ?_
 refine Sch.nil ?_
 refine run_sq ?_
 refine run_sq ?_
 refine run_pl [nn 0, nn 1, yy 2] ?_
 refine nS (kq 8 (.load 31 (.tmp 2))) rfl rfl trivial (val_loadOwnAgg (n := 5) (vs := [.int .i64 num, .int .u64 ka, .int .u64 kb, vr, .bool lv]) hp.at_ (by kernel_rfl) (by kernel_rfl) rfl rfl rfl) ?_
 refine cS (kq 9 (.call { callee := .value (.func 14), args := #[(.tmp 8)], argTypes := #[31] })) rfl rfl (ent Tryz.call14 rfl) (check_ok hF hr hrs hn1 hn4) ?_
 rintro vw2 w2 ⟨rfl, hs⟩
 refine ⟨trivial, ?_⟩
 replace hF := hF.st hs
 replace hT := hT.t hs; replace hr := hr.t hs; replace hl := hl.t hs; replace hp := hp.t hs
 refine yA 5 9 ?_
 refine Sch.nil ?_
 refine run_sq ?_
 refine run_pl [yy 0, yy 1] ?_
 refine yM 10 5 ?_
 refine yV (kq 11 (.binOp .neq 39 (.tmp 10) (.const (.int .i64 0)) 39)) (fun _ => val_is (val_neq rfl rfl) (show _ = Value.bool false from congrArg Value.bool (decide_eq_false (by decide)))) ?_
 refine Sch.nil ?_
 refine run_cF 11 ?_
 refine run_sk ?_
 refine run_sq ?_
 refine run_sq ?_
 refine run_pl [yy 0, yy 1, yy 2] ?_
 refine yM 13 1 ?_
 refine yS (kq 14 (.call { callee := .builtin .len, args := #[(.tmp 13)], argTypes := #[38] })) rfl rfl (fun w' hS => hl.lenV rfl Tryz.underlying38 w' ) ?_
 refine yV (kq 15 (.binOp .gtr 3 (.tmp 14) (.const (.int .i64 4096)) 3)) (fun _ => val_is (val_gtr rfl rfl) (show _ = Value.bool false from congrArg Value.bool (decide_eq_false (by omega)))) ?_
 refine Sch.nil ?_
 refine run_cF 15 ?_
 refine run_sk ?_
 refine run_sq ?_
 refine run_sq ?_
 refine run_pl [yy 0, yy 1, yy 2] ?_
 refine yM 16 1 ?_
 refine yS (kq 17 (.call { callee := .builtin .len, args := #[(.tmp 16)], argTypes := #[38] })) rfl rfl (fun w' hS => hl.lenV rfl Tryz.underlying38 w' ) ?_
 refine yV (kq 18 (.move (.const (.int .i64 0)))) (fun _ => val_move rfl) ?_
 refine Sch.nil ?_
 refine run_bk 0 ?_
 
 refine run_lp (ι := Nat × (Nat → Nat)) (I := fun x w => x.1 ≤ l.length ∧ Lim w x.2 ∧ Stp [2, 3, 4, 5, 6, 7, 8, 9] w₀ (col1 C) w x.2 ∧ RV w (Mc x.2) l vl ∧ RV w (Mc x.2) rs vr ∧ OwnB w x.2 3 bw1 (.cells [.int .i64 num, .int .u64 ka, .int .u64 kb, vr, .bool lv].toArray 31)) (e := fun x => [(1, vl), (2, .pointer (some ⟨bw1, 0, none⟩)), (16, vl), (17, .int .i64 l.length), (18, .int .i64 x.1)]) (m := fun x => l.length - x.1) (x₀ := (0, Cw1)) (sr 1 (sr 2 (sr 16 (sr 17 (sr 18 (sub_nil _)))))) ?_ ?_
 · exact ⟨Nat.zero_le _, hF, hT, hl, hr, hp⟩
 intro ⟨k, C1⟩ w3 hI next
 obtain ⟨hk, hF, hT, hl, hr, hp⟩ := hI
 try simp only at hk hF hT hl hr hp
 have next1 := next
 clear next
 show Run _ _ _ _ [(1, vl), (2, .pointer (some ⟨bw1, 0, none⟩)), (16, vl), (17, .int .i64 l.length), (18, .int .i64 k)] _ _
 have hle := hl.le
 refine run_sq ?_
 refine run_pl [yy 0] ?_
 refine yV (kq 19 (.binOp .lss 3 (.tmp 18) (.tmp 17) 3)) (fun _ => val_lss rfl rfl) ?_
 refine Sch.nil ?_
 refine run_sq ?_
 refine run_i 19 rfl (fun h19 => ?_) (fun h19 => ?_)
 ·
  have hkl : k < l.length := by omega
  have hok := hV _ (List.getElem_mem hkl)
  refine run_sk ?_
  refine run_sq ?_
  refine run_bk 1 ?_
  refine run_sq ?_
  refine run_pl [yy 0, yy 1, nn 2, nn 3, yy 4, nn 5] ?_
  refine yM 20 18 ?_
  refine iS (e := 49) (kq 21 (.indexAddr 38 (.tmp 16) (.tmp 18))) rfl rfl hl rfl (by kernel_rfl) rfl (by omega) (by omega) ?_
  intro b21 o21 h21
  try simp only [Int.toNat_natCast] at h21
  refine lNA (kq 22 (.load 49 (.tmp 21))) rfl rfl trivial h21 (by kernel_rfl) (by kernel_rfl) rfl rfl ?_
  intro v22 g22
  obtain ⟨u22, rfl, hu22⟩ := rv_lnk.1 g22
  refine aS (kq 7 (.alloc 49)) rfl rfl (a_alloc (cs := [.int .u64 0, .slice none 0 0]) hF 4 (by kernel_rfl)) ?_
  rintro _ w4 ⟨Cw4, bw4, rfl, hs, hb, hF⟩
  refine ⟨trivial, ?_⟩
  replace hT := hT.t hs; replace hl := hl.t hs; replace hr := hr.t hs; replace hp := hp.t hs; replace h21 := h21.t hs; replace hu22 := hu22.t hs
  refine yA 6 20 ?_
  refine aN (k0 (.store 49 (.tmp 7) (.tmp 22))) rfl (a_storeAll (vs := [.int .u64 (l[k]'hkl).p.n, u22]) (n := 2) rfl rfl (by kernel_rfl) rfl rfl (by intro u hu; simp only [List.mem_cons, List.not_mem_nil, or_false] at hu; rcases hu with rfl | rfl <;> first | rfl | exact (hu22.one rfl).2) hb rfl) ?_
  rintro _ w5 ⟨rfl, hs, hb⟩
  refine ⟨trivial, ?_⟩
  replace hF := hF.st hs
  replace hT := hT.t hs; replace hl := hl.t hs; replace hr := hr.t hs; replace hp := hp.t hs; replace h21 := h21.t hs; replace hu22 := hu22.t hs
  refine Sch.nil ?_
  refine run_bk 2 ?_
  refine run_sq ?_
  refine run_pl [nn 0, yy 1, nn 2, nn 3, yy 4, yy 5] ?_
  refine nS (kq 24 (.load 31 (.tmp 2))) rfl rfl trivial (val_loadOwnAgg (n := 5) (vs := [.int .i64 num, .int .u64 ka, .int .u64 kb, vr, .bool lv]) hp.at_ (by kernel_rfl) (by kernel_rfl) rfl rfl rfl) ?_
  refine yF 25 49 7 1 1 ?_
  refine nS (kq 26 (.load 22 (.tmp 25))) rfl rfl trivial (val_loadOwn hb.at_ (by kernel_rfl) rfl rfl) ?_
  refine cS (kq 27 (.call { callee := .value (.func 32), args := #[(.tmp 24), (.tmp 26)], argTypes := #[31, 22] })) rfl rfl (ent Tryz.call32 rfl) (fits_ok hF hr hu22 hok.1 hok.2) ?_
  rintro vw6 w6 ⟨rfl, hs⟩
  refine ⟨trivial, ?_⟩
  replace hF := hF.st hs
  replace hT := hT.t hs; replace hl := hl.t hs; replace hr := hr.t hs; replace hp := hp.t hs; replace h21 := h21.t hs; replace hu22 := hu22.t hs; replace hb := hb.t hs
  refine yV (kq 28 (.unOp .not 4 (.tmp 27))) (fun _ => val_not rfl) ?_
  refine yA 23 28 ?_
  refine Sch.nil ?_
  refine run_cF 23 ?_
  refine run_sq ?_
  refine run_draw (id := 11) (ops := F15.o11) [] (Cw4) [yy 0, yy 1, yy 2, yy 3, yy 4, yy 5, yy 6, yy 7, yy 8, yy 9, yy 10, yy 11, yy 12, yy 13] Tryz_mixed (by kernel_rfl) (by kernel_rfl) (by kernel_rfl) ?_
  intro w7 hs
  replace hF := hF.st hs
  replace hT := hT.t hs; replace hl := hl.t hs; replace hr := hr.t hs; replace hp := hp.t hs; replace h21 := h21.t hs; replace hu22 := hu22.t hs; replace hb := hb.t hs
  refine yM 30 6 ?_
  refine yV (kq 31 (.binOp .gtr 3 (.tmp 30) (.const (.int .i64 0)) 3)) (fun _ => val_is (val_gtr rfl rfl) (show _ = Value.bool false from congrArg Value.bool (decide_eq_false (by omega)))) ?_
  refine yM 32 31 ?_
  refine pX 33 2 true ?_
  refine pX 34 2 true ?_
  refine pX 35 2 true ?_
  refine pX 36 2 true ?_
  refine pX 37 2 true ?_
  refine pX 38 2 true ?_
  refine pX 39 2 true ?_
  refine pX 40 2 true ?_
  refine pX 41 2 true ?_
  refine yAf 42 32 41 ?_
  refine yA 29 42 ?_
  refine Sch.nil ?_
  refine run_cF 29 ?_
  refine run_sk ?_
  refine run_inBlock ?_
  refine run_inBlock ?_
  refine run_pl [yy 0, yy 1] ?_
  refine yV (kq 43 (.binOp .add 3 (.tmp 18) (.const (.int .i64 1)) 3)) (fun _ => val_addi rfl rfl (by omega) (by omega)) ?_
  refine yM 18 43 ?_
  refine Sch.nil ?_
  refine kp (sub_cons 1 rfl rfl (sub_cons 2 rfl rfl (sub_cons 16 rfl rfl (sub_cons 17 rfl rfl (sub_cons 18 rfl (eq_int (by simp)) (sub_nil _)))))) (next1 (k + 1, Cw4) _ ⟨(by first | omega | (simp only; omega)), hF, hT, hl, hr, hp⟩ (by first | omega | (simp only; omega)))
 ·
  have hkl : k = l.length := by omega
  refine run_ex 0 ?_
  refine run_sq ?_
  refine run_pl [yy 0] ?_
  refine yAc 4 (.int .i64 0) ?_
  refine Sch.nil ?_
  refine run_ret1 (by kernel_rfl) Tryz.func15 Tryz.results15 rfl ?_
  exact ⟨rfl, hT.out1 (by decide)⟩
namespace F16
noncomputable def c0 := bodyOf Tryz.f16
noncomputable def c15 := (cr (cl (cr (cr (cr c0)))))
noncomputable def c24 := (cl (cr (cr (cl (cl c15)))))
noncomputable def o7 := rops (cl (cl (cr (cl c24))))
end F16
theorem persons_ok {w₀ : World} {C : Nat → Nat} {l : List (List Couple)} {vl : Value} (hF : Lim w₀ C) (hl : RV w₀ (Mc C) l vl) (h1 : l.length ≤ 1) (hV : ∀ x ∈ l, PsnOK x) : Calls Tryz.prog 16 #[vl] w₀ (Ret fun v w' => v = .int .i64 0 ∧ Stp [] w₀ C w' C) := by
 have hF0 := hF
 have hT := Stp.refl [2, 3, 4, 5, 6, 7, 8, 9] w₀ (col1 C)
 replace hF := hF.col1
 replace hl : RV w₀ (Mc (col1 C)) l vl := by rw [Mc_col1]; exact hl
 refine calls_start (c := F16.c0) (N := 53) [vl] Tryz.func16 (by kernel_rfl) (by kernel_rfl) (by kernel_rfl) ?_
 show Run _ _ _ _ [(0, vl)] _ _
 refine run_sq ?_
 refine run_pl [yy 0] ?_
 refine yAc 2 (.int .i64 0) ?_
 refine Sch.nil ?_
 refine run_sq ?_
 refine run_sq ?_
 refine run_pl [yy 0, yy 1, yy 2] ?_
 refine yM 8 0 ?_
 refine yS (kq 9 (.call { callee := .builtin .len, args := #[(.tmp 8)], argTypes := #[43] })) rfl rfl (fun w' hS => hl.lenV rfl Tryz.underlying43 w' ) ?_
 refine yV (kq 10 (.binOp .gtr 3 (.tmp 9) (.const (.int .i64 4096)) 3)) (fun _ => val_is (val_gtr rfl rfl) (show _ = Value.bool false from congrArg Value.bool (decide_eq_false (by omega)))) ?_
 refine Sch.nil ?_
 refine run_cF 10 ?_
 refine run_sk ?_
 refine run_sq ?_
 refine run_pl [nn 0, yy 1] ?_
 refine aS (kq 11 (.makeMap 81 none)) rfl rfl (a_makeMap hF 5 kvC vvB) ?_
 rintro _ wm ⟨Cm, bm, rfl, hs, hm, hF⟩
 refine ⟨trivial, ?_⟩
 replace hT := hT.t hs; replace hl := hl.t hs
 refine yA 3 11 ?_
 refine Sch.nil ?_
 refine run_sq ?_
 refine run_sq ?_
 refine run_pl [yy 0, yy 1, yy 2] ?_
 refine yM 12 0 ?_
 refine yS (kq 13 (.call { callee := .builtin .len, args := #[(.tmp 12)], argTypes := #[43] })) rfl rfl (fun w' hS => hl.lenV rfl Tryz.underlying43 w' ) ?_
 refine yV (kq 14 (.move (.const (.int .i64 0)))) (fun _ => val_move rfl) ?_
 refine Sch.nil ?_
 refine run_bk 0 ?_
 
 refine run_lp (ι := Nat × (List (Couple × Bool)) × (Nat → Nat)) (I := fun x w => x.1 ≤ l.length ∧ (x.1 = 0 → SeenR x.2.1 []) ∧ Lim w x.2.2 ∧ Stp [2, 3, 4, 5, 6, 7, 8, 9] w₀ (col1 C) w x.2.2 ∧ RV w (Mc x.2.2) l vl ∧ OwnM w x.2.2 5 bm kvC vvB x.2.1) (e := fun x => [(0, vl), (3, .map (some bm)), (12, vl), (13, .int .i64 l.length), (14, .int .i64 x.1)]) (m := fun x => l.length - x.1) (x₀ := (0, [], Cm)) (sr 0 (sr 3 (sr 12 (sr 13 (sr 14 (sub_nil _)))))) ?_ ?_
 · exact ⟨Nat.zero_le _, fun _ => SeenR.nil, hF, hT, hl, hm⟩
 intro ⟨i, m, C1⟩ w1 hI next
 obtain ⟨hi, hS, hF, hT, hl, hm⟩ := hI
 try simp only at hi hS hF hT hl hm
 have next1 := next
 clear next
 show Run _ _ _ _ [(0, vl), (3, .map (some bm)), (12, vl), (13, .int .i64 l.length), (14, .int .i64 i)] _ _
 have hle := hl.le
 refine run_sq ?_
 refine run_pl [yy 0] ?_
 refine yV (kq 15 (.binOp .lss 3 (.tmp 14) (.tmp 13) 3)) (fun _ => val_lss rfl rfl) ?_
 refine Sch.nil ?_
 refine run_sq ?_
 refine run_i 15 rfl (fun h15 => ?_) (fun h15 => ?_)
 ·
  have hil : i < l.length := by omega
  have hok := hV _ (List.getElem_mem hil)
  replace hS := hS (by omega)
  refine run_sk ?_
  refine run_sq ?_
  refine run_bk 1 ?_
  refine run_sq ?_
  refine run_pl [yy 0, yy 1, nn 2, yy 3, yy 4] ?_
  refine yM 16 14 ?_
  refine iS (e := 42) (kq 17 (.indexAddr 43 (.tmp 12) (.tmp 14))) rfl rfl hl rfl (by kernel_rfl) rfl (by omega) (by omega) ?_
  intro b17 o17 h17
  try simp only [Int.toNat_natCast] at h17
  refine lN (kq 18 (.load 42 (.tmp 17))) rfl rfl trivial h17 (by kernel_rfl) rfl rfl ?_
  intro v18 g18
  refine yA 4 16 ?_
  refine yA 5 18 ?_
  refine Sch.nil ?_
  refine run_sq ?_
  refine run_sq ?_
  refine run_draw (id := 7) (ops := F16.o7) [] (C1) [yy 0, nn 1, yy 2, yy 3, yy 4, yy 5, yy 6, yy 7, yy 8, yy 9, yy 10, yy 11, yy 12, yy 13, yy 14, yy 15, yy 16, nn 17, yy 18, yy 19, yy 20] Tryz_mixed (by kernel_rfl) (by kernel_rfl) (by kernel_rfl) ?_
  intro w2 hs
  replace hF := hF.st hs
  replace hT := hT.t hs; replace hl := hl.t hs; replace hm := hm.t hs; replace h17 := h17.t hs; replace g18 := g18.t hs
  have hR := Stp.refl [] w2 (C1)
  refine yM 19 5 ?_
  refine cS (kq 20 (.call { callee := .value (.func 39), args := #[(.tmp 19)], argTypes := #[42] })) rfl rfl (ent Tryz.call39 rfl) (person_ok hF g18 hok) ?_
  rintro vw3 w3 ⟨rfl, hs⟩
  refine ⟨(hR.trans hs (by simp)).ext, ?_⟩
  replace hF := hF.st hs
  replace hT := hT.t hs; replace hl := hl.t hs; replace hm := hm.t hs; replace h17 := h17.t hs; replace g18 := g18.t hs; replace hR := hR.t hs
  refine yV (kq 21 (.unOp .not 4 (.tmp 20))) (fun _ => val_not rfl) ?_
  refine yM 22 21 ?_
  refine yMg 23 4 3 false ?_
  refine yV (kg 24 (.binOp .gtr 3 (.tmp 23) (.const (.int .i64 0)) 3) 3 false) (fun _ => val_is (val_gtr rfl rfl) (show _ = Value.bool false from congrArg Value.bool (decide_eq_false (by omega)))) ?_
  refine yMg 25 24 3 false ?_
  refine pX 26 6 true ?_
  refine pX 27 6 true ?_
  refine pX 28 6 true ?_
  refine pX 29 6 true ?_
  refine pX 30 6 true ?_
  refine pX 31 6 true ?_
  refine pX 32 6 true ?_
  refine pX 33 6 true ?_
  refine pX 34 6 true ?_
  refine pX 35 6 true ?_
  refine pW (kg 36 (.call { callee := .value (.func 40), args := #[(.tmp 32), (.tmp 35)], argTypes := #[35, 35] }) 6 true) rfl rfl hR.ext ?_
  refine pX 37 6 true ?_
  refine yV (kg 38 (.pick (.tmp 25) (.tmp 37) (.const (.bool false))) 3 false) (fun _ => val_pick_f rfl rfl) ?_
  refine yOf 39 22 38 ?_
  refine Sch.nil ?_
  refine run_cF 39 ?_
  refine run_sk ?_
  refine run_sq ?_
  refine run_pl [yy 0, yy 1, yy 2] ?_
  refine yM 40 5 ?_
  refine yS (kq 41 (.call { callee := .builtin .len, args := #[(.tmp 40)], argTypes := #[42] })) rfl rfl (fun w' hS => g18.lenV rfl Tryz.underlying42 w' ) ?_
  refine yV (kq 42 (.move (.const (.int .i64 0)))) (fun _ => val_move rfl) ?_
  refine Sch.nil ?_
  refine run_bk 2 ?_
  
  refine run_lp (ι := Nat × (List (Couple × Bool)) × (Nat → Nat)) (I := fun x w => x.1 ≤ (l[i]'hil).length ∧ SeenR x.2.1 ((l[i]'hil).take x.1) ∧ Lim w x.2.2 ∧ Stp [2, 3, 4, 5, 6, 7, 8, 9] w₀ (col1 C) w x.2.2 ∧ RV w (Mc x.2.2) l vl ∧ OwnM w x.2.2 5 bm kvC vvB x.2.1 ∧ RV w (Mc x.2.2) (l[i]'hil) v18) (e := fun x => [(0, vl), (3, .map (some bm)), (12, vl), (13, .int .i64 l.length), (14, .int .i64 i), (40, v18), (41, .int .i64 (l[i]'hil).length), (42, .int .i64 x.1)]) (m := fun x => (l[i]'hil).length - x.1) (x₀ := (0, m, C1)) (sr 0 (sr 3 (sr 12 (sr 13 (sr 14 (sr 40 (sr 41 (sr 42 (sub_nil _))))))))) ?_ ?_
  · exact ⟨Nat.zero_le _, (by simpa using hS), hF, hT, hl, hm, g18⟩
  intro ⟨j, m, C2⟩ w4 hI next
  obtain ⟨hj, hS, hF, hT, hl, hm, g18⟩ := hI
  try simp only at hj hS hF hT hl hm g18
  have next2 := next
  clear next
  show Run _ _ _ _ [(0, vl), (3, .map (some bm)), (12, vl), (13, .int .i64 l.length), (14, .int .i64 i), (40, v18), (41, .int .i64 (l[i]'hil).length), (42, .int .i64 j)] _ _
  have hle := hl.le
  refine run_sq ?_
  refine run_pl [yy 0] ?_
  refine yV (kq 43 (.binOp .lss 3 (.tmp 42) (.tmp 41) 3)) (fun _ => val_lss rfl rfl) ?_
  refine Sch.nil ?_
  refine run_sq ?_
  refine run_i 43 rfl (fun h43 => ?_) (fun h43 => ?_)
  ·
   have hle2 := g18.le
   have hjl : j < (l[i]'hil).length := by omega
   have hno := hS.not (nodup_take hok.nd hjl)
   refine run_sk ?_
   refine run_sq ?_
   refine run_bk 3 ?_
   refine run_sq ?_
   refine run_pl [yy 0, nn 1, nn 2, nn 3] ?_
   refine iS (e := 35) (kq 44 (.indexAddr 42 (.tmp 40) (.tmp 42))) rfl rfl g18 rfl (by kernel_rfl) rfl (by omega) (by omega) ?_
   intro b44 o44 h44
   try simp only [Int.toNat_natCast] at h44
   refine lNA (kq 45 (.load 35 (.tmp 44))) rfl rfl trivial h44 (by kernel_rfl) (by kernel_rfl) rfl rfl ?_
   intro v45 g45
   obtain rfl := rv_couple.1 g45
   refine aS (kq 7 (.alloc 35)) rfl rfl (a_alloc (cs := [.int .i64 0, .int .i64 0]) hF 6 (by kernel_rfl)) ?_
   rintro _ w5 ⟨Cw5, bw5, rfl, hs, hb, hF⟩
   refine ⟨trivial, ?_⟩
   replace hT := hT.t hs; replace hl := hl.t hs; replace hm := hm.t hs; replace g18 := g18.t hs; replace h44 := h44.t hs
   refine aN (k0 (.store 35 (.tmp 7) (.tmp 45))) rfl (a_storeAll (vs := encR (((l[i]'hil)[j]'hjl))) (n := 2) rfl rfl (by kernel_rfl) rfl rfl (by intro u hu; simp only [encR, List.mem_cons, List.not_mem_nil, or_false] at hu; rcases hu with rfl | rfl <;> rfl) hb rfl) ?_
   rintro _ w6 ⟨rfl, hs, hb⟩
   refine ⟨trivial, ?_⟩
   replace hF := hF.st hs
   replace hT := hT.t hs; replace hl := hl.t hs; replace hm := hm.t hs; replace g18 := g18.t hs; replace h44 := h44.t hs
   refine Sch.nil ?_
   refine run_sq ?_
   refine run_sq ?_
   refine run_pl [yy 0, nn 1, nn 2] ?_
   refine yM 46 3 ?_
   refine nS (kq 47 (.load 35 (.tmp 7))) rfl rfl trivial (val_loadOwnAgg (n := 2) (vs := encR ((l[i]'hil)[j]'hjl)) hb.at_ (by kernel_rfl) (by kernel_rfl) rfl rfl rfl) ?_
   refine nS (kq 48 (.lookup 81 (.tmp 46) (.tmp 47) false)) rfl rfl trivial (val_is (hm.lookup (z0 := false) (k := ((l[i]'hil)[j]'hjl)) Tryz.underlying81 (keyOK_couple Tryz.underlying35 (by decide) (by decide) (by kernel_rfl) Tryz.underlying3) Tryz.zeroValue4 rfl rfl) (show _ = Value.bool false from congrArg Value.bool hno)) ?_
   refine Sch.nil ?_
   refine run_cF 48 ?_
   refine run_sk ?_
   refine run_pl [yy 0, nn 1, nn 2] ?_
   refine yM 49 3 ?_
   refine nS (kq 50 (.load 35 (.tmp 7))) rfl rfl trivial (val_loadOwnAgg (n := 2) (vs := encR ((l[i]'hil)[j]'hjl)) hb.at_ (by kernel_rfl) (by kernel_rfl) rfl rfl rfl) ?_
   refine aN (k0 (.mapUpdate 81 (.tmp 49) (.tmp 50) (.const (.bool true)))) rfl (a_mapUpdate (k := ((l[i]'hil)[j]'hjl)) (u := true) hm Tryz.underlying81 (keyOK_couple Tryz.underlying35 (by decide) (by decide) (by kernel_rfl) Tryz.underlying3) rfl rfl rfl) ?_
   rintro _ w7 ⟨rfl, hs, hm⟩
   refine ⟨trivial, ?_⟩
   replace hF := hF.st hs
   replace hT := hT.t hs; replace hl := hl.t hs; replace g18 := g18.t hs; replace h44 := h44.t hs; replace hb := hb.t hs
   refine Sch.nil ?_
   refine run_inBlock ?_
   refine run_pl [yy 0, yy 1] ?_
   refine yV (kq 51 (.binOp .add 3 (.tmp 42) (.const (.int .i64 1)) 3)) (fun _ => val_addi rfl rfl (by omega) (by omega)) ?_
   refine yM 42 51 ?_
   refine Sch.nil ?_
   refine kp (sub_cons 0 rfl rfl (sub_cons 3 rfl rfl (sub_cons 12 rfl rfl (sub_cons 13 rfl rfl (sub_cons 14 rfl rfl (sub_cons 40 rfl rfl (sub_cons 41 rfl rfl (sub_cons 42 rfl (eq_int (by simp)) (sub_nil _))))))))) (next2 (j + 1, mput m ((l[i]'hil)[j]'hjl) true, Cw5) _ ⟨(by first | omega | (simp only; omega)), (by simp only; rw [List.take_succ_eq_append_getElem hjl]; exact hS.put _), hF, hT, hl, hm, g18⟩ (by first | omega | (simp only; omega)))
  ·
   have hjl : j = (l[i]'hil).length := by omega
   refine run_ex 2 ?_
   refine run_inBlock ?_
   refine run_pl [yy 0, yy 1] ?_
   refine yV (kq 52 (.binOp .add 3 (.tmp 14) (.const (.int .i64 1)) 3)) (fun _ => val_addi rfl rfl (by omega) (by omega)) ?_
   refine yM 14 52 ?_
   refine Sch.nil ?_
   refine kp (sub_cons 0 rfl rfl (sub_cons 3 rfl rfl (sub_cons 12 rfl rfl (sub_cons 13 rfl rfl (sub_cons 14 rfl (eq_int (by simp)) (sub_nil _)))))) (next1 (i + 1, m, C2) _ ⟨(by first | omega | (simp only; omega)), (fun e => by simp only at e; omega), hF, hT, hl, hm⟩ (by first | omega | (simp only; omega)))
 ·
  have hil : i = l.length := by omega
  refine run_ex 0 ?_
  refine run_sq ?_
  refine run_pl [yy 0] ?_
  refine yAc 2 (.int .i64 0) ?_
  refine Sch.nil ?_
  refine run_ret1 (by kernel_rfl) Tryz.func16 Tryz.results16 rfl ?_
  exact ⟨rfl, hT.out1 (by decide)⟩
end Go.Proofs.YtfkggfmibpigpaaGreatDoor
