/- Steps through functions of the program. -/
import Derived.Test.YtdmgmlmlielfbaaGreatJT3
import Derived.Test.YtdmgmlmlielfbaaGreatL3
set_option linter.unusedVariables false
set_option linter.unusedSimpArgs false
set_option maxRecDepth 100000
set_option maxHeartbeats 4000000
namespace Go.Proofs.YtdmgmlmlielfbaaGreat
open Go.K Go.K.Rep
noncomputable section
namespace F104
def c0 := bodyOf Tryz.f104
def o1 := rops (cl (cr c0))
def c9 := (cl (cr (cr (cr (cr c0)))))
def o4 := rops c9
def c10 := (cr (cr (cr (cr (cr c0)))))
def c38 := (cr (cl (cr (cr (cr c10)))))
def c47 := (cl (cr (cr (cl (cl c38)))))
def o16 := rops (cl (cr (cl c47)))
def o17 := rops (cr (cr (cl c47)))
def c55 := (cl (cr (cr (cr (cr c10)))))
def c65 := (cr (cr (cl (cl (cr c55)))))
def o22 := rops (cl (cr (cl (cl c65))))
def o23 := rops (cr (cr (cl (cl c65))))
def c73 := (cr (cr (cr (cr (cr c10)))))
def c80 := (cr (cl (cl (cr (cl c73)))))
def c89 := (cl (cr (cl (cl (cr c80)))))
def o28 := rops c89
def c90 := (cr (cr (cl (cl (cr c80)))))
def c100 := (cr (cr (cl (cl (cr c90)))))
def o32 := rops (cr (cl (cl c100)))
end F104
theorem tnew_all {w₀ : World} {C : Nat → Nat} {n m fw : Nat} {cap : Array Value} {wt : Nat → Nat → Int} {W : Int} (hF : Lim w₀ C) (hn : n ≤ 100000) (hm : m ≤ 100000) (hcall : ∀ args w, (callFunc fw args).run Tryz.prog w = .ok (.enter fw args) w) (hwt : ∀ w1, Stp [] w₀ C w1 C → ∀ i j : Nat, i < n → j < m → Calls Tryz.prog fw ([Value.int .i64 i, Value.int .i64 j] ++ cap.toList).toArray w1 (Ret fun v w2 => v = .int .i64 (wt i j) ∧ Stp [] w1 C w2 C))
    (hW : ∀ i j, i < n → j < m → wt i j ≤ W) (hW0 : 0 ≤ W) (hW1 : W ≤ 288230376151711744) (hWk : ((max n m : Nat) + 1 : Int) * W ≤ 288230376151711744) :
    Calls Tryz.prog 104 #[.int .i64 n, .int .i64 m, .func (.func fw) #[] cap] w₀ (Ret fun v w' => ∃ (b : Nat) (gr : Gr) (U V : Nat → Int), v = .pointer (some ⟨b, 0, none⟩) ∧ Stp [] w₀ C w' C ∧ RA w' (Mc C) gr b 0 ∧ GrIs n m wt U V gr ∧ GiveG w₀ C w' 3 b gr) := by
 have hF0 := hF
 have hT := Stp.refl [2, 3, 4, 5, 6, 7, 8, 9] w₀ (col1 C)
 replace hF := hF.col1
 refine c_st F104.c0 203 [.int .i64 n, .int .i64 m, .func (.func fw) #[] cap] Tryz.func104 ?_
 show Run _ _ _ _ [(0, .int .i64 n), (1, .int .i64 m), (2, .func (.func fw) #[] cap)] _ _
 refine run_sq (run_pl [yy 0] ?_)
 refine yV (kq 6 (.assign (.const (.pointer none)))) (fun _ => val_assign rfl) ?_
 refine Sch.nil (run_sq ?_)
 refine run_many (id := 1) (ops := F104.o1) (C := col1 C) [0, 1, 2, 4, 6] [⟨3, 20, .makeSlice 22 (.tmp 19) (.tmp 19), fun v w C => OwnL w C 3 3 v (List.replicate (n) (0 : Int))⟩, ⟨5, 22, .makeSlice 22 (.tmp 21) (.tmp 21), fun v w C => OwnL w C 4 3 v (List.replicate (m) (0 : Int))⟩, ⟨7, 24, .makeSlice 104 (.tmp 23) (.tmp 23), fun v w C => OwnL w C 5 122 v (List.replicate (n) (⟨.slice none 0 0⟩ : Sv))⟩] [yy 8, nn 9, yy 10] Tryz_mixed (by kernel_rfl) (by kernel_rfl) (by kernel_rfl) hF ?_
 refine ⟨_, _, _, (by kernel_rfl : opAt F104.o1 0 = some (some 17, .move (.tmp 0), none)), rfl, fun w' => val_move rfl, ?_⟩
 refine ⟨_, _, _, (by kernel_rfl : opAt F104.o1 1 = some (some 18, .move (.tmp 1), none)), rfl, fun w' => val_move rfl, ?_⟩
 refine ⟨_, _, _, (by kernel_rfl : opAt F104.o1 2 = some (some 19, .move (.tmp 0), none)), rfl, fun w' => val_move rfl, ?_⟩
 refine ⟨_, _, _, (by kernel_rfl : opAt F104.o1 4 = some (some 21, .move (.tmp 1), none)), rfl, fun w' => val_move rfl, ?_⟩
 refine ⟨_, _, _, (by kernel_rfl : opAt F104.o1 6 = some (some 23, .move (.tmp 0), none)), rfl, fun w' => val_move rfl, ?_⟩
 refine ⟨?_, (by show List.Nodup [3, 5, 7]; decide), (by show List.Nodup [20, 22, 24]; decide), ?_⟩
 ·
  intro m hm
  simp only [List.mem_cons, List.not_mem_nil, or_false] at hm
  rcases hm with rfl | rfl | rfl
  · exact ⟨by kernel_rfl, rfl, rfl, fun w1 C1 hs1 hF1 => a_make (e := 3) (bytes := 8) (x0 := (0 : Int)) (zs := [.int .i64 0]) hF1 (j := 3) (by decide) (by kernel_rfl) (by kernel_rfl) rfl rfl (by omega) (by omega) (by omega) (fun h M => zero_int), fun v w1 C1 w2 C2 h hs => h.st hs (by decide) (by decide)⟩
  · exact ⟨by kernel_rfl, rfl, rfl, fun w1 C1 hs1 hF1 => a_make (e := 3) (bytes := 8) (x0 := (0 : Int)) (zs := [.int .i64 0]) hF1 (j := 4) (by decide) (by kernel_rfl) (by kernel_rfl) rfl rfl (by omega) (by omega) (by omega) (fun h M => zero_int), fun v w1 C1 w2 C2 h hs => h.st hs (by decide) (by decide)⟩
  exact ⟨by kernel_rfl, rfl, rfl, fun w1 C1 hs1 hF1 => a_make (e := 122) (bytes := 24) (x0 := (⟨.slice none 0 0⟩ : Sv)) (zs := [.slice none 0 0]) hF1 (j := 5) (by decide) (by kernel_rfl) (by kernel_rfl) rfl rfl (by omega) (by omega) (by omega) (fun h M => ⟨rfl, rfl⟩), fun v w1 C1 w2 C2 h hs => h.st hs (by decide) (by decide)⟩
 intro val w1 Cw1 s_1 hF hM
 obtain ⟨hU, hV, hE, _⟩ := hM
 replace hU : OwnL w1 Cw1 3 3 (val 3) (List.replicate (n) (0 : Int)) := hU
 replace hV : OwnL w1 Cw1 4 3 (val 5) (List.replicate (m) (0 : Int)) := hV
 replace hE : OwnL w1 Cw1 5 122 (val 7) (List.replicate (n) (⟨.slice none 0 0⟩ : Sv)) := hE
 show Sch _ _ _ _ _ _ _ [yy 8, nn 9, yy 10] ((20, val 3) :: (22, val 5) :: (24, val 7) :: _) _
 refine yV (kq 25 (.build 106 #[(0, (.tmp 17)), (1, (.tmp 18)), (2, (.tmp 20)), (3, (.tmp 22)), (5, (.tmp 24))])) (fun _ => val_build (zs := [.int .i64 0, .int .i64 0, .slice none 0 0, .slice none 0 0, .int .i64 0, .slice none 0 0]) (ps := [(0, 1), (1, 1), (2, 1), (3, 1), (4, 1), (5, 1)]) (qs := [(0, [.int .i64 n]), (1, [.int .i64 m]), (2, [val 3]), (3, [val 5]), (5, [val 7])]) (cs := [.int .i64 n, .int .i64 m, val 3, val 5, .int .i64 0, val 7]) (by kernel_rfl) (by kernel_rfl) ⟨rfl, ⟨_, rfl, rfl⟩, rfl, ⟨_, rfl, rfl⟩, rfl, ⟨_, rfl, hU.one.1⟩, rfl, ⟨_, rfl, hV.one.1⟩, rfl, ⟨_, rfl, hE.one.1⟩, trivial⟩ rfl) ?_
 refine aT (kq 26 (.box 106 (.tmp 25))) rfl rfl (a_box (cs := [.int .i64 n, .int .i64 m, val 3, val 5, .int .i64 0, val 7]) hF 2 rfl rfl) ?_
 rintro _ w2 ⟨Cw2, bw2, rfl, s_2, hg, hF⟩
 refine yA 7 26 ?_
 refine Sch.nil ?_
 obtain ⟨xU, hxU⟩ : ∃ x, x = val 3 := ⟨_, rfl⟩
 obtain ⟨xV, hxV⟩ : ∃ x, x = val 5 := ⟨_, rfl⟩
 obtain ⟨xE, hxE⟩ : ∃ x, x = val 7 := ⟨_, rfl⟩
 replace hU := hU.t s_2
 rw [← hxU] at hU hg
 replace hV := hV.t s_2
 rw [← hxV] at hV hg
 replace hE := hE.t s_2
 rw [← hxE] at hE hg
 clear hxU hxV hxE
 rw [svsF_rep] at hE
 refine run_sq (run_pl [yy 0, yy 1, yy 2, nn 3, yy 4] ?_)
 refine yM 27 0 ?_
 refine yM 28 1 ?_
 refine yM 29 2 ?_
 replace hT := (hT.t s_1).t s_2
 have hwt2 : ∀ w1, Stp [] _ Cw2 w1 Cw2 → ∀ i j : Nat, i < n → j < m → Calls Tryz.prog fw ([Value.int .i64 i, Value.int .i64 j] ++ cap.toList).toArray w1 (Ret fun v w2 => v = .int .i64 (wt i j) ∧ Stp [] w1 Cw2 w2 Cw2) := fun w1 hs1 i j hi hj => (hwt w1 ((hT.out1 (by decide)).trans (hs1.unfrz C) (fun c hc => hc)) i j hi hj).mono (Ret.mono fun v w2 h => ⟨h.1, h.2.unfrz _⟩)
 refine cG 30 133 [27, 28, 29] [3, 3, 111] Tryz.call133 rfl (padded_ok (wt := wt) hF hn hm hcall hwt2) ?_
 rintro xw w3 ⟨s_3, hw⟩
 refine yA 8 30 ?_
 refine Sch.nil (run_sq (run_pl [yy 0, yy 1, yy 2] ?_))
 refine yM 31 8 ?_
 refine yS (kq 32 (.call { callee := .builtin .len, args := #[(.tmp 31)], argTypes := #[158] })) rfl rfl (fun w' hS => hw.lenV rfl Tryz.underlying158 w' ) ?_
 refine yA 9 32 ?_
 refine Sch.nil ?_
 rw [wmL_len]
 have hkm : n ≤ (max n m) ∧ m ≤ (max n m) ∧ (max n m) ≤ 100000 := by omega
 have hcb := cW_bnd (n := n) (m := m) hW0 hW
 obtain ⟨k, hkd⟩ : ∃ k, k = max n m := ⟨_, rfl⟩
 rw [← hkd] at hkm hcb hWk
 rw [← hkd]
 have hwl : (wmL n m wt).length = k := by rw [wmL_len, hkd]
 replace hkd : Hid (k = max n m) := hkd
 refine run_sq ?_
 replace hF := hF.st s_3
 refine run_many (id := 4) (ops := F104.o4) (C := Cw2) [0, 1, 2, 4, 5, 7, 8, 10, 11, 13, 14, 16, 17] [⟨3, 36, .makeSlice 22 (.tmp 35) (.tmp 35), fun v w C => OwnL w C 11 3 v (List.replicate (k + 1) (0 : Int))⟩, ⟨6, 39, .makeSlice 22 (.tmp 38) (.tmp 38), fun v w C => OwnL w C 12 3 v (List.replicate (k + 1) (0 : Int))⟩, ⟨9, 42, .makeSlice 22 (.tmp 41) (.tmp 41), fun v w C => OwnL w C 13 3 v (List.replicate (k + 1) (0 : Nat))⟩, ⟨12, 45, .makeSlice 22 (.tmp 44) (.tmp 44), fun v w C => OwnL w C 14 3 v (List.replicate (k + 1) (0 : Nat))⟩, ⟨15, 48, .makeSlice 22 (.tmp 47) (.tmp 47), fun v w C => OwnL w C 15 3 v (List.replicate (k + 1) (0 : Int))⟩, ⟨18, 51, .makeSlice 122 (.tmp 50) (.tmp 50), fun v w C => OwnL w C 16 4 v (List.replicate (k + 1) false)⟩] [yy 19, nn 20, yy 21] Tryz_mixed (by kernel_rfl) (by kernel_rfl) (by kernel_rfl) hF ?_
 refine ⟨_, _, _, (by kernel_rfl : opAt F104.o4 0 = some (some 33, .move (.tmp 8), none)), rfl, fun w' => val_move rfl, ?_⟩
 refine ⟨_, _, _, (by kernel_rfl : opAt F104.o4 1 = some (some 34, .move (.tmp 9), none)), rfl, fun w' => val_move rfl, ?_⟩
 refine ⟨_, _, _, (by kernel_rfl : opAt F104.o4 2 = some (some 35, .binOp .add 3 (.tmp 34) (.const (.int .i64 1)) 3, none)), rfl, fun w' => val_is (val_addi rfl rfl (by omega) (by omega)) (congrArg (Value.int .i64) (show (k : Int) + 1 = ((k + 1 : Nat) : Int) from by omega)), ?_⟩
 refine ⟨_, _, _, (by kernel_rfl : opAt F104.o4 4 = some (some 37, .move (.tmp 9), none)), rfl, fun w' => val_move rfl, ?_⟩
 refine ⟨_, _, _, (by kernel_rfl : opAt F104.o4 5 = some (some 38, .binOp .add 3 (.tmp 37) (.const (.int .i64 1)) 3, none)), rfl, fun w' => val_is (val_addi rfl rfl (by omega) (by omega)) (congrArg (Value.int .i64) (show (k : Int) + 1 = ((k + 1 : Nat) : Int) from by omega)), ?_⟩
 refine ⟨_, _, _, (by kernel_rfl : opAt F104.o4 7 = some (some 40, .move (.tmp 9), none)), rfl, fun w' => val_move rfl, ?_⟩
 refine ⟨_, _, _, (by kernel_rfl : opAt F104.o4 8 = some (some 41, .binOp .add 3 (.tmp 40) (.const (.int .i64 1)) 3, none)), rfl, fun w' => val_is (val_addi rfl rfl (by omega) (by omega)) (congrArg (Value.int .i64) (show (k : Int) + 1 = ((k + 1 : Nat) : Int) from by omega)), ?_⟩
 refine ⟨_, _, _, (by kernel_rfl : opAt F104.o4 10 = some (some 43, .move (.tmp 9), none)), rfl, fun w' => val_move rfl, ?_⟩
 refine ⟨_, _, _, (by kernel_rfl : opAt F104.o4 11 = some (some 44, .binOp .add 3 (.tmp 43) (.const (.int .i64 1)) 3, none)), rfl, fun w' => val_is (val_addi rfl rfl (by omega) (by omega)) (congrArg (Value.int .i64) (show (k : Int) + 1 = ((k + 1 : Nat) : Int) from by omega)), ?_⟩
 refine ⟨_, _, _, (by kernel_rfl : opAt F104.o4 13 = some (some 46, .move (.tmp 9), none)), rfl, fun w' => val_move rfl, ?_⟩
 refine ⟨_, _, _, (by kernel_rfl : opAt F104.o4 14 = some (some 47, .binOp .add 3 (.tmp 46) (.const (.int .i64 1)) 3, none)), rfl, fun w' => val_is (val_addi rfl rfl (by omega) (by omega)) (congrArg (Value.int .i64) (show (k : Int) + 1 = ((k + 1 : Nat) : Int) from by omega)), ?_⟩
 refine ⟨_, _, _, (by kernel_rfl : opAt F104.o4 16 = some (some 49, .move (.tmp 9), none)), rfl, fun w' => val_move rfl, ?_⟩
 refine ⟨_, _, _, (by kernel_rfl : opAt F104.o4 17 = some (some 50, .binOp .add 3 (.tmp 49) (.const (.int .i64 1)) 3, none)), rfl, fun w' => val_is (val_addi rfl rfl (by omega) (by omega)) (congrArg (Value.int .i64) (show (k : Int) + 1 = ((k + 1 : Nat) : Int) from by omega)), ?_⟩
 refine ⟨?_, (by show List.Nodup [3, 6, 9, 12, 15, 18]; decide), (by show List.Nodup [36, 39, 42, 45, 48, 51]; decide), ?_⟩
 ·
  intro m hm
  simp only [List.mem_cons, List.not_mem_nil, or_false] at hm
  rcases hm with rfl | rfl | rfl | rfl | rfl | rfl
  · exact ⟨by kernel_rfl, rfl, rfl, fun w1 C1 hs1 hF1 => a_make (e := 3) (bytes := 8) (x0 := (0 : Int)) (zs := [.int .i64 0]) hF1 (j := 11) (by decide) (by kernel_rfl) (by kernel_rfl) (l := k + 1) (c := k + 1) rfl rfl (by omega) (by omega) (by omega) (fun h M => zero_int), fun v w1 C1 w2 C2 h s_3 => h.st s_3 (by decide) (by decide)⟩
  · exact ⟨by kernel_rfl, rfl, rfl, fun w1 C1 hs1 hF1 => a_make (e := 3) (bytes := 8) (x0 := (0 : Int)) (zs := [.int .i64 0]) hF1 (j := 12) (by decide) (by kernel_rfl) (by kernel_rfl) (l := k + 1) (c := k + 1) rfl rfl (by omega) (by omega) (by omega) (fun h M => zero_int), fun v w1 C1 w2 C2 h s_3 => h.st s_3 (by decide) (by decide)⟩
  · exact ⟨by kernel_rfl, rfl, rfl, fun w1 C1 hs1 hF1 => a_make (e := 3) (bytes := 8) (x0 := (0 : Nat)) (zs := [.int .i64 0]) hF1 (j := 13) (by decide) (by kernel_rfl) (by kernel_rfl) (l := k + 1) (c := k + 1) rfl rfl (by omega) (by omega) (by omega) (fun h M => rfl), fun v w1 C1 w2 C2 h s_3 => h.st s_3 (by decide) (by decide)⟩
  · exact ⟨by kernel_rfl, rfl, rfl, fun w1 C1 hs1 hF1 => a_make (e := 3) (bytes := 8) (x0 := (0 : Nat)) (zs := [.int .i64 0]) hF1 (j := 14) (by decide) (by kernel_rfl) (by kernel_rfl) (l := k + 1) (c := k + 1) rfl rfl (by omega) (by omega) (by omega) (fun h M => rfl), fun v w1 C1 w2 C2 h s_3 => h.st s_3 (by decide) (by decide)⟩
  · exact ⟨by kernel_rfl, rfl, rfl, fun w1 C1 hs1 hF1 => a_make (e := 3) (bytes := 8) (x0 := (0 : Int)) (zs := [.int .i64 0]) hF1 (j := 15) (by decide) (by kernel_rfl) (by kernel_rfl) (l := k + 1) (c := k + 1) rfl rfl (by omega) (by omega) (by omega) (fun h M => zero_int), fun v w1 C1 w2 C2 h s_3 => h.st s_3 (by decide) (by decide)⟩
  exact ⟨by kernel_rfl, rfl, rfl, fun w1 C1 hs1 hF1 => a_make (e := 4) (bytes := 1) (x0 := false) (zs := [.bool false]) hF1 (j := 16) (by decide) (by kernel_rfl) (by kernel_rfl) (l := k + 1) (c := k + 1) rfl rfl (by omega) (by omega) (by omega) (fun h M => rfl), fun v w1 C1 w2 C2 h s_3 => h.st s_3 (by decide) (by decide)⟩
 intro val w4 Cw4 s_4 hF hM
 obtain ⟨hu, hv, hr, hy, hl, hcc, _⟩ := hM
 replace hu : OwnL w4 Cw4 11 3 (val 3) (List.replicate (k + 1) (0 : Int)) := hu
 replace hv : OwnL w4 Cw4 12 3 (val 6) (List.replicate (k + 1) (0 : Int)) := hv
 replace hr : OwnL w4 Cw4 13 3 (val 9) (List.replicate (k + 1) (0 : Nat)) := hr
 replace hy : OwnL w4 Cw4 14 3 (val 12) (List.replicate (k + 1) (0 : Nat)) := hy
 replace hl : OwnL w4 Cw4 15 3 (val 15) (List.replicate (k + 1) (0 : Int)) := hl
 replace hcc : OwnL w4 Cw4 16 4 (val 18) (List.replicate (k + 1) false) := hcc
 show Sch _ _ _ _ _ _ _ [yy 19, nn 20, yy 21] ((36, val 3) :: (39, val 6) :: (42, val 9) :: (45, val 12) :: (48, val 15) :: (51, val 18) :: _) _
 replace hw := hw.t s_4
 refine yV (kq 52 (.build 162 #[(0, (.tmp 33)), (1, (.tmp 36)), (2, (.tmp 39)), (3, (.tmp 42)), (4, (.tmp 45)), (5, (.tmp 48)), (6, (.tmp 51))])) (fun _ => val_build (zs := [.slice none 0 0, .slice none 0 0, .slice none 0 0, .slice none 0 0, .slice none 0 0, .slice none 0 0, .slice none 0 0]) (ps := [(0, 1), (1, 1), (2, 1), (3, 1), (4, 1), (5, 1), (6, 1)]) (qs := [(0, [xw]), (1, [val 3]), (2, [val 6]), (3, [val 9]), (4, [val 12]), (5, [val 15]), (6, [val 18])]) (cs := [xw, val 3, val 6, val 9, val 12, val 15, val 18]) (by kernel_rfl) (by kernel_rfl) ⟨rfl, ⟨_, rfl, (hw.one rfl).1⟩, rfl, ⟨_, rfl, hu.one.1⟩, rfl, ⟨_, rfl, hv.one.1⟩, rfl, ⟨_, rfl, hr.one.1⟩, rfl, ⟨_, rfl, hy.one.1⟩, rfl, ⟨_, rfl, hl.one.1⟩, rfl, ⟨_, rfl, hcc.one.1⟩, trivial⟩ rfl) ?_
 refine aT (kq 53 (.box 162 (.tmp 52))) rfl rfl (a_box (cs := [xw, val 3, val 6, val 9, val 12, val 15, val 18]) hF 10 rfl rfl) ?_
 rintro _ w5 ⟨Cw5, bw5, rfl, s_5, hsb, hF⟩
 refine yA 10 53 ?_
 refine Sch.nil ?_
 obtain ⟨xu, h_xu⟩ : ∃ x, x = val 3 := ⟨_, rfl⟩
 replace hu := hu.t s_5
 rw [← h_xu] at hu hsb
 clear h_xu
 obtain ⟨xv, h_xv⟩ : ∃ x, x = val 6 := ⟨_, rfl⟩
 replace hv := hv.t s_5
 rw [← h_xv] at hv hsb
 clear h_xv
 obtain ⟨xr, h_xr⟩ : ∃ x, x = val 9 := ⟨_, rfl⟩
 replace hr := hr.t s_5
 rw [← h_xr] at hr hsb
 clear h_xr
 obtain ⟨xy, h_xy⟩ : ∃ x, x = val 12 := ⟨_, rfl⟩
 replace hy := hy.t s_5
 rw [← h_xy] at hy hsb
 clear h_xy
 obtain ⟨xl, h_xl⟩ : ∃ x, x = val 15 := ⟨_, rfl⟩
 replace hl := hl.t s_5
 rw [← h_xl] at hl hsb
 clear h_xl
 obtain ⟨xc, h_xc⟩ : ∃ x, x = val 18 := ⟨_, rfl⟩
 replace hcc := hcc.t s_5
 rw [← h_xc] at hcc hsb
 clear h_xc
 have z1 : gI (List.replicate (k + 1) 0) = fun _ => 0 := funext fun _ => getD_rep
 have z2 : gN (List.replicate (k + 1) 0) = fun _ => 0 := funext fun _ => getD_rep
 refine run_sq (run_sq (run_pl [yy 0, yy 1] ?_))
 refine yM 54 9 ?_
 refine yC 55 (.int .i64 0) ?_
 refine Sch.nil (run_bk 0 ?_)
 replace hT := ((hT.t s_3).t s_4).t s_5
 replace hT : Stp [2, 3, 4, 5, 6, 7, 8, 9, 10, 11, 12, 13, 14, 15, 16] w₀ (col1 C) _ _ := hT.mono (by intro c hc; simp at hc ⊢; omega)
 refine run_lp (ι := Nat × (List Int) × (List Int) × (List Nat) × (List Nat) × (List Int) × (List Bool) × (Nat → Nat)) (I := fun x w => x.1 ≤ k ∧ (x.2.1.length = k + 1 ∧ x.2.2.1.length = k + 1 ∧ x.2.2.2.1.length = k + 1 ∧ x.2.2.2.2.1.length = k + 1 ∧ x.2.2.2.2.2.1.length = k + 1 ∧ x.2.2.2.2.2.2.1.length = k + 1) ∧ HI k (cW (wmL n m wt)) W x.1 (gI x.2.1) (gI x.2.2.1) (gN x.2.2.2.1) ∧ Lim w x.2.2.2.2.2.2.2 ∧ Stp [2, 3, 4, 5, 6, 7, 8, 9, 10, 11, 12, 13, 14, 15, 16] w₀ (col1 C) w x.2.2.2.2.2.2.2 ∧ OwnB w x.2.2.2.2.2.2.2 10 bw5 (.cells [xw, xu, xv, xr, xy, xl, xc].toArray 162) ∧ RV w (Mc x.2.2.2.2.2.2.2) (wmL n m wt) xw ∧ OwnL w x.2.2.2.2.2.2.2 11 3 xu x.2.1 ∧ OwnL w x.2.2.2.2.2.2.2 12 3 xv x.2.2.1 ∧ OwnL w x.2.2.2.2.2.2.2 13 3 xr x.2.2.2.1 ∧ OwnL w x.2.2.2.2.2.2.2 14 3 xy x.2.2.2.2.1 ∧ OwnL w x.2.2.2.2.2.2.2 15 3 xl x.2.2.2.2.2.1 ∧ OwnL w x.2.2.2.2.2.2.2 16 4 xc x.2.2.2.2.2.2.1 ∧ OwnB w x.2.2.2.2.2.2.2 2 bw2 (.cells [.int .i64 n, .int .i64 m, xU, xV, .int .i64 0, xE].toArray 106) ∧ OwnL w x.2.2.2.2.2.2.2 3 3 xU (List.replicate n (0 : Int)) ∧ OwnL w x.2.2.2.2.2.2.2 4 3 xV (List.replicate m (0 : Int)) ∧ OwnL w x.2.2.2.2.2.2.2 5 122 xE (svsF (fun _ => Value.slice none 0 0) n)) (e := fun x => [(0, .int .i64 n), (1, .int .i64 m), (7, .pointer (some ⟨bw2, 0, none⟩)), (8, xw), (9, .int .i64 k), (10, .pointer (some ⟨bw5, 0, none⟩)), (54, .int .i64 k), (55, .int .i64 x.1)]) (m := fun x => k - x.1) (x₀ := (0, List.replicate (k + 1) 0, List.replicate (k + 1) 0, List.replicate (k + 1) 0, List.replicate (k + 1) 0, List.replicate (k + 1) 0, List.replicate (k + 1) false, Cw5)) (sr 0 (sr 1 (sr 7 (sr 8 (sr 9 (sr 10 (sr 54 (sr 55 (sub_nil _))))))))) ?_ ?_
 ·
   replace hU := ((hU.t s_3).t s_4).t s_5; replace hV := ((hV.t s_3).t s_4).t s_5; replace hE := ((hE.t s_3).t s_4).t s_5; replace hg := ((hg.t s_3).t s_4).t s_5; replace hw := hw.t s_5
   exact ⟨Nat.zero_le _, (by simp only [List.length_replicate, and_self]), (by simp only [z1, z2]; exact HI.start hW0 _ _), hF, hT, hsb, hw, hu, hv, hr, hy, hl, hcc, hg, hU, hV, hE⟩
 intro ⟨i, ul, vl, rl, yl, ll, cl, C1⟩ w6 hI next1
 obtain ⟨hi, hls, hI, hF, hT, hsb, hw, hu, hv, hr, hy, hl, hcc, hg, hU, hV, hE⟩ := hI
 try simp only at hi hls hI hF hT hsb hw hu hv hr hy hl hcc hg hU hV hE
 show Run _ _ _ _ [(0, .int .i64 n), (1, .int .i64 m), (7, .pointer (some ⟨bw2, 0, none⟩)), (8, xw), (9, .int .i64 k), (10, .pointer (some ⟨bw5, 0, none⟩)), (54, .int .i64 k), (55, .int .i64 i)] _ _
 obtain ⟨e1, e2, e3, e4, e5, e6⟩ := hls
 refine run_sq (run_pl [yy 0] ?_)
 refine yL 56 3 55 54 ?_
 refine Sch.nil (run_sq ?_)
 refine run_i 56 rfl (fun h56 => ?_) (fun h56 => ?_)
 ·
  have hil : i < k := by omega
  refine run_sk (run_sq (run_bk 1 (run_sq (run_pl [yy 0, yy 1] ?_))))
  refine yM 57 55 ?_
  refine yA 11 57 ?_
  refine Sch.nil (run_pl [yy 0, yy 1, yy 2, nn 3] ?_)
  refine yM 58 10 ?_
  refine yM 59 11 ?_
  refine yV (kq 60 (.binOp .add 3 (.tmp 59) (.const (.int .i64 1)) 3)) (fun _ => val_is (val_addi rfl rfl (by omega) (by omega)) (congrArg (Value.int .i64) (show (i : Int) + 1 = ((i + 1 : Nat) : Int) from by omega))) ?_
  refine cG 61 134 [58, 60] [160, 3] Tryz.call134 rfl (add_ok hF ⟨hsb, hw, hu, hv, hr, hy, hl, hcc, by omega, by omega, by omega, by omega, by omega, by omega⟩ hwl (hkd ▸ wmL_rows) hI hil hcb hW0 hW1 hWk (by omega)) ?_
  rintro vw7 w7 ⟨ul2, vl2, rl2, yl2, ll2, cl2, rfl, s_6, ⟨hsb, hw, hu, hv, hr, hy, hl, hcc, t1, t2, t3, t4, t5, t6⟩, hI⟩
  refine Sch.nil (run_inBlock (run_pl [yy 0, yy 1] ?_))
  refine yI 62 3 55 1 ?_
  refine yM 55 62 ?_
  refine Sch.nil ?_
  replace hF := hF.st s_6; replace hT := hT.t s_6; replace hg := hg.t s_6; replace hU := hU.t s_6; replace hV := hV.t s_6; replace hE := hE.t s_6
  refine kp (sr 0 (sr 1 (sr 7 (sr 8 (sr 9 (sr 10 (sr 54 (sub_cons 55 rfl (eq_int (by simp)) (sub_nil _))))))))) (next1 (i + 1, ul2, vl2, rl2, yl2, ll2, cl2, C1) _ ⟨(by first | omega | (simp only; omega)), (by simp only; omega), hI, hF, hT, hsb, hw, hu, hv, hr, hy, hl, hcc, hg, hU, hV, hE⟩ (by first | omega | (simp only; omega)))
 have hil : k = i := by omega
 clear h56
 subst hil
 replace hF := hF.frz 11
 replace hT := hT.frz (n := 11) (fun b => Nat.lt_of_lt_of_le (col1_lt2 C b) (by decide))
 replace hsb := hsb.frz (n := 11) (by decide)
 replace hw := hw.frz 11
 clear hr
 clear hy
 clear hl
 clear hcc
 replace hg := hg.frz (n := 11) (by decide)
 replace hU := hU.frzK (n := 11) (by decide)
 replace hV := hV.frzK (n := 11) (by decide)
 replace hE := hE.frzK (n := 11) (by decide)
 have hu_ := hu.frz (n := 11) (by decide) (by omega)
 have hv_ := hv.frz (n := 11) (by decide) (by omega)
 replace hu := hu_
 clear hu_
 replace hv := hv_
 clear hv_
 have hkd2 : k = max n m := hkd
 have hPX : ∀ sh : Int, (∀ j, j < k → gI vl (j + 1) ≤ sh) → (0 < k → ∃ j, j < k ∧ gI vl (j + 1) = sh) → _ := fun sh hs1 hs2 => price_bnd (n := n) (m := m) (wt := wt) (W := W) (u := ul) (v := vl) (row := gN rl) (shift := sh) hW0 (by rw [← hkd2]; exact hWk) (by rw [← hkd2]; exact hcb) (by rw [← hkd2]; exact hI) (by rw [← hkd2]; exact hs1) (by rw [← hkd2]; exact hs2)
 have hPNX : ∀ sh : Int, (∀ j, j < k → gI vl (j + 1) ≤ sh) → (0 < k → ∃ j, j < k ∧ gI vl (j + 1) = sh) → _ := fun sh hs1 hs2 => prices_new (n := n) (m := m) (wt := wt) (W := W) (u := ul) (v := vl) (row := gN rl) (shift := sh) (by rw [← hkd2]; exact hI) (by rw [← hkd2]; exact hs1) (by rw [← hkd2]; exact hs2)
 rw [← hkd2] at hPX
 have hub : ∀ q, q < k → -288230376151711744 ≤ gI ul (q + 1) ∧ gI ul (q + 1) ≤ 0 := fun q hq => by have := hI.ulb (q + 1) (by omega) (by omega); omega
 have hvb : ∀ q, q < k → -288230376151711744 ≤ gI vl (q + 1) ∧ gI vl (q + 1) ≤ 0 := fun q hq => by
   refine ⟨?_, hI.vn (q + 1) (by omega) (by omega)⟩
   by_cases e : gN rl (q + 1) = 0
   · rw [hI.vfree (q + 1) (by omega) (by omega) e]; omega
   have h1 := hI.tight (q + 1) (by omega) (by omega) e
   have hr := hI.rng (q + 1) (by omega) (by omega)
   have h2 := hI.ulb (gN rl (q + 1)) (by omega) hr
   have h3 := hcb (gN rl (q + 1)) (q + 1) (by omega) hr (by omega) (by omega)
   omega
 clear hkd2 hcb
 obtain ⟨hkm1, hkm2, hkm3⟩ := hkm
 replace hkd : Hid (k = max n m) := hkd
 replace hW0 : Hid (0 ≤ W) := hW0
 replace hW1 : Hid (W ≤ 288230376151711744) := hW1
 replace hWk : Hid (((k : Nat) + 1 : Int) * W ≤ 288230376151711744) := hWk
 clear e3 e4 e5 e6
 refine run_ex 0 ?_
 refine run_sq (run_pl [yy 0] ?_)
 refine yAc 12 (.int .i64 0) ?_
 refine Sch.nil (run_sq (run_sq (run_pl [yy 0, yy 1] ?_)))
 refine yM 63 9 ?_
 refine yV (kq 64 (.binOp .gtr 3 (.tmp 63) (.const (.int .i64 0)) 3)) (fun _ => val_gtr rfl rfl) ?_
 refine Sch.nil ?_
 refine run_join (ι := Int × (Nat → Nat)) (k := [.code (K.cr (K.cr (K.cr F104.c10)))]) (I := fun x w => (-288230376151711744 ≤ x.1 ∧ x.1 ≤ 0) ∧ (∀ t, t ≤ k → -576460752303423488 ≤ sumN t (pU ul x.1) ∧ sumN t (pU ul x.1) ≤ 576460752303423488) ∧ (∀ t, t ≤ k → 0 ≤ sumN t (pV vl x.1) ∧ sumN t (pV vl x.1) ≤ 576460752303423488) ∧ (∀ i, i < k → 0 ≤ pU ul x.1 i) ∧ (Pr n m (pos wt) (pU ul x.1) (pV vl x.1) ∧ ∃ f, Tg n m (pos wt) (pU ul x.1) (pV vl x.1) f) ∧ Lim w x.2 ∧ Stp [2, 3, 4, 5, 6, 7, 8, 9, 10, 11, 12, 13, 14, 15, 16] w₀ (col1 C) w x.2 ∧ RV w (Mc x.2) (wmL n m wt) xw ∧ OwnB w x.2 10 bw5 (.cells [xw, xu, xv, xr, xy, xl, xc].toArray 162) ∧ RV w (Mc x.2) ul xu ∧ RV w (Mc x.2) vl xv ∧ OwnB w x.2 2 bw2 (.cells [.int .i64 n, .int .i64 m, xU, xV, .int .i64 0, xE].toArray 106) ∧ OwnL w x.2 3 3 xU (List.replicate n (0 : Int)) ∧ OwnL w x.2 4 3 xV (List.replicate m (0 : Int)) ∧ OwnL w x.2 5 122 xE (svsF (fun _ => Value.slice none 0 0) n)) (e := fun x => [(0, .int .i64 n), (1, .int .i64 m), (7, .pointer (some ⟨bw2, 0, none⟩)), (8, xw), (10, .pointer (some ⟨bw5, 0, none⟩)), (12, .int .i64 x.1)]) ?_ ?_
 ·
  intro ⟨sh, C1⟩ w8 hI
  obtain ⟨hshb, b3, b4, b5, hPN, hF, hT, hw, hsb, hu, hv, hg, hU, hV, hE⟩ := hI
  try simp only at *
  show Run _ _ _ _ [(0, .int .i64 n), (1, .int .i64 m), (7, .pointer (some ⟨bw2, 0, none⟩)), (8, xw), (10, .pointer (some ⟨bw5, 0, none⟩)), (12, .int .i64 sh)] _ _
  refine run_sq (run_sq (run_pl [yy 0, yy 1] ?_))
  refine yM 71 0 ?_
  refine yC 72 (.int .i64 0) ?_
  refine Sch.nil (run_bk 2 ?_)
  refine run_lp (ι := Nat × (List Int) × (Nat → Nat)) (I := fun x w => x.1 ≤ n ∧ x.2.1.length = n ∧ (∀ q, q < x.1 → gI x.2.1 q = (pU ul sh) q) ∧ Lim w x.2.2 ∧ Stp [2, 3, 4, 5, 6, 7, 8, 9, 10, 11, 12, 13, 14, 15, 16] w₀ (col1 C) w x.2.2 ∧ RV w (Mc x.2.2) (wmL n m wt) xw ∧ OwnB w x.2.2 10 bw5 (.cells [xw, xu, xv, xr, xy, xl, xc].toArray 162) ∧ RV w (Mc x.2.2) ul xu ∧ RV w (Mc x.2.2) vl xv ∧ OwnB w x.2.2 2 bw2 (.cells [.int .i64 n, .int .i64 m, xU, xV, .int .i64 (sumN x.1 (pU ul sh)), xE].toArray 106) ∧ OwnL w x.2.2 3 3 xU x.2.1 ∧ OwnL w x.2.2 4 3 xV (List.replicate m (0 : Int)) ∧ OwnL w x.2.2 5 122 xE (svsF (fun _ => Value.slice none 0 0) n)) (e := fun x => [(0, .int .i64 n), (1, .int .i64 m), (7, .pointer (some ⟨bw2, 0, none⟩)), (8, xw), (10, .pointer (some ⟨bw5, 0, none⟩)), (12, .int .i64 sh), (71, .int .i64 n), (72, .int .i64 x.1)]) (m := fun x => n - x.1) (x₀ := (0, List.replicate n 0, C1)) (sr 0 (sr 1 (sr 7 (sr 8 (sr 10 (sr 12 (sr 71 (sr 72 (sub_nil _))))))))) ?_ ?_
  · exact ⟨Nat.zero_le _, (by simp only; exact List.length_replicate), (fun q hq => by simp only at hq; omega), hF, hT, hw, hsb, hu, hv, hg, hU, hV, hE⟩
  intro ⟨p, Ul, C1⟩ w9 hI next2
  obtain ⟨hp, hUl, hUv, hF, hT, hw, hsb, hu, hv, hg, hU, hV, hE⟩ := hI
  try simp only at hp hUl hUv hF hT hw hsb hu hv hg hU hV hE
  show Run _ _ _ _ [(0, .int .i64 n), (1, .int .i64 m), (7, .pointer (some ⟨bw2, 0, none⟩)), (8, xw), (10, .pointer (some ⟨bw5, 0, none⟩)), (12, .int .i64 sh), (71, .int .i64 n), (72, .int .i64 p)] _ _
  refine run_sq (run_pl [yy 0] ?_)
  refine yL 73 3 72 71 ?_
  refine Sch.nil (run_sq ?_)
  refine run_i 73 rfl (fun h73 => ?_) (fun h73 => ?_)
  ·
   have hpl : p < n := by omega
   have hup := hub p (by omega)
   rw [show gI ul (p + 1) = ul[p + 1]'(by omega) from getD_in _] at hup
   have hval : -(ul[p + 1]'(by omega)) - sh = pU ul sh p := by unfold pU; rw [show gI ul (p + 1) = ul[p + 1]'(by omega) from getD_in _]
   have c1 := b3 p (by omega)
   have c2 := b3 (p + 1) (by omega)
   rw [show sumN (p + 1) (pU ul sh) = sumN p (pU ul sh) + (pU ul sh) p from rfl] at c2
   refine run_sk (run_sq (run_bk 3 (run_sq (run_pl [yy 0, yy 1] ?_))))
   refine yM 74 72 ?_
   refine yA 13 74 ?_
   refine Sch.nil (run_sq ?_)
   refine run_draw (id := 16) (ops := F104.o16) [3] (C1) [yy 0, yy 1, yy 2, yy 3, yy 4, yy 5, yy 6, yy 7, yy 8, yy 9, yy 10, yy 11, yy 12, yy 13, yy 14, yy 15, yy 16, nn 17] Tryz_mixed (by kernel_rfl) (by kernel_rfl) (by kernel_rfl) ?_
   intro w10 s_7
   have hR := Stp.refl [3] w10 (C1)
   refine yM 75 7 ?_
   refine yN 76 75 ?_
   refine yF 77 106 76 2 2 ?_
   replace hg := hg.t s_7
   refine yS (kq 78 (.load 22 (.tmp 77))) rfl rfl (fun w' hS => val_loadOwn (hg.sy hS) (by kernel_rfl) rfl rfl) ?_
   refine yM 79 13 ?_
   refine yM 80 10 ?_
   refine yN 81 80 ?_
   refine yF 82 162 81 1 1 ?_
   replace hsb := hsb.t s_7
   refine yS (kq 83 (.load 22 (.tmp 82))) rfl rfl (fun w' hS => val_loadOwn (hsb.sy hS) (by kernel_rfl) rfl rfl) ?_
   refine yM 84 13 ?_
   refine yI 85 3 84 1 ?_
   replace hu := hu.t s_7
   refine iR 3 86 22 83 85 hu rfl (h := ?_)
   intro b86 o86 h86
   try simp only [Int.toNat_natCast] at h86
   simp only [show ((p : Int) + 1).toNat = p + 1 from by omega] at h86
   refine lS (kq 87 (.load 3 (.tmp 86))) rfl rfl (fun w' hS => h86.sy hS) h86 (by kernel_rfl) rfl rfl ?_
   intro v87 g87
   first | (obtain rfl := rv_nat.1 g87) | (obtain rfl := rv_int.1 g87)
   refine yV (kq 88 (.unOp .neg 3 (.tmp 87))) (fun _ => val_negi rfl (by omega) (by omega)) ?_
   refine yM 89 12 ?_
   refine yV (kq 90 (.binOp .sub 3 (.tmp 88) (.tmp 89) 3)) (fun _ => val_subi rfl rfl (by omega) (by omega)) ?_
   rw [hval]
   replace hU := hU.t s_7
   refine oR 3 91 22 78 79 hU rfl (by omega) (h := ?_)
   intro g91 hg91
   try simp only [Int.toNat_natCast]
   refine Sch.free rfl ?_
   refine aU (k0 (.store 3 (.tmp 91) (.tmp 90))) rfl (a_storeO hU hg91 (by omega) rfl rfl (by kernel_rfl) (rv_int.2 rfl)) ?_
   rintro _ w11 ⟨rfl, s_8, hU⟩
   refine Sch.nil ?_
   have hnl : (Ul.set p ((pU ul sh) p)).length = n := by rw [List.length_set]; exact hUl
   have hnv : (Ul.set p ((pU ul sh) p))[p]'(by omega) = (pU ul sh) p := List.getElem_set_self _
   refine run_draw2 (id := 17) (ops := F104.o17) [2] (C1) [0, 1, 2, 4, 5, 6, 8] 3 [nn 7, yy 9, yy 10, yy 11, yy 12, yy 13, nn 14] 7 [yy 9, yy 10, nn 3, yy 11, yy 12, yy 13, nn 14] Tryz_mixed (by kernel_rfl) (by kernel_rfl) (by kernel_rfl) ?_ ?_
   ·
    intro w12 s_9
    show Sch _ _ _ _ _ _ _ [yy 0, yy 1, yy 2, yy 4, yy 5, yy 6, yy 8, nn 3, nn 7, yy 9, yy 10, yy 11, yy 12, yy 13, nn 14] _ _
    have hR := Stp.refl [2] w12 (C1)
    refine yM 92 7 ?_
    refine yN 93 92 ?_
    refine yF 94 106 93 4 4 ?_
    refine yM 96 7 ?_
    refine yN 97 96 ?_
    refine yF 98 106 97 2 2 ?_
    refine yM 100 13 ?_
    replace hg := (hg.t s_8).t s_9
    refine nS (kq 95 (.load 3 (.tmp 94))) rfl rfl hR.ext (val_loadOwn hg.at_ (by kernel_rfl) rfl rfl) ?_
    refine nS (kq 99 (.load 22 (.tmp 98))) rfl rfl hR.ext (val_loadOwn hg.at_ (by kernel_rfl) rfl rfl) ?_
    replace hU := hU.t s_9
    refine oR 3 101 22 99 100 hU rfl (by omega) (h := ?_)
    intro g101 hg101
    try simp only [Int.toNat_natCast]
    refine oS (I := [2]) (kq 102 (.load 3 (.tmp 101))) rfl rfl hU hg101 (fun w' hS => hU.sy hg101 hS) (by omega) (by kernel_rfl) rfl rfl ?_
    intro v102 g102
    try simp only [Int.toNat_natCast] at g102
    first | (obtain rfl := rv_nat.1 g102) | (obtain rfl := rv_int.1 g102)
    rw [hnv]
    refine yV (kq 103 (.binOp .add 3 (.tmp 95) (.tmp 102) 3)) (fun _ => val_addi rfl rfl (by omega) (by omega)) ?_
    refine yN 104 92 ?_
    refine yF 105 106 104 4 4 ?_
    refine Sch.free rfl ?_
    refine aU (k0 (.store 3 (.tmp 105) (.tmp 103))) rfl (a_store1 rfl rfl (by kernel_rfl) rfl rfl hg (by simp)) ?_
    rintro _ w13 ⟨rfl, s_10, hg⟩
    simp only [List.set_cons_succ, List.set_cons_zero] at hg
    refine Sch.nil (run_inBlock (run_pl [yy 0, yy 1] ?_))
    refine yI 106 3 72 1 ?_
    refine yM 72 106 ?_
    refine Sch.nil ?_
    replace hF := (((hF.st s_7).st s_8).st s_9).st s_10; replace hT := (((hT.t s_7).t s_8).t s_9).t s_10; replace hw := (((hw.t s_7).t s_8).t s_9).t s_10; replace hv := (((hv.t s_7).t s_8).t s_9).t s_10; replace hV := (((hV.t s_7).t s_8).t s_9).t s_10; replace hE := (((hE.t s_7).t s_8).t s_9).t s_10; replace hsb := ((hsb.t s_8).t s_9).t s_10; replace hu := ((hu.t s_8).t s_9).t s_10; replace hU := hU.t s_10
    refine kp (sub_cons 0 rfl rfl (sub_cons 1 rfl rfl (sub_cons 7 rfl rfl (sub_cons 8 rfl rfl (sub_cons 10 rfl rfl (sub_cons 12 rfl rfl (sub_cons 71 rfl rfl (sub_cons 72 rfl (eq_int (by simp)) (sub_nil _))))))))) (next2 (p + 1, Ul.set p ((pU ul sh) p), C1) _ ⟨(by first | omega | (simp only; omega)), (by simp only [List.length_set]; exact hUl), (fun q hq => by
         simp only at hq ⊢
         show (Ul.set p _).getD q 0 = _
         rw [getD_set (by omega)]
         split
         · rename_i e; subst e; rfl
         · exact hUv q (by omega)), hF, hT, hw, hsb, hu, hv, hg, hU, hV, hE⟩ (by first | omega | (simp only; omega)))
   intro w14 s_11
   show Sch _ _ _ _ _ _ _ [yy 0, yy 1, yy 2, yy 4, yy 5, yy 6, yy 8, nn 7, yy 9, yy 10, nn 3, yy 11, yy 12, yy 13, nn 14] _ _
   have hR := Stp.refl [2] w14 (C1)
   refine yM 92 7 ?_
   refine yN 93 92 ?_
   refine yF 94 106 93 4 4 ?_
   refine yM 96 7 ?_
   refine yN 97 96 ?_
   refine yF 98 106 97 2 2 ?_
   refine yM 100 13 ?_
   replace hg := (hg.t s_8).t s_11
   refine nS (kq 99 (.load 22 (.tmp 98))) rfl rfl hR.ext (val_loadOwn hg.at_ (by kernel_rfl) rfl rfl) ?_
   replace hU := hU.t s_11
   refine oR 3 101 22 99 100 hU rfl (by omega) (h := ?_)
   intro g101 hg101
   try simp only [Int.toNat_natCast]
   refine oS (I := [2]) (kq 102 (.load 3 (.tmp 101))) rfl rfl hU hg101 (fun w' hS => hU.sy hg101 hS) (by omega) (by kernel_rfl) rfl rfl ?_
   intro v102 g102
   try simp only [Int.toNat_natCast] at g102
   first | (obtain rfl := rv_nat.1 g102) | (obtain rfl := rv_int.1 g102)
   rw [hnv]
   refine nS (kq 95 (.load 3 (.tmp 94))) rfl rfl hR.ext (val_loadOwn hg.at_ (by kernel_rfl) rfl rfl) ?_
   refine yV (kq 103 (.binOp .add 3 (.tmp 95) (.tmp 102) 3)) (fun _ => val_addi rfl rfl (by omega) (by omega)) ?_
   refine yN 104 92 ?_
   refine yF 105 106 104 4 4 ?_
   refine Sch.free rfl ?_
   refine aU (k0 (.store 3 (.tmp 105) (.tmp 103))) rfl (a_store1 rfl rfl (by kernel_rfl) rfl rfl hg (by simp)) ?_
   rintro _ w15 ⟨rfl, s_12, hg⟩
   simp only [List.set_cons_succ, List.set_cons_zero] at hg
   refine Sch.nil (run_inBlock (run_pl [yy 0, yy 1] ?_))
   refine yI 106 3 72 1 ?_
   refine yM 72 106 ?_
   refine Sch.nil ?_
   replace hF := (((hF.st s_7).st s_8).st s_11).st s_12; replace hT := (((hT.t s_7).t s_8).t s_11).t s_12; replace hw := (((hw.t s_7).t s_8).t s_11).t s_12; replace hv := (((hv.t s_7).t s_8).t s_11).t s_12; replace hV := (((hV.t s_7).t s_8).t s_11).t s_12; replace hE := (((hE.t s_7).t s_8).t s_11).t s_12; replace hsb := ((hsb.t s_8).t s_11).t s_12; replace hu := ((hu.t s_8).t s_11).t s_12; replace hU := hU.t s_12
   refine kp (sub_cons 0 rfl rfl (sub_cons 1 rfl rfl (sub_cons 7 rfl rfl (sub_cons 8 rfl rfl (sub_cons 10 rfl rfl (sub_cons 12 rfl rfl (sub_cons 71 rfl rfl (sub_cons 72 rfl (eq_int (by simp)) (sub_nil _))))))))) (next2 (p + 1, Ul.set p ((pU ul sh) p), C1) _ ⟨(by first | omega | (simp only; omega)), (by simp only [List.length_set]; exact hUl), (fun q hq => by
         simp only at hq ⊢
         show (Ul.set p _).getD q 0 = _
         rw [getD_set (by omega)]
         split
         · rename_i e; subst e; rfl
         · exact hUv q (by omega)), hF, hT, hw, hsb, hu, hv, hg, hU, hV, hE⟩ (by first | omega | (simp only; omega)))
  obtain rfl : n = p := by omega
  have hUv2 := hUv
  refine run_ex 2 ?_
  refine run_sq (run_sq (run_pl [yy 0, yy 1] ?_))
  refine yM 107 1 ?_
  refine yC 108 (.int .i64 0) ?_
  refine Sch.nil (run_bk 4 ?_)
  refine run_lp (ι := Nat × (List Int) × (Nat → Nat)) (I := fun x w => x.1 ≤ m ∧ x.2.1.length = m ∧ (∀ q, q < x.1 → gI x.2.1 q = (pV vl sh) q) ∧ Lim w x.2.2 ∧ Stp [2, 3, 4, 5, 6, 7, 8, 9, 10, 11, 12, 13, 14, 15, 16] w₀ (col1 C) w x.2.2 ∧ RV w (Mc x.2.2) (wmL n m wt) xw ∧ OwnB w x.2.2 10 bw5 (.cells [xw, xu, xv, xr, xy, xl, xc].toArray 162) ∧ RV w (Mc x.2.2) ul xu ∧ RV w (Mc x.2.2) vl xv ∧ OwnB w x.2.2 2 bw2 (.cells [.int .i64 n, .int .i64 m, xU, xV, .int .i64 (sumN n (pU ul sh) + sumN x.1 (pV vl sh)), xE].toArray 106) ∧ OwnL w x.2.2 3 3 xU Ul ∧ OwnL w x.2.2 4 3 xV x.2.1 ∧ OwnL w x.2.2 5 122 xE (svsF (fun _ => Value.slice none 0 0) n)) (e := fun x => [(0, .int .i64 n), (1, .int .i64 m), (7, .pointer (some ⟨bw2, 0, none⟩)), (8, xw), (10, .pointer (some ⟨bw5, 0, none⟩)), (12, .int .i64 sh), (107, .int .i64 m), (108, .int .i64 x.1)]) (m := fun x => m - x.1) (x₀ := (0, List.replicate m 0, C1)) (sr 0 (sr 1 (sr 7 (sr 8 (sr 10 (sr 12 (sr 107 (sr 108 (sub_nil _))))))))) ?_ ?_
  · exact ⟨Nat.zero_le _, (by simp only; exact List.length_replicate), (fun q hq => by simp only at hq; omega), hF, hT, hw, hsb, hu, hv, by simpa [sumN] using hg, hU, hV, hE⟩
  intro ⟨p, Vl, C1⟩ w16 hI next3
  obtain ⟨hp, hVl, hVv, hF, hT, hw, hsb, hu, hv, hg, hU, hV, hE⟩ := hI
  try simp only at hp hVl hVv hF hT hw hsb hu hv hg hU hV hE
  show Run _ _ _ _ [(0, .int .i64 n), (1, .int .i64 m), (7, .pointer (some ⟨bw2, 0, none⟩)), (8, xw), (10, .pointer (some ⟨bw5, 0, none⟩)), (12, .int .i64 sh), (107, .int .i64 m), (108, .int .i64 p)] _ _
  refine run_sq (run_pl [yy 0] ?_)
  refine yL 109 3 108 107 ?_
  refine Sch.nil (run_sq ?_)
  refine run_i 109 rfl (fun h109 => ?_) (fun h109 => ?_)
  ·
   have hpl : p < m := by omega
   have hvp := hvb p (by omega)
   rw [show gI vl (p + 1) = vl[p + 1]'(by omega) from getD_in _] at hvp
   have hval : sh - vl[p + 1]'(by omega) = pV vl sh p := by unfold pV; rw [show gI vl (p + 1) = vl[p + 1]'(by omega) from getD_in _]
   have c0 := b3 n (by omega)
   have c1 := b4 p (by omega)
   have c2 := b4 (p + 1) (by omega)
   rw [show sumN (p + 1) (pV vl sh) = sumN p (pV vl sh) + (pV vl sh) p from rfl] at c2
   refine run_sk (run_sq (run_bk 5 (run_sq (run_pl [yy 0, yy 1] ?_))))
   refine yM 110 108 ?_
   refine yA 14 110 ?_
   refine Sch.nil (run_sq ?_)
   refine run_draw (id := 22) (ops := F104.o22) [4] (C1) [yy 0, yy 1, yy 2, yy 3, yy 4, yy 5, yy 6, yy 7, yy 8, yy 9, yy 10, yy 11, yy 12, yy 13, yy 14, yy 15, nn 16] Tryz_mixed (by kernel_rfl) (by kernel_rfl) (by kernel_rfl) ?_
   intro w17 s_13
   have hR := Stp.refl [4] w17 (C1)
   refine yM 111 7 ?_
   refine yN 112 111 ?_
   refine yF 113 106 112 3 3 ?_
   replace hg := hg.t s_13
   refine yS (kq 114 (.load 22 (.tmp 113))) rfl rfl (fun w' hS => val_loadOwn (hg.sy hS) (by kernel_rfl) rfl rfl) ?_
   refine yM 115 14 ?_
   refine yM 116 12 ?_
   refine yM 117 10 ?_
   refine yN 118 117 ?_
   refine yF 119 162 118 2 2 ?_
   replace hsb := hsb.t s_13
   refine yS (kq 120 (.load 22 (.tmp 119))) rfl rfl (fun w' hS => val_loadOwn (hsb.sy hS) (by kernel_rfl) rfl rfl) ?_
   refine yM 121 14 ?_
   refine yI 122 3 121 1 ?_
   replace hv := hv.t s_13
   refine iR 3 123 22 120 122 hv rfl (h := ?_)
   intro b123 o123 h123
   try simp only [Int.toNat_natCast] at h123
   simp only [show ((p : Int) + 1).toNat = p + 1 from by omega] at h123
   refine lS (kq 124 (.load 3 (.tmp 123))) rfl rfl (fun w' hS => h123.sy hS) h123 (by kernel_rfl) rfl rfl ?_
   intro v124 g124
   first | (obtain rfl := rv_nat.1 g124) | (obtain rfl := rv_int.1 g124)
   refine yV (kq 125 (.binOp .sub 3 (.tmp 116) (.tmp 124) 3)) (fun _ => val_subi rfl rfl (by omega) (by omega)) ?_
   rw [hval]
   replace hV := hV.t s_13
   refine oR 3 126 22 114 115 hV rfl (by omega) (h := ?_)
   intro g126 hg126
   try simp only [Int.toNat_natCast]
   refine Sch.free rfl ?_
   refine aU (k0 (.store 3 (.tmp 126) (.tmp 125))) rfl (a_storeO hV hg126 (by omega) rfl rfl (by kernel_rfl) (rv_int.2 rfl)) ?_
   rintro _ w18 ⟨rfl, s_14, hV⟩
   refine Sch.nil ?_
   have hnl : (Vl.set p ((pV vl sh) p)).length = m := by rw [List.length_set]; exact hVl
   have hnv : (Vl.set p ((pV vl sh) p))[p]'(by omega) = (pV vl sh) p := List.getElem_set_self _
   refine run_draw2 (id := 23) (ops := F104.o23) [2] (C1) [0, 1, 2, 4, 5, 6, 8] 3 [nn 7, yy 9, yy 10, yy 11, yy 12, yy 13, nn 14] 7 [yy 9, yy 10, nn 3, yy 11, yy 12, yy 13, nn 14] Tryz_mixed (by kernel_rfl) (by kernel_rfl) (by kernel_rfl) ?_ ?_
   ·
    intro w19 s_15
    show Sch _ _ _ _ _ _ _ [yy 0, yy 1, yy 2, yy 4, yy 5, yy 6, yy 8, nn 3, nn 7, yy 9, yy 10, yy 11, yy 12, yy 13, nn 14] _ _
    have hR := Stp.refl [2] w19 (C1)
    refine yM 127 7 ?_
    refine yN 128 127 ?_
    refine yF 129 106 128 4 4 ?_
    refine yM 131 7 ?_
    refine yN 132 131 ?_
    refine yF 133 106 132 3 3 ?_
    refine yM 135 14 ?_
    replace hg := (hg.t s_14).t s_15
    refine nS (kq 130 (.load 3 (.tmp 129))) rfl rfl hR.ext (val_loadOwn hg.at_ (by kernel_rfl) rfl rfl) ?_
    refine nS (kq 134 (.load 22 (.tmp 133))) rfl rfl hR.ext (val_loadOwn hg.at_ (by kernel_rfl) rfl rfl) ?_
    replace hV := hV.t s_15
    refine oR 3 136 22 134 135 hV rfl (by omega) (h := ?_)
    intro g136 hg136
    try simp only [Int.toNat_natCast]
    refine oS (I := [2]) (kq 137 (.load 3 (.tmp 136))) rfl rfl hV hg136 (fun w' hS => hV.sy hg136 hS) (by omega) (by kernel_rfl) rfl rfl ?_
    intro v137 g137
    try simp only [Int.toNat_natCast] at g137
    first | (obtain rfl := rv_nat.1 g137) | (obtain rfl := rv_int.1 g137)
    rw [hnv]
    refine yV (kq 138 (.binOp .add 3 (.tmp 130) (.tmp 137) 3)) (fun _ => val_addi rfl rfl (by omega) (by omega)) ?_
    refine yN 139 127 ?_
    refine yF 140 106 139 4 4 ?_
    refine Sch.free rfl ?_
    refine aU (k0 (.store 3 (.tmp 140) (.tmp 138))) rfl (a_store1 rfl rfl (by kernel_rfl) rfl rfl hg (by simp)) ?_
    rintro _ w20 ⟨rfl, s_16, hg⟩
    simp only [List.set_cons_succ, List.set_cons_zero] at hg
    refine Sch.nil (run_inBlock (run_pl [yy 0, yy 1] ?_))
    refine yI 141 3 108 1 ?_
    refine yM 108 141 ?_
    refine Sch.nil ?_
    replace hF := (((hF.st s_13).st s_14).st s_15).st s_16; replace hT := (((hT.t s_13).t s_14).t s_15).t s_16; replace hw := (((hw.t s_13).t s_14).t s_15).t s_16; replace hu := (((hu.t s_13).t s_14).t s_15).t s_16; replace hU := (((hU.t s_13).t s_14).t s_15).t s_16; replace hE := (((hE.t s_13).t s_14).t s_15).t s_16; replace hsb := ((hsb.t s_14).t s_15).t s_16; replace hv := ((hv.t s_14).t s_15).t s_16; replace hV := hV.t s_16
    refine kp (sub_cons 0 rfl rfl (sub_cons 1 rfl rfl (sub_cons 7 rfl rfl (sub_cons 8 rfl rfl (sub_cons 10 rfl rfl (sub_cons 12 rfl rfl (sub_cons 107 rfl rfl (sub_cons 108 rfl (eq_int (by simp)) (sub_nil _))))))))) (next3 (p + 1, Vl.set p ((pV vl sh) p), C1) _ ⟨(by first | omega | (simp only; omega)), (by simp only [List.length_set]; exact hVl), (fun q hq => by
          simp only at hq ⊢
          show (Vl.set p _).getD q 0 = _
          rw [getD_set (by omega)]
          split
          · rename_i e; subst e; rfl
          · exact hVv q (by omega)), hF, hT, hw, hsb, hu, hv, (by simp only [sumN]; rw [← Int.add_assoc]; exact hg), hU, hV, hE⟩ (by first | omega | (simp only; omega)))
   intro w21 s_17
   show Sch _ _ _ _ _ _ _ [yy 0, yy 1, yy 2, yy 4, yy 5, yy 6, yy 8, nn 7, yy 9, yy 10, nn 3, yy 11, yy 12, yy 13, nn 14] _ _
   have hR := Stp.refl [2] w21 (C1)
   refine yM 127 7 ?_
   refine yN 128 127 ?_
   refine yF 129 106 128 4 4 ?_
   refine yM 131 7 ?_
   refine yN 132 131 ?_
   refine yF 133 106 132 3 3 ?_
   refine yM 135 14 ?_
   replace hg := (hg.t s_14).t s_17
   refine nS (kq 134 (.load 22 (.tmp 133))) rfl rfl hR.ext (val_loadOwn hg.at_ (by kernel_rfl) rfl rfl) ?_
   replace hV := hV.t s_17
   refine oR 3 136 22 134 135 hV rfl (by omega) (h := ?_)
   intro g136 hg136
   try simp only [Int.toNat_natCast]
   refine oS (I := [2]) (kq 137 (.load 3 (.tmp 136))) rfl rfl hV hg136 (fun w' hS => hV.sy hg136 hS) (by omega) (by kernel_rfl) rfl rfl ?_
   intro v137 g137
   try simp only [Int.toNat_natCast] at g137
   first | (obtain rfl := rv_nat.1 g137) | (obtain rfl := rv_int.1 g137)
   rw [hnv]
   refine nS (kq 130 (.load 3 (.tmp 129))) rfl rfl hR.ext (val_loadOwn hg.at_ (by kernel_rfl) rfl rfl) ?_
   refine yV (kq 138 (.binOp .add 3 (.tmp 130) (.tmp 137) 3)) (fun _ => val_addi rfl rfl (by omega) (by omega)) ?_
   refine yN 139 127 ?_
   refine yF 140 106 139 4 4 ?_
   refine Sch.free rfl ?_
   refine aU (k0 (.store 3 (.tmp 140) (.tmp 138))) rfl (a_store1 rfl rfl (by kernel_rfl) rfl rfl hg (by simp)) ?_
   rintro _ w22 ⟨rfl, s_18, hg⟩
   simp only [List.set_cons_succ, List.set_cons_zero] at hg
   refine Sch.nil (run_inBlock (run_pl [yy 0, yy 1] ?_))
   refine yI 141 3 108 1 ?_
   refine yM 108 141 ?_
   refine Sch.nil ?_
   replace hF := (((hF.st s_13).st s_14).st s_17).st s_18; replace hT := (((hT.t s_13).t s_14).t s_17).t s_18; replace hw := (((hw.t s_13).t s_14).t s_17).t s_18; replace hu := (((hu.t s_13).t s_14).t s_17).t s_18; replace hU := (((hU.t s_13).t s_14).t s_17).t s_18; replace hE := (((hE.t s_13).t s_14).t s_17).t s_18; replace hsb := ((hsb.t s_14).t s_17).t s_18; replace hv := ((hv.t s_14).t s_17).t s_18; replace hV := hV.t s_18
   refine kp (sub_cons 0 rfl rfl (sub_cons 1 rfl rfl (sub_cons 7 rfl rfl (sub_cons 8 rfl rfl (sub_cons 10 rfl rfl (sub_cons 12 rfl rfl (sub_cons 107 rfl rfl (sub_cons 108 rfl (eq_int (by simp)) (sub_nil _))))))))) (next3 (p + 1, Vl.set p ((pV vl sh) p), C1) _ ⟨(by first | omega | (simp only; omega)), (by simp only [List.length_set]; exact hVl), (fun q hq => by
          simp only at hq ⊢
          show (Vl.set p _).getD q 0 = _
          rw [getD_set (by omega)]
          split
          · rename_i e; subst e; rfl
          · exact hVv q (by omega)), hF, hT, hw, hsb, hu, hv, (by simp only [sumN]; rw [← Int.add_assoc]; exact hg), hU, hV, hE⟩ (by first | omega | (simp only; omega)))
  obtain rfl : m = p := by omega
  have hVv2 := hVv
  refine run_ex 4 ?_
  refine run_sq (run_sq (run_pl [yy 0, yy 1] ?_))
  refine yM 142 0 ?_
  refine yC 143 (.int .i64 0) ?_
  refine Sch.nil (run_bk 6 ?_)
  refine run_lp (ι := Nat × (Nat → Value) × (Nat → Nat)) (I := fun x w => x.1 ≤ n ∧ Lim w x.2.2 ∧ Stp [2, 3, 4, 5, 6, 7, 8, 9, 10, 11, 12, 13, 14, 15, 16] w₀ (col1 C) w x.2.2 ∧ RV w (Mc x.2.2) (wmL n m wt) xw ∧ OwnB w x.2.2 2 bw2 (.cells [.int .i64 n, .int .i64 m, xU, xV, .int .i64 (sumN n (pU ul sh) + sumN m (pV vl sh)), xE].toArray 106) ∧ OwnL w x.2.2 3 3 xU Ul ∧ OwnL w x.2.2 4 3 xV Vl ∧ OwnL w x.2.2 5 122 xE (svsF x.2.1 n) ∧ (∀ q, q < x.1 → RV w (Mc x.2.2) (erow m wt (pU ul sh) (pV vl sh) q) (x.2.1 q))) (e := fun x => [(0, .int .i64 n), (1, .int .i64 m), (7, .pointer (some ⟨bw2, 0, none⟩)), (8, xw), (142, .int .i64 n), (143, .int .i64 x.1)]) (m := fun x => n - x.1) (x₀ := (0, (fun _ => Value.slice none 0 0), C1)) (sr 0 (sr 1 (sr 7 (sr 8 (sr 142 (sr 143 (sub_nil _))))))) ?_ ?_
  · exact ⟨Nat.zero_le _, hF, hT, hw, hg, hU, hV, hE, fun q hq => by simp only at hq; omega⟩
  intro ⟨p, vf, C1⟩ w23 hI next4
  obtain ⟨hp, hF, hT, hw, hg, hU, hV, hE, hrows⟩ := hI
  try simp only at hp hF hT hw hg hU hV hE hrows
  show Run _ _ _ _ [(0, .int .i64 n), (1, .int .i64 m), (7, .pointer (some ⟨bw2, 0, none⟩)), (8, xw), (142, .int .i64 n), (143, .int .i64 p)] _ _
  have hsl := svsF_len vf n
  refine run_sq (run_pl [yy 0] ?_)
  refine yL 144 3 143 142 ?_
  refine Sch.nil (run_sq ?_)
  refine run_i 144 rfl (fun h144 => ?_) (fun h144 => ?_)
  ·
   have hpl : p < n := by omega
   refine run_sk (run_sq (run_bk 7 (run_sq (run_pl [yy 0, yy 1] ?_))))
   refine yM 145 143 ?_
   refine yA 15 145 ?_
   refine Sch.nil (run_sq ?_)
   refine run_draw (id := 28) (ops := F104.o28) [5] (C1) [yy 0, yy 1, yy 2, yy 3, yy 4, yy 5, nn 6, yy 7, nn 8] Tryz_mixed (by kernel_rfl) (by kernel_rfl) (by kernel_rfl) ?_
   intro w24 s_19
   replace hrows := fun k hk => (hrows k hk).st s_19 (by first | decide | (simp <;> omega))
   have hR := Stp.refl [5] w24 (C1)
   refine yM 146 7 ?_
   refine yN 147 146 ?_
   refine yF 148 106 147 5 5 ?_
   replace hg := hg.t s_19
   refine yS (kq 149 (.load 104 (.tmp 148))) rfl rfl (fun w' hS => val_loadOwn (hg.sy hS) (by kernel_rfl) rfl rfl) ?_
   refine yM 150 15 ?_
   refine yM 151 1 ?_
   replace hF := hF.st s_19
   refine aS (kq 152 (.makeSlice 122 (.tmp 151) (.tmp 151))) rfl rfl (a_make (e := 4) (bytes := 1) (x0 := false) (zs := [.bool false]) hF (j := 6) (by decide) (by kernel_rfl) (by kernel_rfl) rfl rfl (by omega) (by omega) (by omega) (fun h M => rfl)) ?_
   rintro v152 w25 ⟨Cw25, s_20, hb, hF⟩
   refine ⟨(hR.trans s_20 (by simp)).ext, ?_⟩
   replace hrows := fun k hk => (hrows k hk).st s_20 (by first | decide | (simp <;> omega))
   replace hE := (hE.t s_19).t s_20
   refine oR 122 153 104 149 150 hE rfl (by omega) (h := ?_)
   intro g153 hg153
   try simp only [Int.toNat_natCast]
   refine Sch.free rfl ?_
   refine aU (k0 (.store 122 (.tmp 153) (.tmp 152))) rfl (a_storeO hE hg153 (by omega) rfl rfl (by kernel_rfl) (rv_sv.2 ⟨rfl, hb.one.2⟩)) ?_
   rintro _ w26 ⟨rfl, s_21, hE⟩
   replace hrows := fun k hk => (hrows k hk).st s_21 (by first | decide | (simp <;> omega))
   refine Sch.nil ?_
   rw [svsF_set] at hE
   have hsl2 := svsF_len (updV vf p v152) n
   have hvi : updV vf p v152 p = v152 := by simp [updV]
   replace hrows : ∀ q, q < p → RV _ _ (erow m wt (pU ul sh) (pV vl sh) q) (updV vf p v152 q) := fun q hq => by rw [show updV vf p v152 q = vf q from by simp [updV]; omega]; exact hrows q hq
   obtain ⟨vg, hvg⟩ : ∃ f, f = updV vf p v152 := ⟨_, rfl⟩
   rw [← hvg] at hE hrows hsl2 hvi
   refine run_sq (run_pl [yy 0, yy 1] ?_)
   refine yM 154 1 ?_
   refine yC 155 (.int .i64 0) ?_
   refine Sch.nil (run_bk 8 ?_)
   refine run_lp (ι := Nat × (List Bool) × (Nat → Nat)) (I := fun x w => x.1 ≤ m ∧ x.2.1.length = m ∧ (∀ q (hq : q < x.2.1.length), q < x.1 → x.2.1[q] = edgeB wt (pU ul sh) (pV vl sh) p q) ∧ Lim w x.2.2 ∧ Stp [2, 3, 4, 5, 6, 7, 8, 9, 10, 11, 12, 13, 14, 15, 16] w₀ (col1 C) w x.2.2 ∧ RV w (Mc x.2.2) (wmL n m wt) xw ∧ OwnB w x.2.2 2 bw2 (.cells [.int .i64 n, .int .i64 m, xU, xV, .int .i64 (sumN n (pU ul sh) + sumN m (pV vl sh)), xE].toArray 106) ∧ OwnL w x.2.2 3 3 xU Ul ∧ OwnL w x.2.2 4 3 xV Vl ∧ OwnL w x.2.2 5 122 xE (svsF vg n) ∧ (∀ q, q < p → RV w (Mc x.2.2) (erow m wt (pU ul sh) (pV vl sh) q) (vg q)) ∧ OwnL w x.2.2 6 4 v152 x.2.1) (e := fun x => [(0, .int .i64 n), (1, .int .i64 m), (7, .pointer (some ⟨bw2, 0, none⟩)), (8, xw), (15, .int .i64 p), (142, .int .i64 n), (143, .int .i64 p), (154, .int .i64 m), (155, .int .i64 x.1)]) (m := fun x => m - x.1) (x₀ := (0, List.replicate m false, Cw25)) (sr 0 (sr 1 (sr 7 (sr 8 (sr 15 (sr 142 (sr 143 (sr 154 (sr 155 (sub_nil _)))))))))) ?_ ?_
   ·
     replace hT := ((hT.t s_19).t s_20).t s_21; replace hw := ((hw.t s_19).t s_20).t s_21; replace hU := ((hU.t s_19).t s_20).t s_21; replace hV := ((hV.t s_19).t s_20).t s_21; replace hg := (hg.t s_20).t s_21; replace hF := hF.st s_21; replace hb := hb.t s_21
     exact ⟨Nat.zero_le _, (by simp only; exact List.length_replicate), (fun q hq h => by simp only at h; omega), hF, hT, hw, hg, hU, hV, hE, hrows, hb⟩
   intro ⟨j, bs, C1⟩ w27 hI next5
   obtain ⟨hj, hbl, hbv, hF, hT, hw, hg, hU, hV, hE, hrows, hb⟩ := hI
   try simp only at hj hbl hbv hF hT hw hg hU hV hE hrows hb
   show Run _ _ _ _ [(0, .int .i64 n), (1, .int .i64 m), (7, .pointer (some ⟨bw2, 0, none⟩)), (8, xw), (15, .int .i64 p), (142, .int .i64 n), (143, .int .i64 p), (154, .int .i64 m), (155, .int .i64 j)] _ _
   refine run_sq (run_pl [yy 0] ?_)
   refine yL 156 3 155 154 ?_
   refine Sch.nil (run_sq ?_)
   refine run_i 156 rfl (fun h156 => ?_) (fun h156 => ?_)
   ·
    have hjl : j < m := by omega
    have hwr : (wmL n m wt)[p]'(by omega) = rowW n m wt p := wmL_get _
    have hwrl := rowW_len (n := n) (m := m) (wt := wt) p
    have hwx : (rowW n m wt p)[j]'(by omega) = pos wt p j := by rw [rowW_get]; unfold padW; rw [if_pos ⟨hpl, hjl⟩]
    have hux : Ul[p]'(by omega) = (pU ul sh) p := by rw [← hUv2 p hpl]; exact (getD_in _).symm
    have hvx : Vl[j]'(by omega) = (pV vl sh) j := by rw [← hVv2 j hjl]; exact (getD_in _).symm
    have hup := hub p (by omega)
    have hvp := hvb j (by omega)
    have hu0 : pU ul sh p = -(gI ul (p + 1)) - sh := rfl
    have hv0 : pV vl sh j = sh - gI vl (j + 1) := rfl
    refine run_sk (run_sq (run_bk 9 (run_sq (run_pl [yy 0, yy 1] ?_))))
    refine yM 157 155 ?_
    refine yA 16 157 ?_
    refine Sch.nil ?_
    by_cases hA : 0 < pos wt p j
    ·
     refine run_draw (id := 32) (ops := F104.o32) [6] (C1) [yy 0, yy 1, yy 2, yy 3, yy 4, yy 5, yy 6, yy 7, yy 8, yy 9, yy 10, yy 11, yy 12, yy 13, yy 14, yy 15, yy 16, yy 17, yy 18, yy 19, yy 20, yy 21, yy 22, yy 23, yy 24, yy 25, yy 26, yy 27, yy 28, yy 29, yy 30, yy 31, yy 32, yy 33, yy 34, yy 35, yy 36, yy 37, yy 38, yy 39, yy 40, yy 41, nn 42] Tryz_mixed (by kernel_rfl) (by kernel_rfl) (by kernel_rfl) ?_
     intro w28 s_22
     replace hrows := fun k hk => (hrows k hk).st s_22 (by first | decide | (simp <;> omega))
     have hR := Stp.refl [6] w28 (C1)
     refine yM 158 7 ?_
     refine yN 159 158 ?_
     refine yF 160 106 159 5 5 ?_
     replace hg := hg.t s_22
     refine yS (kq 161 (.load 104 (.tmp 160))) rfl rfl (fun w' hS => val_loadOwn (hg.sy hS) (by kernel_rfl) rfl rfl) ?_
     refine yM 162 15 ?_
     replace hE := hE.t s_22
     refine oR 122 163 104 161 162 hE rfl (by omega) (h := ?_)
     intro g163 hg163
     try simp only [Int.toNat_natCast]
     refine oS (I := [6]) (kq 164 (.load 122 (.tmp 163))) rfl rfl hE hg163 (fun w' hS => hE.sy hg163 hS) (by omega) (by kernel_rfl) rfl rfl ?_
     intro v164 g164
     try simp only [Int.toNat_natCast] at g164
     obtain ⟨e164, _⟩ := rv_sv.1 g164
     rw [svsF_get, hvi] at e164
     subst e164
     refine yM 165 16 ?_
     refine yM 166 8 ?_
     refine yM 167 15 ?_
     replace hw := hw.t s_22
     refine iR 22 168 158 166 167 hw rfl (h := ?_)
     intro b168 o168 h168
     try simp only [Int.toNat_natCast] at h168
     refine lS (kq 169 (.load 22 (.tmp 168))) rfl rfl (fun w' hS => h168.sy hS) h168 (by kernel_rfl) rfl rfl ?_
     intro v169 g169
     rw [hwr] at g169
     refine yM 170 16 ?_
     refine iR 3 171 22 169 170 g169 rfl (h := ?_)
     intro b171 o171 h171
     try simp only [Int.toNat_natCast] at h171
     refine lS (kq 172 (.load 3 (.tmp 171))) rfl rfl (fun w' hS => h171.sy hS) h171 (by kernel_rfl) rfl rfl ?_
     intro v172 g172
     first | (obtain rfl := rv_nat.1 g172) | (obtain rfl := rv_int.1 g172)
     rw [hwx]
     refine yV (kq 173 (.binOp .gtr 3 (.tmp 172) (.const (.int .i64 0)) 3)) (fun _ => val_T (val_gtr rfl rfl) hA) ?_
     refine yM 174 173 ?_
     refine yMg 175 8 16 true ?_
     refine yMg 176 15 16 true ?_
     refine iS (e := 22) (kg 177 (.indexAddr 158 (.tmp 175) (.tmp 176)) 16 true) rfl rfl hw rfl (by kernel_rfl) rfl (by omega) (by omega) ?_
     intro b177 o177 h177
     try simp only [Int.toNat_natCast] at h177
     refine lS (kg 178 (.load 22 (.tmp 177)) 16 true) rfl rfl (fun w' hS => h177.sy hS) h177 (by kernel_rfl) rfl rfl ?_
     intro v178 g178
     rw [hwr] at g178
     refine yMg 179 16 16 true ?_
     refine iS (e := 3) (kg 180 (.indexAddr 22 (.tmp 178) (.tmp 179)) 16 true) rfl rfl g178 rfl (by kernel_rfl) rfl (by omega) (by omega) ?_
     intro b180 o180 h180
     try simp only [Int.toNat_natCast] at h180
     refine lS (kg 181 (.load 3 (.tmp 180)) 16 true) rfl rfl (fun w' hS => h180.sy hS) h180 (by kernel_rfl) rfl rfl ?_
     intro v181 g181
     first | (obtain rfl := rv_nat.1 g181) | (obtain rfl := rv_int.1 g181)
     rw [hwx]
     refine yMg 182 7 16 true ?_
     refine yV (kg 183 (.nilCheck (.tmp 182)) 16 true) (fun _ => val_nilCheck rfl) ?_
     refine yFg 184 106 183 2 2 16 true ?_
     refine yS (kg 185 (.load 22 (.tmp 184)) 16 true) rfl rfl (fun w' hS => val_loadOwn (hg.sy hS) (by kernel_rfl) rfl rfl) ?_
     refine yMg 186 15 16 true ?_
     replace hU := hU.t s_22
     refine oI (e' := 3) (kg 187 (.indexAddr 22 (.tmp 185) (.tmp 186)) 16 true) rfl rfl hU rfl (by kernel_rfl) rfl (by omega) (by omega) ?_
     intro g187 hg187
     try simp only [Int.toNat_natCast]
     refine oS (I := [6]) (kg 188 (.load 3 (.tmp 187)) 16 true) rfl rfl hU hg187 (fun w' hS => hU.sy hg187 hS) (by omega) (by kernel_rfl) rfl rfl ?_
     intro v188 g188
     try simp only [Int.toNat_natCast] at g188
     first | (obtain rfl := rv_nat.1 g188) | (obtain rfl := rv_int.1 g188)
     rw [hux]
     refine yMg 189 7 16 true ?_
     refine yV (kg 190 (.nilCheck (.tmp 189)) 16 true) (fun _ => val_nilCheck rfl) ?_
     refine yFg 191 106 190 3 3 16 true ?_
     refine yS (kg 192 (.load 22 (.tmp 191)) 16 true) rfl rfl (fun w' hS => val_loadOwn (hg.sy hS) (by kernel_rfl) rfl rfl) ?_
     refine yMg 193 16 16 true ?_
     replace hV := hV.t s_22
     refine oI (e' := 3) (kg 194 (.indexAddr 22 (.tmp 192) (.tmp 193)) 16 true) rfl rfl hV rfl (by kernel_rfl) rfl (by omega) (by omega) ?_
     intro g194 hg194
     try simp only [Int.toNat_natCast]
     refine oS (I := [6]) (kg 195 (.load 3 (.tmp 194)) 16 true) rfl rfl hV hg194 (fun w' hS => hV.sy hg194 hS) (by omega) (by kernel_rfl) rfl rfl ?_
     intro v195 g195
     try simp only [Int.toNat_natCast] at g195
     first | (obtain rfl := rv_nat.1 g195) | (obtain rfl := rv_int.1 g195)
     rw [hvx]
     refine yV (kg 196 (.binOp .add 3 (.tmp 188) (.tmp 195) 3) 16 true) (fun _ => val_addi rfl rfl (by omega) (by omega)) ?_
     refine yV (kg 197 (.binOp .eql 3 (.tmp 181) (.tmp 196) 3) 16 true) (fun _ => val_eql rfl rfl) ?_
     refine yAt 198 174 197 ?_
     replace hb := hb.t s_22
     refine oR 4 199 122 164 165 hb rfl (by omega) (h := ?_)
     intro g199 hg199
     try simp only [Int.toNat_natCast]
     refine Sch.free rfl ?_
     refine aU (k0 (.store 4 (.tmp 199) (.tmp 198))) rfl (a_storeO hb hg199 (by omega) rfl rfl (by kernel_rfl) (x0 := edgeB wt (pU ul sh) (pV vl sh) p j) (rv_bool.2 (by unfold edgeB; first | rw [decide_eq_false (fun e => hA e.1)] | (congr 1; apply decide_eq_decide.2; exact ⟨fun e => ⟨hA, e⟩, fun e => e.2⟩)))) ?_
     rintro _ w29 ⟨rfl, s_23, hb⟩
     replace hrows := fun k hk => (hrows k hk).st s_23 (by first | decide | (simp <;> omega))
     refine Sch.nil (run_inBlock (run_pl [yy 0, yy 1] ?_))
     refine yI 200 3 155 1 ?_
     refine yM 155 200 ?_
     refine Sch.nil ?_
     replace hF := (hF.st s_22).st s_23; replace hT := (hT.t s_22).t s_23; replace hw := hw.t s_23; replace hg := hg.t s_23; replace hU := hU.t s_23; replace hV := hV.t s_23; replace hE := hE.t s_23
     refine kp (sub_cons 0 rfl rfl (sub_cons 1 rfl rfl (sub_cons 7 rfl rfl (sub_cons 8 rfl rfl (sub_cons 15 rfl rfl (sub_cons 142 rfl rfl (sub_cons 143 rfl rfl (sub_cons 154 rfl rfl (sub_cons 155 rfl (eq_int (by simp)) (sub_nil _)))))))))) (next5 (j + 1, bs.set j (edgeB wt (pU ul sh) (pV vl sh) p j), C1) _ ⟨(by first | omega | (simp only; omega)), (by simp only [List.length_set]; exact hbl), (fun q hq h => by
            simp only at h ⊢
            rw [List.getElem_set]
            split
            · rename_i e; subst e; rfl
            · exact hbv q (by simpa using hq) (by omega)), hF, hT, hw, hg, hU, hV, hE, hrows, hb⟩ (by first | omega | (simp only; omega)))
    refine run_draw (id := 32) (ops := F104.o32) [6] (C1) [yy 0, yy 1, yy 2, yy 3, yy 4, yy 5, yy 6, yy 7, yy 8, yy 9, yy 10, yy 11, yy 12, yy 13, yy 14, yy 15, yy 16, yy 17, yy 18, yy 19, yy 20, yy 21, yy 22, yy 23, yy 24, yy 25, yy 26, yy 27, yy 28, yy 29, yy 30, yy 31, yy 32, yy 33, yy 34, yy 35, yy 36, yy 37, yy 38, yy 39, yy 40, yy 41, nn 42] Tryz_mixed (by kernel_rfl) (by kernel_rfl) (by kernel_rfl) ?_
    intro w30 s_24
    replace hrows := fun k hk => (hrows k hk).st s_24 (by first | decide | (simp <;> omega))
    have hR := Stp.refl [6] w30 (C1)
    refine yM 158 7 ?_
    refine yN 159 158 ?_
    refine yF 160 106 159 5 5 ?_
    replace hg := hg.t s_24
    refine yS (kq 161 (.load 104 (.tmp 160))) rfl rfl (fun w' hS => val_loadOwn (hg.sy hS) (by kernel_rfl) rfl rfl) ?_
    refine yM 162 15 ?_
    replace hE := hE.t s_24
    refine oR 122 163 104 161 162 hE rfl (by omega) (h := ?_)
    intro g163 hg163
    try simp only [Int.toNat_natCast]
    refine oS (I := [6]) (kq 164 (.load 122 (.tmp 163))) rfl rfl hE hg163 (fun w' hS => hE.sy hg163 hS) (by omega) (by kernel_rfl) rfl rfl ?_
    intro v164 g164
    try simp only [Int.toNat_natCast] at g164
    obtain ⟨e164, _⟩ := rv_sv.1 g164
    rw [svsF_get, hvi] at e164
    subst e164
    refine yM 165 16 ?_
    refine yM 166 8 ?_
    refine yM 167 15 ?_
    replace hw := hw.t s_24
    refine iR 22 168 158 166 167 hw rfl (h := ?_)
    intro b168 o168 h168
    try simp only [Int.toNat_natCast] at h168
    refine lS (kq 169 (.load 22 (.tmp 168))) rfl rfl (fun w' hS => h168.sy hS) h168 (by kernel_rfl) rfl rfl ?_
    intro v169 g169
    rw [hwr] at g169
    refine yM 170 16 ?_
    refine iR 3 171 22 169 170 g169 rfl (h := ?_)
    intro b171 o171 h171
    try simp only [Int.toNat_natCast] at h171
    refine lS (kq 172 (.load 3 (.tmp 171))) rfl rfl (fun w' hS => h171.sy hS) h171 (by kernel_rfl) rfl rfl ?_
    intro v172 g172
    first | (obtain rfl := rv_nat.1 g172) | (obtain rfl := rv_int.1 g172)
    rw [hwx]
    refine yV (kq 173 (.binOp .gtr 3 (.tmp 172) (.const (.int .i64 0)) 3)) (fun _ => val_F (val_gtr rfl rfl) hA) ?_
    refine yM 174 173 ?_
    refine pX 175 16 true ?_
    refine pX 176 16 true ?_
    refine pX 177 16 true ?_
    refine pX 178 16 true ?_
    refine pX 179 16 true ?_
    refine pX 180 16 true ?_
    refine pX 181 16 true ?_
    refine pX 182 16 true ?_
    refine pX 183 16 true ?_
    refine pX 184 16 true ?_
    refine pX 185 16 true ?_
    refine pX 186 16 true ?_
    refine pX 187 16 true ?_
    refine pX 188 16 true ?_
    refine pX 189 16 true ?_
    refine pX 190 16 true ?_
    refine pX 191 16 true ?_
    refine pX 192 16 true ?_
    refine pX 193 16 true ?_
    refine pX 194 16 true ?_
    refine pX 195 16 true ?_
    refine pX 196 16 true ?_
    refine pX 197 16 true ?_
    refine yAf 198 174 197 ?_
    replace hb := hb.t s_24
    refine oR 4 199 122 164 165 hb rfl (by omega) (h := ?_)
    intro g199 hg199
    try simp only [Int.toNat_natCast]
    refine Sch.free rfl ?_
    refine aU (k0 (.store 4 (.tmp 199) (.tmp 198))) rfl (a_storeO hb hg199 (by omega) rfl rfl (by kernel_rfl) (x0 := edgeB wt (pU ul sh) (pV vl sh) p j) (rv_bool.2 (by unfold edgeB; first | rw [decide_eq_false (fun e => hA e.1)] | (congr 1; apply decide_eq_decide.2; exact ⟨fun e => ⟨hA, e⟩, fun e => e.2⟩)))) ?_
    rintro _ w31 ⟨rfl, s_25, hb⟩
    replace hrows := fun k hk => (hrows k hk).st s_25 (by first | decide | (simp <;> omega))
    refine Sch.nil (run_inBlock (run_pl [yy 0, yy 1] ?_))
    refine yI 200 3 155 1 ?_
    refine yM 155 200 ?_
    refine Sch.nil ?_
    replace hF := (hF.st s_24).st s_25; replace hT := (hT.t s_24).t s_25; replace hU := (hU.t s_24).t s_25; replace hV := (hV.t s_24).t s_25; replace hw := hw.t s_25; replace hg := hg.t s_25; replace hE := hE.t s_25
    refine kp (sub_cons 0 rfl rfl (sub_cons 1 rfl rfl (sub_cons 7 rfl rfl (sub_cons 8 rfl rfl (sub_cons 15 rfl rfl (sub_cons 142 rfl rfl (sub_cons 143 rfl rfl (sub_cons 154 rfl rfl (sub_cons 155 rfl (eq_int (by simp)) (sub_nil _)))))))))) (next5 (j + 1, bs.set j (edgeB wt (pU ul sh) (pV vl sh) p j), C1) _ ⟨(by first | omega | (simp only; omega)), (by simp only [List.length_set]; exact hbl), (fun q hq h => by
            simp only at h ⊢
            rw [List.getElem_set]
            split
            · rename_i e; subst e; rfl
            · exact hbv q (by simpa using hq) (by omega)), hF, hT, hw, hg, hU, hV, hE, hrows, hb⟩ (by first | omega | (simp only; omega)))
   obtain rfl : m = j := by omega
   obtain rfl : bs = erow m wt (pU ul sh) (pV vl sh) p := List.ext_getElem (by rw [hbl, erow_len]) (fun q h1 h2 => by rw [hbv q h1 (by omega), erow_get])
   have herl := erow_len (m := m) (wt := wt) (U := (pU ul sh)) (V := (pV vl sh)) p
   replace hF := hF.frz 6
   replace hT := hT.frz (n := 6) (fun b => Nat.lt_of_lt_of_le (col1_lt2 C b) (by decide))
   replace hw := hw.frz 6
   replace hg := hg.frz (n := 6) (by decide)
   replace hU := hU.frzK (n := 6) (by decide)
   replace hV := hV.frzK (n := 6) (by decide)
   replace hE := hE.frzK (n := 6) (by decide)
   replace hrows := fun k hk => (hrows k hk).frz 6
   have hrow_ := hb.frz (n := 6) (by decide) (by omega)
   clear hb
   have hrow := hrow_
   clear hrow_
   refine run_ex 8 ?_
   refine run_inBlock (run_pl [yy 0, yy 1] ?_)
   refine yI 201 3 143 1 ?_
   refine yM 143 201 ?_
   refine Sch.nil ?_
   refine kp (sub_cons 0 rfl rfl (sub_cons 1 rfl rfl (sub_cons 7 rfl rfl (sub_cons 8 rfl rfl (sub_cons 142 rfl rfl (sub_cons 143 rfl (eq_int (by simp)) (sub_nil _))))))) (next4 (p + 1, vg, K.frz 6 C1) _ ⟨(by first | omega | (simp only; omega)), hF, hT, hw, hg, hU, hV, hE, (fun q hq => by
           simp only at hq ⊢
           by_cases e : q = p
           · subst e; rw [hvi]; exact hrow
           · exact hrows q (by omega))⟩ (by first | omega | (simp only; omega)))
  obtain rfl : n = p := by omega
  refine run_ex 6 ?_
  refine run_sq (run_pl [yy 0, yy 1] ?_)
  refine yM 202 7 ?_
  refine yA 6 202 ?_
  refine Sch.nil ?_
  refine rt1 Tryz.func104 Tryz.results104 ?_
  obtain ⟨hpr, hex⟩ := hPN
  refine ⟨bw2, _, pU ul sh, pV vl sh, rfl, hT.out1 (by decide), hg.outA hT hF0 (fun b _ => col1_lt C (by decide) b) (rep_gr (x := ⟨_, _, Ul, Vl, _, edL _ _ wt (pU ul sh) (pV vl sh)⟩) (rv_int.2 rfl) (rv_int.2 rfl) (hU.out hT hF0 (Mc_col1 C) (fun b _ => col1_lt C (by decide) b) (by omega)) (hV.out hT hF0 (Mc_col1 C) (fun b _ => col1_lt C (by decide) b) (by omega)) (rv_int.2 rfl) ?_), gr_is hUl hVl hUv2 hVv2 hpr hex, give_graph hU hV hg hT (hT.out1 (by decide)) hF0 (Mc_col1 C) (fun j hj b => col1_lt C hj b) (by omega) rfl rfl⟩
  exact rv_lists (vf := vf) (by rw [edL_len]; exact hE.out hT hF0 (Mc_col1 C) (fun b _ => col1_lt C (by decide) b) (by rw [svsF_len]; omega)) (fun q hq => by rw [edL_len] at hq; rw [edL_getD hq]; exact (hrows q hq).out hT hF0 (Mc_col1 C))
 intro join64
 refine run_i 64 rfl (fun h64 => ?_) (fun h64 => ?_)
 ·
  have hk1 : 0 < k := by omega
  refine run_pl [yy 0, yy 1, yy 2, nn 3, yy 4, nn 5, yy 6] ?_
  refine yM 65 10 ?_
  refine yN 66 65 ?_
  refine yF 67 162 66 2 2 ?_
  refine nO 68 22 67 hsb.at_ rfl rfl ?_
  refine sFR (e' := 3) (kq 69 (.slice 22 (.tmp 68) (some (.const (.int .i64 1))) none none)) rfl rfl hv rfl (by kernel_rfl) rfl (by omega) (by omega) ?_
  intro v69 h69
  try simp only [Int.toNat_natCast] at h69
  try simp only [show (1 : Int).toNat = 1 from rfl] at h69
  refine cG 70 135 [69] [22] Tryz.call135 rfl (max_ok h69 (by rw [List.length_drop]; omega)) ?_
  rintro vw32 w32 ⟨sh, rfl, rfl, hz1, hz2⟩
  refine yA 12 70 ?_
  refine Sch.nil ?_
  have hs1 : ∀ j, j < k → gI vl (j + 1) ≤ sh := fun j hj => by
    have := hz1 j (by rw [List.length_drop]; omega)
    rw [List.getElem_drop] at this
    rw [show gI vl (j + 1) = vl[j + 1]'(by omega) from getD_in _]; simpa [Nat.add_comm] using this
  have hs2 : 0 < k → ∃ j, j < k ∧ gI vl (j + 1) = sh := fun _ => by
    obtain ⟨q, hq, e⟩ := hz2
    rw [List.length_drop] at hq
    rw [List.getElem_drop] at e
    exact ⟨q, by omega, by rw [show gI vl (q + 1) = vl[q + 1]'(by omega) from getD_in _]; simpa [Nat.add_comm] using e⟩
  clear hz1 hz2 h69
  obtain ⟨_, _, b3, b4, b5⟩ := hPX sh hs1 hs2
  have hPN := hPNX sh hs1 hs2
  have hshb : -288230376151711744 ≤ sh ∧ sh ≤ 0 := by
    rcases Nat.eq_zero_or_pos k with e | e
    · omega
    obtain ⟨j, hj, e2⟩ := hs2 e
    have := hvb j hj
    omega
  clear hs1 hs2
  refine kp (sr 0 (sr 1 (sr 7 (sr 8 (sr 10 (sr 12 (sub_nil _))))))) (join64 (sh, K.frz 11 C1) _ ⟨hshb, b3, b4, b5, hPN, hF, hT, hw, hsb, hu, hv, hg, hU, hV, hE⟩)
 have hk0 : k = 0 := by omega
 obtain ⟨sh, hsh⟩ : ∃ s : Int, s = 0 := ⟨0, rfl⟩
 have hs1 : ∀ j, j < k → gI vl (j + 1) ≤ sh := fun j hj => by omega
 have hs2 : 0 < k → ∃ j, j < k ∧ gI vl (j + 1) = sh := fun h0 => by omega
 obtain ⟨_, _, b3, b4, b5⟩ := hPX sh hs1 hs2
 have hPN := hPNX sh hs1 hs2
 have hshb : -288230376151711744 ≤ sh ∧ sh ≤ 0 := by
   rcases Nat.eq_zero_or_pos k with e | e
   · omega
   obtain ⟨j, hj, e2⟩ := hs2 e
   have := hvb j hj
   omega
 clear hs1 hs2
 refine run_sk ?_
 refine kp (sr 0 (sr 1 (sr 7 (sr 8 (sr 10 (sub_cons 12 rfl (eq_int hsh.symm) (sub_nil _))))))) (join64 (sh, K.frz 11 C1) _ ⟨hshb, b3, b4, b5, hPN, hF, hT, hw, hsb, hu, hv, hg, hU, hV, hE⟩)
end
end Go.Proofs.YtdmgmlmlielfbaaGreat
