/- Steps through functions of the program. -/
import Derived.Test.YtfkggfmibpigpaaGreatDoorJPLPA
import Derived.Test.YtfkggfmibpigpaaGreatDoorL2
import Derived.Test.YtfkggfmibpigpaaGreatDoorL1
import Derived.Test.YtfkggfmibpigpaaGreatDoorJD1PH
set_option linter.unusedVariables false
set_option linter.unusedSimpArgs false
set_option maxRecDepth 100000
set_option maxHeartbeats 4000000
namespace Go.Proofs.YtfkggfmibpigpaaGreatDoor
open Go.K Go.K.Rep
namespace F24
noncomputable def c0 := bodyOf Tryz.f24
noncomputable def o1 := rops (cl (cr c0))
end F24
theorem refderive_ok {w₀ : World} {C : Nat → Nat} {ka kb : Int} {s : List UInt8} (hF : Lim w₀ C) (hsl : s.length ≤ 65535) : Calls Tryz.prog 24 #[.agg #[.int .u64 ka, .int .u64 kb], bs s] w₀ (Ret fun v w' => v = .agg #[.int .u64 (drvW ka kb s).1, .int .u64 (drvW ka kb s).2] ∧ Stp [] w₀ C w' C) := by
 have hF0 := hF
 have hT := Stp.refl [2, 3, 4, 5, 6, 7, 8, 9] w₀ (col1 C)
 replace hF := hF.col1
 refine calls_start (c := F24.c0) (N := 14) [.agg #[.int .u64 ka, .int .u64 kb], bs s] Tryz.func24 (by kernel_rfl) (by kernel_rfl) (by kernel_rfl) ?_
 show Run _ _ _ _ [(0, .agg #[.int .u64 ka, .int .u64 kb]), (1, bs s)] _ _
 refine run_sq ?_
 refine run_pl [nn 0, nn 1] ?_
 refine aS (kq 2 (.box 29 (.tmp 0))) rfl rfl (a_box (cs := [.int .u64 ka, .int .u64 kb]) hF 3 rfl rfl) ?_
 rintro _ w1 ⟨Cw1, bw1, rfl, hs, hk, hF⟩
 refine ⟨trivial, ?_⟩
 replace hT := hT.t hs
 refine aS (kq 4 (.alloc 29)) rfl rfl (a_alloc (cs := [.int .u64 0, .int .u64 0]) hF 4 (by kernel_rfl)) ?_
 rintro _ w2 ⟨Cw2, bw2, rfl, hs, hy, hF⟩
 refine ⟨trivial, ?_⟩
 replace hT := hT.t hs; replace hk := hk.t hs
 refine Sch.nil ?_
 refine run_sq ?_
 refine run_dag (id := 1) (ops := F24.o1) (C := Cw2) [4] (fun w C => True) [⟨[3], fun w C => OwnB w C 3 bw1 (.cells [.int .u64 ka, .int .u64 kb].toArray 29)⟩, ⟨[4], fun w C => OwnB w C 4 bw2 (.cells [.int .u64 0, .int .u64 0].toArray 29)⟩] [1, 5] [⟨0, some 5, [], [], [], [], [], [0], [], fun v vs w C => v = .agg #[.int .u64 ka, .int .u64 kb]⟩, ⟨2, some 7, [], [], [0], [], [], [], [], fun v vs w C => RV w (Mc C) ([⟨s⟩, ⟨[97]⟩] : List Tx) v⟩, ⟨3, some 8, [(0, 5), (2, 7)], [], [], [], [], [], [], fun v vs w C => v = .int .u64 (partsW ka kb [s, [97]])⟩, ⟨4, some 9, [], [], [], [], [], [0], [], fun v vs w C => v = .agg #[.int .u64 ka, .int .u64 kb]⟩, ⟨6, some 11, [], [], [0], [], [], [], [], fun v vs w C => RV w (Mc C) ([⟨s⟩, ⟨[98]⟩] : List Tx) v⟩, ⟨7, some 12, [(4, 9), (6, 11)], [], [], [], [], [], [], fun v vs w C => v = .int .u64 (partsW ka kb [s, [98]])⟩, ⟨8, some 13, [(3, 8), (7, 12)], [], [], [], [], [], [], fun v vs w C => v = .agg #[.int .u64 (partsW ka kb [s, [97]]), .int .u64 (partsW ka kb [s, [98]])]⟩, ⟨9, none, [(8, 13)], [4], [4], [], [], [1], [1], fun v vs w C => OwnB w C 4 bw2 (.cells [.int .u64 (partsW ka kb [s, [97]]), .int .u64 (partsW ka kb [s, [98]])].toArray 29)⟩] Tryz_mixed (by kernel_rfl) (by kernel_rfl) (by kernel_rfl) hF trivial ?_ ?_
 ·
  intro v hv
  simp only [List.mem_cons, List.not_mem_nil, or_false] at hv
  rcases hv with rfl | rfl
  · exact ⟨hk, fun w1 C1 w2 C2 W hW h hs => h.st hs (fun q => hW _ q (by simp))⟩
  · exact ⟨hy, fun w1 C1 w2 C2 W hW h hs => h.st hs (fun q => hW _ q (by simp))⟩
 refine ⟨_, _, _, (by kernel_rfl : opAt F24.o1 1 = some (some 6, .move (.tmp 1), none)), rfl, fun w' => val_move rfl, ?_⟩
 refine ⟨_, _, _, (by kernel_rfl : opAt F24.o1 5 = some (some 10, .move (.tmp 1), none)), rfl, fun w' => val_move rfl, ?_⟩
 refine ⟨?_, (by show List.Nodup [0, 2, 3, 4, 6, 7, 8, 9]; decide), (by show List.Nodup [5, 7, 8, 9, 11, 12, 13]; decide), ?_⟩
 ·
  intro m hm
  simp only [List.mem_cons, List.not_mem_nil, or_false] at hm
  rcases hm with rfl | rfl | rfl | rfl | rfl | rfl | rfl | rfl
  ·
   refine ⟨by kernel_rfl, rfl, fun t h => (by cases h; rfl), fun v vs w1 C1 w2 C2 W hW h hs => h, fun val w1 C1 hT1 hF1 hJ1 hn hu => ?_⟩
   have u0 := hu 0 (by simp)
   refine (Does.val (by kernel_rfl : opAt F24.o1 0 = some (some 5, .load 29 (.tmp 2), none)) (val_loadOwnAgg (n := 2) (vs := [.int .u64 ka, .int .u64 kb]) u0.at_ (by kernel_rfl) (by kernel_rfl) rfl rfl rfl)).mono ?_
   rintro v w2 ⟨rfl, rfl⟩
   exact ⟨C1, Stp.refl _ _ _, hF1, hJ1, rfl⟩
  ·
   refine ⟨by kernel_rfl, rfl, fun t h => (by cases h; rfl), fun v vs w1 C1 w2 C2 W hW h hs => h.st hs (fun q => hW _ q (by simp)), fun val w1 C1 hT1 hF1 hJ1 hn hu => ?_⟩
   refine (Does.act (by kernel_rfl : opAt F24.o1 2 = some (some 7, .buildSlice 84 2 #[(0, (.tmp 6)), (1, (.const (.string ⟨#[97]⟩)))], none)) (a_buildSlice (ys := ([⟨s⟩, ⟨[97]⟩] : List Tx)) (e := 9) (bytes := 16) hF1 (by kernel_rfl) rfl (by decide) (by decide) ⟨rfl, ⟨_, rfl, rv_tx.2 ⟨rfl, by show s.length ≤ 9223372036854775807; omega⟩⟩, rfl, ⟨_, rfl, rv_tx.2 ⟨rfl, by decide⟩⟩, trivial⟩)).mono ?_
   rintro v w2 ⟨hs, hr, hF2⟩
   exact ⟨C1, hs, hF2, trivial, hr⟩
  ·
   refine ⟨by kernel_rfl, rfl, fun t h => (by cases h; rfl), fun v vs w1 C1 w2 C2 W hW h hs => h, fun val w1 C1 hT1 hF1 hJ1 hn hu => ?_⟩
   have n0 := hn _ (List.mem_cons_self) (by simp)
   have n2 := hn _ (List.mem_cons_of_mem _ (List.mem_cons_self)) (by simp)
   have e0 : val 0 = .agg #[.int .u64 ka, .int .u64 kb] := n0
   refine (Does.call (by kernel_rfl : opAt F24.o1 3 = some (some 8, .call { callee := .value (.func 23), args := #[(.tmp 5), (.tmp 7)], argTypes := #[29, 84] }, none)) (ent Tryz.call23 rfl) (g := 23) (args := #[val 0, val 2]) (by rw [e0]; exact refparts_ok hF1 n2 (by intro x hx; simp only [List.mem_cons, List.not_mem_nil, or_false] at hx; rcases hx with rfl | rfl; exact hsl; decide) (by show 2 ≤ 100; decide))).mono ?_
   rintro v w2 ⟨rfl, hs⟩
   exact ⟨C1, hs, hF1.st hs, trivial, rfl⟩
  ·
   refine ⟨by kernel_rfl, rfl, fun t h => (by cases h; rfl), fun v vs w1 C1 w2 C2 W hW h hs => h, fun val w1 C1 hT1 hF1 hJ1 hn hu => ?_⟩
   have u0 := hu 0 (by simp)
   refine (Does.val (by kernel_rfl : opAt F24.o1 4 = some (some 9, .load 29 (.tmp 2), none)) (val_loadOwnAgg (n := 2) (vs := [.int .u64 ka, .int .u64 kb]) u0.at_ (by kernel_rfl) (by kernel_rfl) rfl rfl rfl)).mono ?_
   rintro v w2 ⟨rfl, rfl⟩
   exact ⟨C1, Stp.refl _ _ _, hF1, hJ1, rfl⟩
  ·
   refine ⟨by kernel_rfl, rfl, fun t h => (by cases h; rfl), fun v vs w1 C1 w2 C2 W hW h hs => h.st hs (fun q => hW _ q (by simp)), fun val w1 C1 hT1 hF1 hJ1 hn hu => ?_⟩
   refine (Does.act (by kernel_rfl : opAt F24.o1 6 = some (some 11, .buildSlice 84 2 #[(0, (.tmp 10)), (1, (.const (.string ⟨#[98]⟩)))], none)) (a_buildSlice (ys := ([⟨s⟩, ⟨[98]⟩] : List Tx)) (e := 9) (bytes := 16) hF1 (by kernel_rfl) rfl (by decide) (by decide) ⟨rfl, ⟨_, rfl, rv_tx.2 ⟨rfl, by show s.length ≤ 9223372036854775807; omega⟩⟩, rfl, ⟨_, rfl, rv_tx.2 ⟨rfl, by decide⟩⟩, trivial⟩)).mono ?_
   rintro v w2 ⟨hs, hr, hF2⟩
   exact ⟨C1, hs, hF2, trivial, hr⟩
  ·
   refine ⟨by kernel_rfl, rfl, fun t h => (by cases h; rfl), fun v vs w1 C1 w2 C2 W hW h hs => h, fun val w1 C1 hT1 hF1 hJ1 hn hu => ?_⟩
   have n4 := hn _ (List.mem_cons_of_mem _ (List.mem_cons_of_mem _ (List.mem_cons_of_mem _ (List.mem_cons_self)))) (by simp)
   have n6 := hn _ (List.mem_cons_of_mem _ (List.mem_cons_of_mem _ (List.mem_cons_of_mem _ (List.mem_cons_of_mem _ (List.mem_cons_self))))) (by simp)
   have e4 : val 4 = .agg #[.int .u64 ka, .int .u64 kb] := n4
   refine (Does.call (by kernel_rfl : opAt F24.o1 7 = some (some 12, .call { callee := .value (.func 23), args := #[(.tmp 9), (.tmp 11)], argTypes := #[29, 84] }, none)) (ent Tryz.call23 rfl) (g := 23) (args := #[val 4, val 6]) (by rw [e4]; exact refparts_ok hF1 n6 (by intro x hx; simp only [List.mem_cons, List.not_mem_nil, or_false] at hx; rcases hx with rfl | rfl; exact hsl; decide) (by show 2 ≤ 100; decide))).mono ?_
   rintro v w2 ⟨rfl, hs⟩
   exact ⟨C1, hs, hF1.st hs, trivial, rfl⟩
  ·
   refine ⟨by kernel_rfl, rfl, fun t h => (by cases h; rfl), fun v vs w1 C1 w2 C2 W hW h hs => h, fun val w1 C1 hT1 hF1 hJ1 hn hu => ?_⟩
   have n3 := hn _ (List.mem_cons_of_mem _ (List.mem_cons_of_mem _ (List.mem_cons_self))) (by simp)
   have n7 := hn _ (List.mem_cons_of_mem _ (List.mem_cons_of_mem _ (List.mem_cons_of_mem _ (List.mem_cons_of_mem _ (List.mem_cons_of_mem _ (List.mem_cons_self)))))) (by simp)
   refine (Does.val (by kernel_rfl : opAt F24.o1 8 = some (some 13, .build 29 #[(0, (.tmp 8)), (1, (.tmp 12))], none)) (v := .agg #[.int .u64 (partsW ka kb [s, [97]]), .int .u64 (partsW ka kb [s, [98]])]) (val_is (val_build (zs := [.int .u64 0, .int .u64 0]) (ps := [(0, 1), (1, 1)]) (cs := [.int .u64 (partsW ka kb [s, [97]]), .int .u64 (partsW ka kb [s, [98]])]) (qs := [(0, [.int .u64 (partsW ka kb [s, [97]])]), (1, [.int .u64 (partsW ka kb [s, [98]])])]) (by kernel_rfl) (by kernel_rfl) (by exact ⟨rfl, ⟨_, congrArg some n3, rfl⟩, rfl, ⟨_, congrArg some n7, rfl⟩, trivial⟩) rfl) rfl)).mono ?_
   rintro v w2 ⟨rfl, rfl⟩
   exact ⟨C1, Stp.refl _ _ _, hF1, hJ1, rfl⟩
  ·
   refine ⟨by kernel_rfl, rfl, fun t h => (by cases h), fun v vs w1 C1 w2 C2 W hW h hs => h.st hs (fun q => hW _ q (by simp)), fun val w1 C1 hT1 hF1 hJ1 hn hu => ?_⟩
   have n8 := hn _ (List.mem_cons_of_mem _ (List.mem_cons_of_mem _ (List.mem_cons_of_mem _ (List.mem_cons_of_mem _ (List.mem_cons_of_mem _ (List.mem_cons_of_mem _ (List.mem_cons_self))))))) (by simp)
   have u1 := hu 1 (by simp)
   have e8 : val 8 = .agg #[.int .u64 (partsW ka kb [s, [97]]), .int .u64 (partsW ka kb [s, [98]])] := n8
   refine (Does.act (by kernel_rfl : opAt F24.o1 9 = some (none, .store 29 (.tmp 4) (.tmp 13), none)) (a_storeAll (vs := [.int .u64 (partsW ka kb [s, [97]]), .int .u64 (partsW ka kb [s, [98]])]) (n := 2) rfl (by exact congrArg some e8) (by kernel_rfl) rfl rfl (by intro z hz; simp only [List.mem_cons, List.not_mem_nil, or_false] at hz; rcases hz with rfl | rfl <;> rfl) u1 rfl)).mono ?_
   rintro v w2 ⟨rfl, hs, hb2⟩
   exact ⟨C1, hs, hF1.st hs, trivial, hb2⟩
 clear hy
 intro val w19 C19 hs hF19 _ hM _
 obtain ⟨_, _, _, _, _, _, _, hy, _⟩ := hM
 replace hy : OwnB w19 C19 4 bw2 (.cells [.int .u64 (partsW ka kb [s, [97]]), .int .u64 (partsW ka kb [s, [98]])].toArray 29) := hy
 replace hT := hT.t hs; replace hk := hk.t hs
 replace hF := hF19
 show Sch _ _ _ _ _ _ _ [] (_ :: _) _
 refine Sch.nil ?_
 refine run_retC1 (by kernel_rfl) Tryz.func24 Tryz.results24 rfl hy.at_ (by kernel_rfl) (by kernel_rfl) rfl ?_
 exact ⟨rfl, hT.out1 (by decide)⟩
end Go.Proofs.YtfkggfmibpigpaaGreatDoor

/- Steps through functions of the program. -/
set_option linter.unusedVariables false
set_option linter.unusedSimpArgs false
set_option maxRecDepth 100000
set_option maxHeartbeats 4000000
namespace Go.Proofs.YtfkggfmibpigpaaGreatDoor
open Go.K Go.K.Rep
namespace F25
noncomputable def c0 := bodyOf Tryz.f25
noncomputable def o8 := rops (cl (cr (cr (cr c0))))
end F25
theorem decimal_ok (m : Nat) : m ≤ 9223372036854775807 → ∀ {w₀ : World} {C : Nat → Nat}, Lim w₀ C → Calls Tryz.prog 25 #[.int .i64 m] w₀ (Ret fun v w' => v = bs (Lib.decDigits m) ∧ Stp [] w₀ C w' C) := by
 refine Nat.strongRecOn m ?_
 intro n ih hn w₀ C hF
 have hF0 := hF
 have hT := Stp.refl [2, 3, 4, 5, 6, 7, 8, 9] w₀ (col1 C)
 replace hF := hF.col1
 refine calls_start (c := F25.c0) (N := 40) [.int .i64 n] Tryz.func25 (by kernel_rfl) (by kernel_rfl) (by kernel_rfl) ?_
 show Run _ _ _ _ [(0, .int .i64 n)] _ _
 refine run_sq ?_
 refine run_pl [yy 0] ?_
 refine yV (kq 2 (.assign (.const (.string ⟨#[]⟩)))) (fun _ => val_assign rfl) ?_
 refine Sch.nil ?_
 refine run_sq ?_
 refine run_sq ?_
 refine run_pl [yy 0, yy 1] ?_
 refine yM 4 0 ?_
 refine yV (kq 5 (.binOp .lss 3 (.tmp 4) (.const (.int .i64 0)) 3)) (fun _ => val_lss rfl rfl) ?_
 refine Sch.nil ?_
 refine run_i 5 rfl (fun h5 => ?_) (fun h5 => ?_)
 ·
  exfalso; omega
 ·
  refine run_sk ?_
  refine run_sq ?_
  refine run_sq ?_
  refine run_pl [yy 0, yy 1] ?_
  refine yM 23 0 ?_
  refine yV (kq 24 (.binOp .lss 3 (.tmp 23) (.const (.int .i64 10)) 3)) (fun _ => val_lss rfl rfl) ?_
  refine Sch.nil ?_
  refine run_i 24 rfl (fun h24 => ?_) (fun h24 => ?_)
  ·
   refine run_sq ?_
   refine run_pl [yy 0, yy 1, yy 2, nn 3, nn 4, yy 5] ?_
   refine yM 25 0 ?_
   refine yV (kq 26 (.binOp .add 3 (.const (.int .i64 48)) (.tmp 25) 3)) (fun _ => val_addi rfl rfl (by omega) (by omega)) ?_
   refine yV (kq 27 (.convert 3 5 (.tmp 26))) (fun _ => val_conv_int rfl ⟨_, Tryz.underlying3⟩ Tryz.underlying5) ?_
   refine aS (kq 28 (.buildSlice 85 1 #[(0, (.tmp 27))])) rfl rfl (a_buildSlice (ys := ([⟨IntKind.u8.wrap (48 + (n : Int))⟩] : List U8)) (e := 5) (bytes := 1) hF (by kernel_rfl) rfl (by decide) (by decide) ⟨rfl, ⟨_, rfl, rv_num.2 rfl⟩, trivial⟩) ?_
   rintro v28 w1 ⟨hs, g28, hF⟩
   refine ⟨trivial, ?_⟩
   replace hT := hT.t hs
   refine nS (kq 29 (.convert 85 9 (.tmp 28))) rfl rfl trivial (val_ofBytes (ys := ([⟨IntKind.u8.wrap (48 + (n : Int))⟩] : List U8)) g28 rfl Tryz.underlying85 Tryz.underlying5 Tryz.underlying9 (by simp)) ?_
   refine yA 2 29 ?_
   refine Sch.nil ?_
   refine run_ret1 (by kernel_rfl) Tryz.func25 Tryz.results25 rfl ?_
   exact ⟨congrArg bs (dec_small (by omega)), hT.out1 (by decide)⟩
  ·
   refine run_sk ?_
   refine run_sq ?_
   refine run_tree (id := 8) (ops := F25.o8) [] (col1 C) 11 (.fork [0, 1, 3, 4, 5, 6] 2 (.run [nn 7, nn 8, yy 9, yy 10]) 7 (.fork [] 2 (.run [nn 8, yy 9, yy 10]) 8 (.run [nn 2, yy 9, yy 10]))) Tryz_mixed (by kernel_rfl) (by kernel_rfl) (by kernel_rfl) ?_
   intro w2 hs
   replace hF := hF.st hs
   replace hT := hT.t hs
   have hR := Stp.refl [] w2 (col1 C)
   refine tr_fork ?_
   show SchQ _ _ _ _ _ [yy 0, yy 1, yy 3, yy 4, yy 5, yy 6] _ _
   refine yM 30 0 ?_
   refine yV (kq 31 (.binOp .quo 3 (.tmp 30) (.const (.int .i64 10)) 3)) (fun _ => val_divi rfl rfl (by omega) (by omega) (by omega)) ?_
   refine yM 33 0 ?_
   refine yV (kq 34 (.binOp .rem 3 (.tmp 33) (.const (.int .i64 10)) 3)) (fun _ => val_modi rfl rfl (by omega) (by omega)) ?_
   refine yV (kq 35 (.binOp .add 3 (.const (.int .i64 48)) (.tmp 34) 3)) (fun _ => val_addi rfl rfl (by omega) (by omega)) ?_
   refine yV (kq 36 (.convert 3 5 (.tmp 35))) (fun _ => val_conv_int rfl ⟨_, Tryz.underlying3⟩ Tryz.underlying5) ?_
   refine tr_do2 ?_ ?_
   ·
    show SchQ _ _ _ _ _ [nn 2] _ _
    refine cS (kq 32 (.call { callee := .value (.func 25), args := #[(.tmp 31)], argTypes := #[3] })) rfl rfl (ent Tryz.call25 rfl) (ih (n / 10) (by omega) (by omega) hF) ?_
    rintro vw3 w3 ⟨rfl, hs⟩
    refine ⟨(hR.trans hs (by simp)).ext, ?_⟩
    replace hF := hF.st hs
    replace hT := hT.t hs; replace hR := hR.t hs
    refine tr_next hR.ext ?_
    refine tr_run ?_
    show SchQ _ _ _ _ _ [nn 7, nn 8, yy 9, yy 10] _ _
    refine aS (kq 37 (.buildSlice 85 1 #[(0, (.tmp 36))])) rfl rfl (a_buildSlice (ys := ([⟨IntKind.u8.wrap (48 + (n : Int) % 10)⟩] : List U8)) (e := 5) (bytes := 1) hF (by kernel_rfl) rfl (by decide) (by decide) ⟨rfl, ⟨_, rfl, rv_num.2 rfl⟩, trivial⟩) ?_
    rintro v37 w4 ⟨hs, g37, hF⟩
    refine ⟨(hR.trans hs (by simp)).ext, ?_⟩
    replace hT := hT.t hs; replace hR := hR.t hs
    refine nS (kq 38 (.convert 85 9 (.tmp 37))) rfl rfl hR.ext (val_ofBytes (ys := ([⟨IntKind.u8.wrap (48 + (n : Int) % 10)⟩] : List U8)) g37 rfl Tryz.underlying85 Tryz.underlying5 Tryz.underlying9 (by simp)) ?_
    refine yV (kq 39 (.binOp .add 9 (.tmp 32) (.tmp 38) 9)) (fun _ => val_cat rfl rfl (by have := dec_len (n := n / 10) (by omega); simp only [List.length_map, List.length_cons, List.length_nil]; omega)) ?_
    refine yA 2 39 ?_
    refine Sch.nil ?_
    refine run_ret1 (by kernel_rfl) Tryz.func25 Tryz.results25 rfl ?_
    exact ⟨congrArg bs (dec_big (by omega)), hT.out1 (by decide)⟩
   ·
    show SchQ _ _ _ _ _ [nn 7] _ _
    refine aS (kq 37 (.buildSlice 85 1 #[(0, (.tmp 36))])) rfl rfl (a_buildSlice (ys := ([⟨IntKind.u8.wrap (48 + (n : Int) % 10)⟩] : List U8)) (e := 5) (bytes := 1) hF (by kernel_rfl) rfl (by decide) (by decide) ⟨rfl, ⟨_, rfl, rv_num.2 rfl⟩, trivial⟩) ?_
    rintro v37 w5 ⟨hs, g37, hF⟩
    refine ⟨(hR.trans hs (by simp)).ext, ?_⟩
    replace hT := hT.t hs; replace hR := hR.t hs
    refine tr_next hR.ext ?_
    refine tr_fork ?_
    show SchQ _ _ _ _ _ [] _ _
    refine tr_do2 ?_ ?_
    ·
     show SchQ _ _ _ _ _ [nn 2] _ _
     refine cS (kq 32 (.call { callee := .value (.func 25), args := #[(.tmp 31)], argTypes := #[3] })) rfl rfl (ent Tryz.call25 rfl) (ih (n / 10) (by omega) (by omega) hF) ?_
     rintro vw6 w6 ⟨rfl, hs⟩
     refine ⟨(hR.trans hs (by simp)).ext, ?_⟩
     replace hF := hF.st hs
     replace hT := hT.t hs; replace hR := hR.t hs; replace g37 := g37.t hs
     refine tr_next hR.ext ?_
     refine tr_run ?_
     show SchQ _ _ _ _ _ [nn 8, yy 9, yy 10] _ _
     refine nS (kq 38 (.convert 85 9 (.tmp 37))) rfl rfl hR.ext (val_ofBytes (ys := ([⟨IntKind.u8.wrap (48 + (n : Int) % 10)⟩] : List U8)) g37 rfl Tryz.underlying85 Tryz.underlying5 Tryz.underlying9 (by simp)) ?_
     refine yV (kq 39 (.binOp .add 9 (.tmp 32) (.tmp 38) 9)) (fun _ => val_cat rfl rfl (by have := dec_len (n := n / 10) (by omega); simp only [List.length_map, List.length_cons, List.length_nil]; omega)) ?_
     refine yA 2 39 ?_
     refine Sch.nil ?_
     refine run_ret1 (by kernel_rfl) Tryz.func25 Tryz.results25 rfl ?_
     exact ⟨congrArg bs (dec_big (by omega)), hT.out1 (by decide)⟩
    ·
     show SchQ _ _ _ _ _ [nn 8] _ _
     refine nS (kq 38 (.convert 85 9 (.tmp 37))) rfl rfl hR.ext (val_ofBytes (ys := ([⟨IntKind.u8.wrap (48 + (n : Int) % 10)⟩] : List U8)) g37 rfl Tryz.underlying85 Tryz.underlying5 Tryz.underlying9 (by simp)) ?_
     refine tr_next hR.ext ?_
     refine tr_run ?_
     show SchQ _ _ _ _ _ [nn 2, yy 9, yy 10] _ _
     refine cS (kq 32 (.call { callee := .value (.func 25), args := #[(.tmp 31)], argTypes := #[3] })) rfl rfl (ent Tryz.call25 rfl) (ih (n / 10) (by omega) (by omega) hF) ?_
     rintro vw7 w7 ⟨rfl, hs⟩
     refine ⟨(hR.trans hs (by simp)).ext, ?_⟩
     replace hF := hF.st hs
     replace hT := hT.t hs; replace hR := hR.t hs; replace g37 := g37.t hs
     refine yV (kq 39 (.binOp .add 9 (.tmp 32) (.tmp 38) 9)) (fun _ => val_cat rfl rfl (by have := dec_len (n := n / 10) (by omega); simp only [List.length_map, List.length_cons, List.length_nil]; omega)) ?_
     refine yA 2 39 ?_
     refine Sch.nil ?_
     refine run_ret1 (by kernel_rfl) Tryz.func25 Tryz.results25 rfl ?_
     exact ⟨congrArg bs (dec_big (by omega)), hT.out1 (by decide)⟩
end Go.Proofs.YtfkggfmibpigpaaGreatDoor

/- Steps through functions of the program. -/
set_option linter.unusedVariables false
set_option linter.unusedSimpArgs false
set_option maxRecDepth 100000
set_option maxHeartbeats 4000000
namespace Go.Proofs.YtfkggfmibpigpaaGreatDoor
open Go.K Go.K.Rep
namespace F10
noncomputable def c0 := bodyOf Tryz.f10
noncomputable def o1 := rops (cl (cr c0))
end F10
theorem refpsd_ok {w₀ : World} {C : Nat → Nat} {num reg id turn : Nat} {ka kb : Int} {vr : Value} {lv : Bool} (hF : Lim w₀ C) (hn : num ≤ 9223372036854775807) (hr0 : reg ≤ 9223372036854775807) (hi0 : id ≤ 9223372036854775807) (ht0 : turn ≤ 9223372036854775807) : Calls Tryz.prog 10 #[.agg #[.int .i64 num, .int .u64 ka, .int .u64 kb, vr, .bool lv], .agg #[.int .i64 reg, .int .i64 id], .int .i64 turn] w₀ (Ret fun v w' => v = .int .u64 (psdW ka kb num reg id turn) ∧ Stp [] w₀ C w' C) := by
 have hF0 := hF
 have hT := Stp.refl [2, 3, 4, 5, 6, 7, 8, 9] w₀ (col1 C)
 replace hF := hF.col1
 refine calls_start (c := F10.c0) (N := 23) [.agg #[.int .i64 num, .int .u64 ka, .int .u64 kb, vr, .bool lv], .agg #[.int .i64 reg, .int .i64 id], .int .i64 turn] Tryz.func10 (by kernel_rfl) (by kernel_rfl) (by kernel_rfl) ?_
 show Run _ _ _ _ [(0, .agg #[.int .i64 num, .int .u64 ka, .int .u64 kb, vr, .bool lv]), (1, .agg #[.int .i64 reg, .int .i64 id]), (2, .int .i64 turn)] _ _
 refine run_sq ?_
 refine run_pl [nn 0, nn 1, yy 2] ?_
 refine aS (kq 3 (.box 31 (.tmp 0))) rfl rfl (a_box (cs := [.int .i64 num, .int .u64 ka, .int .u64 kb, vr, .bool lv]) hF 3 rfl rfl) ?_
 rintro _ w1 ⟨Cw1, bw1, rfl, hs, hp, hF⟩
 refine ⟨trivial, ?_⟩
 replace hT := hT.t hs
 refine aS (kq 4 (.box 35 (.tmp 1))) rfl rfl (a_box (cs := [.int .i64 reg, .int .i64 id]) hF 4 rfl rfl) ?_
 rintro _ w2 ⟨Cw2, bw2, rfl, hs, hr, hF⟩
 refine ⟨trivial, ?_⟩
 replace hT := hT.t hs; replace hp := hp.t hs
 refine yAc 6 (.int .u64 0) ?_
 refine Sch.nil ?_
 refine run_sq ?_
 refine run_draw (id := 1) (ops := F10.o1) [] (Cw2) [yy 0, yy 1, yy 3, yy 4, yy 6, yy 7, yy 9, yy 10, yy 12, nn 2, nn 5, nn 8, nn 11, nn 13, nn 14, nn 15, yy 16] Tryz_mixed (by kernel_rfl) (by kernel_rfl) (by kernel_rfl) ?_
 intro w3 hs
 replace hF := hF.st hs
 replace hT := hT.t hs; replace hp := hp.t hs; replace hr := hr.t hs
 have hR := Stp.refl [] w3 (Cw2)
 refine yF 7 31 3 1 1 ?_
 refine yS (kq 8 (.load 29 (.tmp 7))) rfl rfl (fun w' hS => val_loadOwnAgg (n := 2) (vs := [.int .u64 ka, .int .u64 kb]) (hp.stay hS (by decide)) (by kernel_rfl) (by kernel_rfl) rfl rfl rfl) ?_
 refine yF 10 31 3 0 0 ?_
 refine yS (kq 11 (.load 3 (.tmp 10))) rfl rfl (fun w' hS => val_loadOwn (hp.sy hS) (by kernel_rfl) rfl rfl) ?_
 refine yF 13 35 4 0 0 ?_
 refine yS (kq 14 (.load 3 (.tmp 13))) rfl rfl (fun w' hS => val_loadOwn (hr.sy hS) (by kernel_rfl) rfl rfl) ?_
 refine yF 16 35 4 1 1 ?_
 refine yS (kq 17 (.load 3 (.tmp 16))) rfl rfl (fun w' hS => val_loadOwn (hr.sy hS) (by kernel_rfl) rfl rfl) ?_
 refine yM 19 2 ?_
 refine cS (kq 9 (.call { callee := .value (.func 24), args := #[(.tmp 8), (.const (.string ⟨#[115, 116, 117, 100, 121]⟩))], argTypes := #[29, 9] })) rfl rfl (ent Tryz.call24 rfl) (refderive_ok (s := [115, 116, 117, 100, 121]) hF (by decide)) ?_
 rintro vw4 w4 ⟨rfl, hs⟩
 refine ⟨(hR.trans hs (by simp)).ext, ?_⟩
 replace hF := hF.st hs
 replace hT := hT.t hs; replace hp := hp.t hs; replace hr := hr.t hs; replace hR := hR.t hs
 refine cS (kq 12 (.call { callee := .value (.func 25), args := #[(.tmp 11)], argTypes := #[3] })) rfl rfl (ent Tryz.call25 rfl) (decimal_ok _ hn hF) ?_
 rintro vw5 w5 ⟨rfl, hs⟩
 refine ⟨(hR.trans hs (by simp)).ext, ?_⟩
 replace hF := hF.st hs
 replace hT := hT.t hs; replace hp := hp.t hs; replace hr := hr.t hs; replace hR := hR.t hs
 refine cS (kq 15 (.call { callee := .value (.func 25), args := #[(.tmp 14)], argTypes := #[3] })) rfl rfl (ent Tryz.call25 rfl) (decimal_ok _ hr0 hF) ?_
 rintro vw6 w6 ⟨rfl, hs⟩
 refine ⟨(hR.trans hs (by simp)).ext, ?_⟩
 replace hF := hF.st hs
 replace hT := hT.t hs; replace hp := hp.t hs; replace hr := hr.t hs; replace hR := hR.t hs
 refine cS (kq 18 (.call { callee := .value (.func 25), args := #[(.tmp 17)], argTypes := #[3] })) rfl rfl (ent Tryz.call25 rfl) (decimal_ok _ hi0 hF) ?_
 rintro vw7 w7 ⟨rfl, hs⟩
 refine ⟨(hR.trans hs (by simp)).ext, ?_⟩
 replace hF := hF.st hs
 replace hT := hT.t hs; replace hp := hp.t hs; replace hr := hr.t hs; replace hR := hR.t hs
 refine cS (kq 20 (.call { callee := .value (.func 25), args := #[(.tmp 19)], argTypes := #[3] })) rfl rfl (ent Tryz.call25 rfl) (decimal_ok _ ht0 hF) ?_
 rintro vw8 w8 ⟨rfl, hs⟩
 refine ⟨(hR.trans hs (by simp)).ext, ?_⟩
 replace hF := hF.st hs
 replace hT := hT.t hs; replace hp := hp.t hs; replace hr := hr.t hs; replace hR := hR.t hs
 refine aS (kq 21 (.buildSlice 84 4 #[(0, (.tmp 12)), (1, (.tmp 15)), (2, (.tmp 18)), (3, (.tmp 20))])) rfl rfl (a_buildSlice (ys := ([⟨Lib.decDigits num⟩, ⟨Lib.decDigits reg⟩, ⟨Lib.decDigits id⟩, ⟨Lib.decDigits turn⟩] : List Tx)) (e := 9) (bytes := 16) hF (by kernel_rfl) rfl (by decide) (by decide) ⟨rfl, ⟨_, rfl, rv_tx.2 ⟨rfl, by have := dec_len hn; show (Lib.decDigits num).length ≤ 9223372036854775807; omega⟩⟩, rfl, ⟨_, rfl, rv_tx.2 ⟨rfl, by have := dec_len hr0; show (Lib.decDigits reg).length ≤ 9223372036854775807; omega⟩⟩, rfl, ⟨_, rfl, rv_tx.2 ⟨rfl, by have := dec_len hi0; show (Lib.decDigits id).length ≤ 9223372036854775807; omega⟩⟩, rfl, ⟨_, rfl, rv_tx.2 ⟨rfl, by have := dec_len ht0; show (Lib.decDigits turn).length ≤ 9223372036854775807; omega⟩⟩, trivial⟩) ?_
 rintro v21 w9 ⟨hs, g21, hF⟩
 refine ⟨(hR.trans hs (by simp)).ext, ?_⟩
 replace hT := hT.t hs; replace hp := hp.t hs; replace hr := hr.t hs; replace hR := hR.t hs
 refine cS (kq 22 (.call { callee := .value (.func 23), args := #[(.tmp 9), (.tmp 21)], argTypes := #[29, 84] })) rfl rfl (ent Tryz.call23 rfl) (refparts_ok hF g21 (by intro x hx; simp only [List.mem_cons, List.not_mem_nil, or_false] at hx; have h1 := dec_len hn; have h2 := dec_len hr0; have h3 := dec_len hi0; have h4 := dec_len ht0; rcases hx with rfl | rfl | rfl | rfl <;> (simp only; omega)) (by show 4 ≤ 100; decide)) ?_
 rintro vw10 w10 ⟨rfl, hs⟩
 refine ⟨(hR.trans hs (by simp)).ext, ?_⟩
 replace hF := hF.st hs
 replace hT := hT.t hs; replace hp := hp.t hs; replace hr := hr.t hs; replace hR := hR.t hs; replace g21 := g21.t hs
 refine yA 6 22 ?_
 refine Sch.nil ?_
 refine run_ret1 (by kernel_rfl) Tryz.func10 Tryz.results10 rfl ?_
 exact ⟨rfl, hT.out1 (by decide)⟩
end Go.Proofs.YtfkggfmibpigpaaGreatDoor

/- Steps through functions of the program. -/
set_option linter.unusedVariables false
set_option linter.unusedSimpArgs false
set_option maxRecDepth 100000
set_option maxHeartbeats 4000000
namespace Go.Proofs.YtfkggfmibpigpaaGreatDoor
open Go.K Go.K.Rep
namespace F4
noncomputable def c0 := bodyOf Tryz.f4
noncomputable def c10 := (cr (cr (cr (cr (cr c0)))))
noncomputable def o5 := rops (cl c10)
end F4
theorem awake_ok {w₀ : World} {C : Nat → Nat} (hF : Lim w₀ C) (htb : Tb Tryz.prog w₀ C) : Calls Tryz.prog 4 #[] w₀ (Ret fun v w' => v = .bool true ∧ Stp [] w₀ C w' C) := by
 have hF0 := hF
 have hT := Stp.refl [2, 3, 4, 5, 6, 7, 8, 9] w₀ (col1 C)
 replace hF := hF.col1
 replace htb := htb.col1
 refine calls_start (c := F4.c0) (N := 101) [] Tryz.func4 (by kernel_rfl) (by kernel_rfl) (by kernel_rfl) ?_
 show Run _ _ _ _ [] _ _
 refine run_sq ?_
 refine run_pl [yy 0] ?_
 refine yAc 0 (.bool false) ?_
 refine Sch.nil ?_
 refine run_sq ?_
 refine run_pl [yy 0, nn 1, yy 2, nn 3, nn 4] ?_
 refine yV (kq 8 (.build 29 #[(0, (.const (.int .u64 3))), (1, (.const (.int .u64 4)))])) (fun _ => val_build (zs := [.int .u64 0, .int .u64 0]) (ps := [(0, 1), (1, 1)]) (qs := [(0, [.int .u64 3]), (1, [.int .u64 4])]) (cs := [.int .u64 3, .int .u64 4]) (by kernel_rfl) (by kernel_rfl) (by exact ⟨rfl, ⟨_, rfl, rfl⟩, rfl, ⟨_, rfl, rfl⟩, trivial⟩) rfl) ?_
 refine aS (kq 9 (.buildSlice 22 2 #[(0, (.const (.int .i64 1))), (1, (.const (.int .i64 2)))])) rfl rfl (a_buildSlice (ys := ([1, 2] : List Int)) (e := 3) (bytes := 8) hF (by kernel_rfl) rfl (by decide) (by decide) ⟨rfl, ⟨_, rfl, rv_int.2 rfl⟩, rfl, ⟨_, rfl, rv_int.2 rfl⟩, trivial⟩) ?_
 rintro v9 w1 ⟨hs, hr, hF⟩
 refine ⟨trivial, ?_⟩
 replace hT := hT.t hs
 replace htb := htb.st hs (by first | decide | (simp <;> omega))
 refine yV (kq 10 (.build 31 #[(0, (.const (.int .i64 1))), (1, (.tmp 8)), (2, (.tmp 9))])) (fun _ => val_build (zs := [.int .i64 0, .int .u64 0, .int .u64 0, .slice none 0 0, .bool false]) (ps := [(0, 1), (1, 2), (3, 1), (4, 1)]) (qs := [(0, [.int .i64 1]), (1, [.int .u64 3, .int .u64 4]), (2, [v9])]) (cs := [.int .i64 1, .int .u64 3, .int .u64 4, v9, .bool false]) (by kernel_rfl) (by kernel_rfl) (by exact ⟨rfl, ⟨_, rfl, rfl⟩, rfl, ⟨_, rfl, rfl⟩, rfl, ⟨_, rfl, (hr.one rfl).1⟩, trivial⟩) rfl) ?_
 refine aS (kq 1 (.alloc 31)) rfl rfl (a_alloc (cs := [.int .i64 0, .int .u64 0, .int .u64 0, .slice none 0 0, .bool false]) hF 3 (by kernel_rfl)) ?_
 rintro _ w2 ⟨Cw2, bw2, rfl, hs, hp, hF⟩
 refine ⟨trivial, ?_⟩
 replace hT := hT.t hs
 replace htb := htb.st hs (by first | decide | (simp <;> omega))
 replace hr := hr.t hs
 refine aN (k0 (.store 31 (.tmp 1) (.tmp 10))) rfl (a_storeAll (vs := [.int .i64 ((1 : Nat) : Int), .int .u64 3, .int .u64 4, v9, .bool false]) (n := 5) rfl rfl (by kernel_rfl) rfl rfl (by intro u hu; simp only [List.mem_cons, List.not_mem_nil, or_false] at hu; rcases hu with rfl | rfl | rfl | rfl | rfl <;> first | rfl | exact (hr.one rfl).2) hp rfl) ?_
 rintro _ w3 ⟨rfl, hs, hp⟩
 refine ⟨trivial, ?_⟩
 replace hF := hF.st hs
 replace hT := hT.t hs
 replace htb := htb.st hs (by first | decide | (simp <;> omega))
 replace hr := hr.t hs
 refine Sch.nil ?_
 refine run_sq ?_
 refine run_pl [nn 0, yy 1, yy 2, yy 3, nn 4, nn 5, nn 6, yy 7, yy 8, yy 9, yy 10, yy 11] ?_
 refine nS (kq 12 (.load 31 (.tmp 1))) rfl rfl trivial (val_loadOwnAgg (n := 5) (vs := [.int .i64 ((1 : Nat) : Int), .int .u64 3, .int .u64 4, v9, .bool false]) hp.at_ (by kernel_rfl) (by kernel_rfl) rfl rfl rfl) ?_
 refine yV (kq 13 (.build 35 #[(1, (.const (.int .i64 1)))])) (fun _ => val_build (zs := [.int .i64 0, .int .i64 0]) (ps := [(0, 1), (1, 1)]) (qs := [(1, [.int .i64 1])]) (cs := [.int .i64 0, .int .i64 1]) (by kernel_rfl) (by kernel_rfl) (by exact ⟨rfl, ⟨_, rfl, rfl⟩, trivial⟩) rfl) ?_
 refine yV (kq 14 (.build 35 #[(0, (.const (.int .i64 1))), (1, (.const (.int .i64 2)))])) (fun _ => val_build (zs := [.int .i64 0, .int .i64 0]) (ps := [(0, 1), (1, 1)]) (qs := [(0, [.int .i64 1]), (1, [.int .i64 2])]) (cs := [.int .i64 1, .int .i64 2]) (by kernel_rfl) (by kernel_rfl) (by exact ⟨rfl, ⟨_, rfl, rfl⟩, rfl, ⟨_, rfl, rfl⟩, trivial⟩) rfl) ?_
 refine yV (kq 15 (.build 35 #[(0, (.const (.int .i64 2))), (1, (.const (.int .i64 3)))])) (fun _ => val_build (zs := [.int .i64 0, .int .i64 0]) (ps := [(0, 1), (1, 1)]) (qs := [(0, [.int .i64 2]), (1, [.int .i64 3])]) (cs := [.int .i64 2, .int .i64 3]) (by kernel_rfl) (by kernel_rfl) (by exact ⟨rfl, ⟨_, rfl, rfl⟩, rfl, ⟨_, rfl, rfl⟩, trivial⟩) rfl) ?_
 refine aS (kq 16 (.buildSlice 42 3 #[(0, (.tmp 13)), (1, (.tmp 14)), (2, (.tmp 15))])) rfl rfl (a_buildSlice (ys := psn3) (e := 35) (bytes := 16) hF (by kernel_rfl) rfl (by decide) (by decide) ⟨rfl, ⟨_, rfl, rv_couple.2 rfl⟩, rfl, ⟨_, rfl, rv_couple.2 rfl⟩, rfl, ⟨_, rfl, rv_couple.2 rfl⟩, trivial⟩) ?_
 rintro v16 w4 ⟨hs, g16, hF⟩
 refine ⟨trivial, ?_⟩
 replace hT := hT.t hs
 replace htb := htb.st hs (by first | decide | (simp <;> omega))
 replace hr := hr.t hs; replace hp := hp.t hs
 refine aS (kq 17 (.buildSlice 43 1 #[(0, (.tmp 16))])) rfl rfl (a_buildSlice (ys := ([psn3] : List (List Couple))) (e := 42) (bytes := 24) hF (by kernel_rfl) rfl (by decide) (by decide) ⟨rfl, ⟨_, rfl, g16⟩, trivial⟩) ?_
 rintro v17 w5 ⟨hs, g17, hF⟩
 refine ⟨trivial, ?_⟩
 replace hT := hT.t hs
 replace htb := htb.st hs (by first | decide | (simp <;> omega))
 replace hr := hr.t hs; replace hp := hp.t hs; replace g16 := g16.t hs
 refine cS (kq 18 (.call { callee := .value (.func 11), args := #[(.tmp 12), (.tmp 17), (.const (.slice none 0 0))], argTypes := #[31, 43, 42] })) rfl rfl (ent Tryz.call11 rfl) (links_ok (num := 1) (reg := 1) (id := 2) (l := psn3) (tl := [⟨2, 3⟩]) hF htb hr rgs12 (by decide) (by decide) g17 rv_nil psn3_ok (by decide) psn3_refs (by decide) (by decide) (by decide) (by decide)) ?_
 rintro vw6 w6 ⟨u, rfl, hs, hu⟩
 replace hu : RV _ _ [(⟨⟨psdW 3 4 1 1 2 0⟩, [1, 2]⟩ : Lnk)] u := hu
 refine ⟨trivial, ?_⟩
 replace hF := hF.st hs
 replace hT := hT.t hs
 replace htb := htb.st hs (by first | decide | (simp <;> omega))
 replace hr := hr.t hs; replace hp := hp.t hs; replace g16 := g16.t hs; replace g17 := g17.t hs
 refine yM 11 18 ?_
 refine yV (kq 19 (.extract (.tmp 11) 0)) (fun _ => val_extract rfl rfl) ?_
 refine yV (kq 20 (.extract (.tmp 11) 1)) (fun _ => val_extract rfl rfl) ?_
 refine yA 2 19 ?_
 refine yA 3 20 ?_
 refine Sch.nil ?_
 refine run_sq ?_
 refine run_pl [nn 0, yy 1, nn 2, yy 3, yy 4, yy 5, yy 6, yy 7] ?_
 refine nS (kq 22 (.load 31 (.tmp 1))) rfl rfl trivial (val_loadOwnAgg (n := 5) (vs := [.int .i64 ((1 : Nat) : Int), .int .u64 3, .int .u64 4, v9, .bool false]) hp.at_ (by kernel_rfl) (by kernel_rfl) rfl rfl rfl) ?_
 refine yM 23 2 ?_
 refine cS (kq 24 (.call { callee := .value (.func 12), args := #[(.tmp 22), (.const (.slice none 0 0)), (.tmp 23)], argTypes := #[31, 38, 38] })) rfl rfl (ent Tryz.call12 rfl) (notices_ok (num := 1) (l := [(⟨⟨psdW 3 4 1 1 2 0⟩, [1, 2]⟩ : Lnk)]) hF hr rgs12 (by decide) (by decide) rv_nil hu (by decide) (by intro x hx; rw [List.mem_singleton.1 hx]; exact ⟨rgs12, fun y hy => hy⟩) (by intro x hx; rw [List.mem_singleton.1 hx]; show 2 ≤ 1000000; decide)) ?_
 rintro vw7 w7 ⟨u4, rfl, hs, hn⟩
 replace hn : RV _ _ ([⟨1, false, (⟨⟨psdW 3 4 1 1 2 0⟩, [1, 2]⟩ : Lnk)⟩] : List Ntc) u4 := hn
 refine ⟨trivial, ?_⟩
 replace hF := hF.st hs
 replace hT := hT.t hs
 replace htb := htb.st hs (by first | decide | (simp <;> omega))
 replace hr := hr.t hs; replace hp := hp.t hs; replace g16 := g16.t hs; replace g17 := g17.t hs; replace hu := hu.t hs
 refine yM 21 24 ?_
 refine yV (kq 25 (.extract (.tmp 21) 0)) (fun _ => val_extract rfl rfl) ?_
 refine yV (kq 26 (.extract (.tmp 21) 1)) (fun _ => val_extract rfl rfl) ?_
 refine yA 4 25 ?_
 refine yA 5 26 ?_
 refine Sch.nil ?_
 refine run_sq ?_
 refine run_pl [nn 0, yy 1, nn 2, yy 3, yy 4, yy 5, yy 6, yy 7] ?_
 refine nS (kq 28 (.load 31 (.tmp 1))) rfl rfl trivial (val_loadOwnAgg (n := 5) (vs := [.int .i64 ((1 : Nat) : Int), .int .u64 3, .int .u64 4, v9, .bool false]) hp.at_ (by kernel_rfl) (by kernel_rfl) rfl rfl rfl) ?_
 refine yM 29 4 ?_
 refine cS (kq 30 (.call { callee := .value (.func 13), args := #[(.tmp 28), (.const (.slice none 0 0)), (.tmp 29)], argTypes := #[31, 38, 44] })) rfl rfl (ent Tryz.call13 rfl) (apply_ok (num := 1) (y := (⟨⟨psdW 3 4 1 1 2 0⟩, [1, 2]⟩ : Lnk)) hF hr rgs12 (by decide) (by decide) hn ⟨rgs12, fun y hy => hy⟩ (by show 2 ≤ 1000000; decide)) ?_
 rintro vw8 w8 ⟨u6, rfl, hs, hm⟩
 refine ⟨trivial, ?_⟩
 replace hF := hF.st hs
 replace hT := hT.t hs
 replace htb := htb.st hs (by first | decide | (simp <;> omega))
 replace hr := hr.t hs; replace hp := hp.t hs; replace g16 := g16.t hs; replace g17 := g17.t hs; replace hu := hu.t hs; replace hn := hn.t hs
 refine yM 27 30 ?_
 refine yV (kq 31 (.extract (.tmp 27) 0)) (fun _ => val_extract rfl rfl) ?_
 refine yV (kq 32 (.extract (.tmp 27) 1)) (fun _ => val_extract rfl rfl) ?_
 refine yA 6 31 ?_
 refine yA 7 32 ?_
 refine Sch.nil ?_
 refine run_sq ?_
 refine run_draw (id := 5) (ops := F4.o5) [] (Cw2) [yy 0, yy 1, yy 2, yy 3, yy 4, yy 5, yy 6, yy 7, yy 8, yy 9, yy 10, yy 11, yy 12, yy 13, yy 14, yy 15, yy 16, yy 17, yy 18, yy 19, yy 20, yy 21, yy 22, yy 23, yy 24, yy 25, yy 26, yy 27, yy 28, yy 29, yy 30, yy 31, yy 32, yy 33, yy 34, yy 35, yy 36, yy 37, yy 38, yy 39, nn 40, yy 41, yy 42, yy 43, yy 44, yy 45, yy 46, yy 47, yy 48, yy 49, nn 50, yy 51, yy 52, yy 53, yy 54, nn 55, yy 56, yy 57, yy 58, yy 59, yy 60, nn 61, yy 62, yy 63, yy 64, nn 65, yy 66, yy 67, yy 68] Tryz_mixed (by kernel_rfl) (by kernel_rfl) (by kernel_rfl) ?_
 intro w9 hs
 replace hF := hF.st hs
 replace hT := hT.t hs
 replace htb := htb.st hs (by first | decide | (simp <;> omega))
 replace hr := hr.t hs; replace hp := hp.t hs; replace g16 := g16.t hs; replace g17 := g17.t hs; replace hu := hu.t hs; replace hn := hn.t hs; replace hm := hm.t hs
 have hR := Stp.refl [] w9 (Cw2)
 have hp0 := hp
 have hl1 : ([(⟨⟨psdW 3 4 1 1 2 0⟩, [1, 2]⟩ : Lnk)] : List Lnk).length = 1 := rfl
 have hl2 : ([⟨1, false, (⟨⟨psdW 3 4 1 1 2 0⟩, [1, 2]⟩ : Lnk)⟩] : List Ntc).length = 1 := rfl
 have hr_b := hr
 have g16_b := g16
 have g17_b := g17
 have hu_b := hu
 have hn_b := hn
 have hm_b := hm
 refine yM 33 3 ?_
 refine yV (kq 34 (.binOp .eql 39 (.tmp 33) (.const (.int .i64 0)) 39)) (fun _ => val_is (val_eql rfl rfl) (show _ = Value.bool true from congrArg Value.bool (decide_eq_true (by first | rfl | decide)))) ?_
 refine yM 35 34 ?_
 refine yMg 36 5 2 true ?_
 refine yV (kg 37 (.binOp .eql 39 (.tmp 36) (.const (.int .i64 0)) 39) 2 true) (fun _ => val_is (val_eql rfl rfl) (show _ = Value.bool true from congrArg Value.bool (decide_eq_true (by first | rfl | decide)))) ?_
 refine yAt 38 35 37 ?_
 refine yM 39 38 ?_
 refine yMg 40 7 6 true ?_
 refine yV (kg 41 (.binOp .eql 39 (.tmp 40) (.const (.int .i64 0)) 39) 6 true) (fun _ => val_is (val_eql rfl rfl) (show _ = Value.bool true from congrArg Value.bool (decide_eq_true (by first | rfl | decide)))) ?_
 refine yAt 42 39 41 ?_
 refine yM 43 42 ?_
 refine yMg 44 2 10 true ?_
 refine yS (kg 45 (.call { callee := .builtin .len, args := #[(.tmp 44)], argTypes := #[38] }) 10 true) rfl rfl (fun w' hS => hu_b.lenV rfl Tryz.underlying38 w' ) ?_
 refine yV (kg 46 (.binOp .eql 3 (.tmp 45) (.const (.int .i64 1)) 3) 10 true) (fun _ => val_is (val_eql rfl rfl) (show _ = Value.bool true from congrArg Value.bool (decide_eq_true (by first | rfl | decide)))) ?_
 refine yAt 47 43 46 ?_
 refine yM 48 47 ?_
 refine yMg 49 2 15 true ?_
 refine iS (e := 49) (kg 50 (.indexAddr 38 (.tmp 49) (.const (.int .i64 0))) 15 true) rfl rfl hu_b rfl (by kernel_rfl) rfl (by omega) (by omega) ?_
 intro b50 o50 h50
 try simp only [Int.toNat_natCast] at h50
 have h51 := RA.lkr h50
 refine yFg 51 49 50 1 1 15 true ?_
 refine lS (kg 52 (.load 22 (.tmp 51)) 15 true) rfl rfl (fun w' hS => h51.sy hS) h51 (by kernel_rfl) rfl rfl ?_
 intro v52 g52
 have gb52 := g52
 replace g52 := g52.st hR (by first | decide | (simp <;> omega))
 refine yS (kg 53 (.call { callee := .builtin .len, args := #[(.tmp 52)], argTypes := #[22] }) 15 true) rfl rfl (fun w' hS => gb52.lenV rfl Tryz.underlying22 w' ) ?_
 refine yV (kg 54 (.binOp .eql 3 (.tmp 53) (.const (.int .i64 2)) 3) 15 true) (fun _ => val_is (val_eql rfl rfl) (show _ = Value.bool true from congrArg Value.bool (decide_eq_true (by rfl)))) ?_
 refine yAt 55 48 54 ?_
 refine yM 56 55 ?_
 refine yMg 57 4 23 true ?_
 refine yS (kg 58 (.call { callee := .builtin .len, args := #[(.tmp 57)], argTypes := #[44] }) 23 true) rfl rfl (fun w' hS => hn_b.lenV rfl Tryz.underlying44 w' ) ?_
 refine yV (kg 59 (.binOp .eql 3 (.tmp 58) (.const (.int .i64 1)) 3) 23 true) (fun _ => val_is (val_eql rfl rfl) (show _ = Value.bool true from congrArg Value.bool (decide_eq_true (by first | rfl | decide)))) ?_
 refine yAt 60 56 59 ?_
 refine yM 61 60 ?_
 refine yMg 62 6 28 true ?_
 refine yS (kg 63 (.call { callee := .builtin .len, args := #[(.tmp 62)], argTypes := #[38] }) 28 true) rfl rfl (fun w' hS => hm_b.lenV rfl Tryz.underlying38 w' ) ?_
 refine yV (kg 64 (.binOp .eql 3 (.tmp 63) (.const (.int .i64 1)) 3) 28 true) (fun _ => val_is (val_eql rfl rfl) (show _ = Value.bool true from congrArg Value.bool (decide_eq_true (by first | rfl | decide)))) ?_
 refine yAt 65 61 64 ?_
 refine yM 66 65 ?_
 refine yMg 67 2 33 true ?_
 refine iS (e := 49) (kg 68 (.indexAddr 38 (.tmp 67) (.const (.int .i64 0))) 33 true) rfl rfl hu_b rfl (by kernel_rfl) rfl (by omega) (by omega) ?_
 intro b68 o68 h68
 try simp only [Int.toNat_natCast] at h68
 have h69 := RA.lkp h68
 refine yFg 69 49 68 0 0 33 true ?_
 refine lS (kg 70 (.load 27 (.tmp 69)) 33 true) rfl rfl (fun w' hS => h69.sy hS) h69 (by kernel_rfl) rfl rfl ?_
 intro v70 g70
 obtain rfl := rv_num.1 g70
 refine yS (kg 71 (.load 31 (.tmp 1)) 33 true) rfl rfl (fun w' hS => val_loadOwnAgg (n := 5) (vs := [.int .i64 ((1 : Nat) : Int), .int .u64 3, .int .u64 4, v9, .bool false]) (hp0.stay hS (by decide)) (by kernel_rfl) (by kernel_rfl) rfl rfl rfl) ?_
 refine yV (kg 72 (.build 35 #[(0, (.const (.int .i64 1))), (1, (.const (.int .i64 2)))]) 33 true) (fun _ => val_build (zs := [.int .i64 0, .int .i64 0]) (ps := [(0, 1), (1, 1)]) (qs := [(0, [.int .i64 1]), (1, [.int .i64 2])]) (cs := [.int .i64 1, .int .i64 2]) (by kernel_rfl) (by kernel_rfl) (by exact ⟨rfl, ⟨_, rfl, rfl⟩, rfl, ⟨_, rfl, rfl⟩, trivial⟩) rfl) ?_
 refine cS (kg 73 (.call { callee := .value (.func 9), args := #[(.tmp 71), (.tmp 72), (.const (.int .i64 0))], argTypes := #[31, 35, 3] }) 33 true) rfl rfl (ent Tryz.call9 rfl) (psd_ok (num := 1) (reg := 1) (id := 2) (turn := 0) hF htb (by decide) (by decide) (by decide) (by decide)) ?_
 rintro vw10 w10 ⟨rfl, hs⟩
 refine ⟨(hR.trans hs (by simp)).ext, ?_⟩
 replace hF := hF.st hs
 replace hT := hT.t hs
 replace htb := htb.st hs (by first | decide | (simp <;> omega))
 replace hr := hr.t hs; replace hp := hp.t hs; replace g16 := g16.t hs; replace g17 := g17.t hs; replace hu := hu.t hs; replace hn := hn.t hs; replace hm := hm.t hs; replace hR := hR.t hs; replace g52 := g52.t hs
 refine yV (kg 74 (.binOp .eql 27 (.tmp 70) (.tmp 73) 27) 33 true) (fun _ => val_is (val_eql rfl rfl) (show _ = Value.bool true from congrArg Value.bool (decide_eq_true (rfl)))) ?_
 refine yAt 75 66 74 ?_
 refine yM 76 75 ?_
 refine yMg 77 2 43 true ?_
 refine iS (e := 49) (kg 78 (.indexAddr 38 (.tmp 77) (.const (.int .i64 0))) 43 true) rfl rfl hu_b rfl (by kernel_rfl) rfl (by omega) (by omega) ?_
 intro b78 o78 h78
 try simp only [Int.toNat_natCast] at h78
 have h79 := RA.lkp h78
 refine yFg 79 49 78 0 0 43 true ?_
 refine lS (kg 80 (.load 27 (.tmp 79)) 43 true) rfl rfl (fun w' hS => h79.sy hS) h79 (by kernel_rfl) rfl rfl ?_
 intro v80 g80
 obtain rfl := rv_num.1 g80
 refine yS (kg 81 (.load 31 (.tmp 1)) 43 true) rfl rfl (fun w' hS => val_loadOwnAgg (n := 5) (vs := [.int .i64 ((1 : Nat) : Int), .int .u64 3, .int .u64 4, v9, .bool false]) (hp0.stay hS (by decide)) (by kernel_rfl) (by kernel_rfl) rfl rfl rfl) ?_
 refine yV (kg 82 (.build 35 #[(0, (.const (.int .i64 1))), (1, (.const (.int .i64 2)))]) 43 true) (fun _ => val_build (zs := [.int .i64 0, .int .i64 0]) (ps := [(0, 1), (1, 1)]) (qs := [(0, [.int .i64 1]), (1, [.int .i64 2])]) (cs := [.int .i64 1, .int .i64 2]) (by kernel_rfl) (by kernel_rfl) (by exact ⟨rfl, ⟨_, rfl, rfl⟩, rfl, ⟨_, rfl, rfl⟩, trivial⟩) rfl) ?_
 refine cS (kg 83 (.call { callee := .value (.func 10), args := #[(.tmp 81), (.tmp 82), (.const (.int .i64 0))], argTypes := #[31, 35, 3] }) 43 true) rfl rfl (ent Tryz.call10 rfl) (refpsd_ok (num := 1) (reg := 1) (id := 2) (turn := 0) hF (by decide) (by decide) (by decide) (by decide)) ?_
 rintro vw11 w11 ⟨rfl, hs⟩
 refine ⟨(hR.trans hs (by simp)).ext, ?_⟩
 replace hF := hF.st hs
 replace hT := hT.t hs
 replace htb := htb.st hs (by first | decide | (simp <;> omega))
 replace hr := hr.t hs; replace hp := hp.t hs; replace g16 := g16.t hs; replace g17 := g17.t hs; replace hu := hu.t hs; replace hn := hn.t hs; replace hm := hm.t hs; replace hR := hR.t hs; replace g52 := g52.t hs
 refine yV (kg 84 (.binOp .eql 27 (.tmp 80) (.tmp 83) 27) 43 true) (fun _ => val_is (val_eql rfl rfl) (show _ = Value.bool true from congrArg Value.bool (decide_eq_true (rfl)))) ?_
 refine yAt 85 76 84 ?_
 refine yM 86 85 ?_
 refine yS (kg 87 (.load 31 (.tmp 1)) 53 true) rfl rfl (fun w' hS => val_loadOwnAgg (n := 5) (vs := [.int .i64 ((1 : Nat) : Int), .int .u64 3, .int .u64 4, v9, .bool false]) (hp0.stay hS (by decide)) (by kernel_rfl) (by kernel_rfl) rfl rfl rfl) ?_
 refine cS (kg 88 (.call { callee := .value (.func 14), args := #[(.tmp 87)], argTypes := #[31] }) 53 true) rfl rfl (ent Tryz.call14 rfl) (check_ok (num := 1) hF hr rgs12 (by decide) (by decide)) ?_
 rintro vw12 w12 ⟨rfl, hs⟩
 refine ⟨(hR.trans hs (by simp)).ext, ?_⟩
 replace hF := hF.st hs
 replace hT := hT.t hs
 replace htb := htb.st hs (by first | decide | (simp <;> omega))
 replace hr := hr.t hs; replace hp := hp.t hs; replace g16 := g16.t hs; replace g17 := g17.t hs; replace hu := hu.t hs; replace hn := hn.t hs; replace hm := hm.t hs; replace hR := hR.t hs; replace g52 := g52.t hs
 refine yV (kg 89 (.binOp .eql 39 (.tmp 88) (.const (.int .i64 0)) 39) 53 true) (fun _ => val_is (val_eql rfl rfl) (show _ = Value.bool true from congrArg Value.bool (decide_eq_true (rfl)))) ?_
 refine yAt 90 86 89 ?_
 refine yM 91 90 ?_
 refine yS (kg 92 (.load 31 (.tmp 1)) 58 true) rfl rfl (fun w' hS => val_loadOwnAgg (n := 5) (vs := [.int .i64 ((1 : Nat) : Int), .int .u64 3, .int .u64 4, v9, .bool false]) (hp0.stay hS (by decide)) (by kernel_rfl) (by kernel_rfl) rfl rfl rfl) ?_
 refine yMg 93 2 58 true ?_
 refine cS (kg 94 (.call { callee := .value (.func 15), args := #[(.tmp 92), (.tmp 93)], argTypes := #[31, 38] }) 58 true) rfl rfl (ent Tryz.call15 rfl) (valid_ok (num := 1) (l := [(⟨⟨psdW 3 4 1 1 2 0⟩, [1, 2]⟩ : Lnk)]) hF hr rgs12 (by decide) (by decide) hu (by decide) (by intro x hx; rw [List.mem_singleton.1 hx]; exact ⟨rgs12, fun y hy => hy⟩)) ?_
 rintro vw13 w13 ⟨rfl, hs⟩
 refine ⟨(hR.trans hs (by simp)).ext, ?_⟩
 replace hF := hF.st hs
 replace hT := hT.t hs
 replace htb := htb.st hs (by first | decide | (simp <;> omega))
 replace hr := hr.t hs; replace hp := hp.t hs; replace g16 := g16.t hs; replace g17 := g17.t hs; replace hu := hu.t hs; replace hn := hn.t hs; replace hm := hm.t hs; replace hR := hR.t hs; replace g52 := g52.t hs
 refine yV (kg 95 (.binOp .eql 39 (.tmp 94) (.const (.int .i64 0)) 39) 58 true) (fun _ => val_is (val_eql rfl rfl) (show _ = Value.bool true from congrArg Value.bool (decide_eq_true (rfl)))) ?_
 refine yAt 96 91 95 ?_
 refine yM 97 96 ?_
 refine cS (kg 98 (.call { callee := .value (.func 16), args := #[(.const (.slice none 0 0))], argTypes := #[43] }) 64 true) rfl rfl (ent Tryz.call16 rfl) (persons_ok (l := []) hF rv_nil (by decide) (by simp)) ?_
 rintro vw14 w14 ⟨rfl, hs⟩
 refine ⟨(hR.trans hs (by simp)).ext, ?_⟩
 replace hF := hF.st hs
 replace hT := hT.t hs
 replace htb := htb.st hs (by first | decide | (simp <;> omega))
 replace hr := hr.t hs; replace hp := hp.t hs; replace g16 := g16.t hs; replace g17 := g17.t hs; replace hu := hu.t hs; replace hn := hn.t hs; replace hm := hm.t hs; replace hR := hR.t hs; replace g52 := g52.t hs
 refine yV (kg 99 (.binOp .eql 39 (.tmp 98) (.const (.int .i64 0)) 39) 64 true) (fun _ => val_is (val_eql rfl rfl) (show _ = Value.bool true from congrArg Value.bool (decide_eq_true (rfl)))) ?_
 refine yAt 100 97 99 ?_
 refine yA 0 100 ?_
 refine Sch.nil ?_
 refine run_ret1 (by kernel_rfl) Tryz.func4 Tryz.results4 rfl ?_
 exact ⟨rfl, hT.out1 (by decide)⟩
end Go.Proofs.YtfkggfmibpigpaaGreatDoor

/- Steps through functions of the program. -/
set_option linter.unusedVariables false
set_option linter.unusedSimpArgs false
set_option maxRecDepth 100000
set_option maxHeartbeats 4000000
namespace Go.Proofs.YtfkggfmibpigpaaGreatDoor
open Go.K Go.K.Rep
def DeckIs (w : World) (C : Nat → Nat) (i b : Nat) : Prop := ∃ d : Dk, DeckAt 54 w C i b d ∧ d.list.length ≤ 9223372036854775807
section
variable {w w' : World} {C C' : Nat → Nat} {i b : Nat} {I : List Nat}
theorem DeckIs.st (h : DeckIs w C i b) (hs : Stp I w C w' C') (h0 : 0 ∉ I) (hi : i ∉ I) : DeckIs w' C' i b := let ⟨d, h1, h2⟩ := h; ⟨d, h1.st hs h0 hi, h2⟩
theorem DeckIs.col2 (h : DeckIs w C i b) (hi : i ≠ 0) : DeckIs w (col2 C i) 2 b := let ⟨d, h1, h2⟩ := h; ⟨d, h1.col2 hi, h2⟩
theorem DeckIs.out {w₀ : World} {C₀ : Nat → Nat} (h : DeckIs w' C' 2 b) (hs : Stp I w₀ (K.col2 C₀ i) w' C') (hF : Lim w₀ C₀) (hb : C₀ b = i) : DeckIs w' C₀ i b := let ⟨d, h1, h2⟩ := h; ⟨d, h1.out hs hF hb, h2⟩
theorem DeckIs.colour (h : DeckIs w C i b) : C b = i := by obtain ⟨d, ⟨_, _, _, h⟩, _⟩ := h; exact h.col
end
theorem new_any {w : World} {C : Nat → Nat} {l : List Int} {vl : Value} (hF : Lim w C) (hl : RV w (Mc C) l vl) : Calls Tryz.prog 6 #[vl] w (Ret fun v w' => ∃ C' b, v = .pointer (some ⟨b, 0, none⟩) ∧ Stp [] w C w' C' ∧ Lim w' C' ∧ DeckIs w' C' 3 b) :=
  (new_ok hF hl).mono (Ret.mono fun v w' ⟨C', b, h1, h2, h3, h4⟩ => ⟨C', b, h1, h2, h3, _, h4, hl.le⟩)
theorem next_any {w : World} {C : Nat → Nat} {i b : Nat} {n : Int} (hF : Lim w C) (hi : i ≠ 0) (hd : DeckIs w C i b) (h1 : 1 ≤ n) (hn63 : n ≤ 9223372036854775807) : Calls Tryz.prog 8 #[.pointer (some ⟨b, 0, none⟩), .int .i64 n] w (Ret fun v w' => ∃ k : Nat, v = .int .i64 (k : Int) ∧ (k : Int) < n ∧ Stp [i] w C w' C ∧ DeckIs w' C i b) := by
  obtain ⟨d, hd, hl⟩ := hd
  refine (next_ok hF hi hd hl hn63).mono (Ret.mono fun v w' ⟨e, h2, h3⟩ => ?_)
  have hr := d.num_range h1
  exact ⟨(d.num n).toNat, by rw [e, Int.toNat_of_nonneg hr.1], by rw [Int.toNat_of_nonneg hr.1]; exact hr.2, h2, _, h3, by rw [Dk.after_list]; exact hl⟩
theorem few_any {w : World} {M : Nat → Prop} {l : List Int} {vl : Value} (hl : RV w M l vl) : Calls Tryz.prog 5 #[vl] w (Ret fun v w' => v = .bool (decide ((l.length : Int) ≤ 400)) ∧ w' = w) := by
  obtain ⟨a, c, rfl⟩ := hl.len
  exact few_ok a l.length c w
namespace F18
noncomputable def c0 := bodyOf Tryz.f18
end F18
theorem one_any {w : World} {C : Nat → Nat} {i b : Nat} {n : Int} (hF : Lim w C) (hi : i ≠ 0) (hd : DeckIs w C i b) (h1 : 1 ≤ n) (hn63 : n ≤ 9223372036854775807) : Calls Tryz.prog 18 #[.pointer (some ⟨b, 0, none⟩), .int .i64 n] w (Ret fun v w' => ∃ t : Bool, v = .bool t ∧ Stp [i] w C w' C ∧ DeckIs w' C i b) := by
 have hF0 := hF
 have hbc := hd.colour
 replace hd := hd.col2 hi
 have hT := Stp.refl [2, 3, 4, 5, 6, 7, 8, 9] w (col2 C i)
 replace hF := hF.col2 i
 refine calls_start (c := F18.c0) (N := 9) [.pointer (some ⟨b, 0, none⟩), .int .i64 n] Tryz.func18 (by kernel_rfl) (by kernel_rfl) (by kernel_rfl) ?_
 show Run _ _ _ _ [(0, .pointer (some ⟨b, 0, none⟩)), (1, .int .i64 n)] _ _
 refine run_sq ?_
 refine run_pl [yy 0] ?_
 refine yAc 4 (.bool false) ?_
 refine Sch.nil ?_
 refine run_sq ?_
 refine run_pl [yy 0, yy 1, nn 2, yy 3, yy 4] ?_
 refine yM 5 0 ?_
 refine yM 6 1 ?_
 refine cS (kq 7 (.call { callee := .value (.func 8), args := #[(.tmp 5), (.tmp 6)], argTypes := #[25, 3] })) rfl rfl (ent Tryz.call8 rfl) (next_any hF (by decide) hd h1 hn63) ?_
 rintro vw1 w1 ⟨k, rfl, hk, hs, hd⟩
 refine ⟨trivial, ?_⟩
 replace hF := hF.st hs
 replace hT := hT.t hs
 refine yV (kq 8 (.binOp .eql 3 (.tmp 7) (.const (.int .i64 0)) 3)) (fun _ => val_eql rfl rfl) ?_
 refine yA 4 8 ?_
 refine Sch.nil ?_
 refine run_ret1 (by kernel_rfl) Tryz.func18 Tryz.results18 rfl ?_
 exact ⟨_, rfl, hT.out2 (by decide), hd.out hT hF0 hbc⟩
end Go.Proofs.YtfkggfmibpigpaaGreatDoor

/- Steps through functions of the program. -/
set_option linter.unusedVariables false
set_option linter.unusedSimpArgs false
set_option maxRecDepth 100000
set_option maxHeartbeats 4000000
namespace Go.Proofs.YtfkggfmibpigpaaGreatDoor
open Go.K Go.K.Rep
theorem word_any {w : World} {C : Nat → Nat} {i b : Nat} (hF : Lim w C) (hi : i ≠ 0) (hd : DeckIs w C i b) : Calls Tryz.prog 19 #[.pointer (some ⟨b, 0, none⟩)] w (Ret fun v w' => ∃ x : Int, v = .int .u64 x ∧ Stp [i] w C w' C ∧ DeckIs w' C i b) := by
  obtain ⟨d, hd, hl⟩ := hd
  exact (word_ok hF hi hd hl).mono (Ret.mono fun v w' ⟨e, h2, h3⟩ => ⟨_, e, h2, d.next, h3, hl⟩)
namespace F17
noncomputable def c0 := bodyOf Tryz.f17
end F17
theorem key_any {w₀ : World} {C : Nat → Nat} {i b : Nat} (hF : Lim w₀ C) (hi : i ≠ 0) (hd : DeckIs w₀ C i b) : Calls Tryz.prog 17 #[.pointer (some ⟨b, 0, none⟩)] w₀ (Ret fun v w' => ∃ ka kb : Int, v = .agg #[.int .u64 ka, .int .u64 kb] ∧ Stp [i] w₀ C w' C ∧ DeckIs w' C i b) := by
 have hF0 := hF
 have hbc := hd.colour
 replace hd := hd.col2 hi
 have hT := Stp.refl [2, 3, 4, 5, 6, 7, 8, 9] w₀ (col2 C i)
 replace hF := hF.col2 i
 refine calls_start (c := F17.c0) (N := 8) [.pointer (some ⟨b, 0, none⟩)] Tryz.func17 (by kernel_rfl) (by kernel_rfl) (by kernel_rfl) ?_
 show Run _ _ _ _ [(0, .pointer (some ⟨b, 0, none⟩))] _ _
 refine run_sq ?_
 refine run_pl [nn 0] ?_
 refine aS (kq 2 (.alloc 29)) rfl rfl (a_alloc (cs := [.int .u64 0, .int .u64 0]) hF 3 (by kernel_rfl)) ?_
 rintro _ w1 ⟨Cw1, bw1, rfl, hs, hy, hF⟩
 refine ⟨trivial, ?_⟩
 replace hT := hT.t hs
 replace hd := hd.st hs (by first | decide | (simp <;> omega)) (by first | decide | (simp <;> omega))
 refine Sch.nil ?_
 refine run_sq ?_
 refine run_pl [yy 0, nn 1, yy 2, nn 3, yy 4, nn 5] ?_
 refine yM 3 0 ?_
 refine cS (kq 4 (.call { callee := .value (.func 19), args := #[(.tmp 3)], argTypes := #[25] })) rfl rfl (ent Tryz.call19 rfl) (word_any hF (by decide) hd) ?_
 rintro vw2 w2 ⟨ka, rfl, hs, hd⟩
 refine ⟨trivial, ?_⟩
 replace hF := hF.st hs
 replace hT := hT.t hs; replace hy := hy.t hs
 refine yM 5 0 ?_
 refine cS (kq 6 (.call { callee := .value (.func 19), args := #[(.tmp 5)], argTypes := #[25] })) rfl rfl (ent Tryz.call19 rfl) (word_any hF (by decide) hd) ?_
 rintro vw3 w3 ⟨kb, rfl, hs, hd⟩
 refine ⟨trivial, ?_⟩
 replace hF := hF.st hs
 replace hT := hT.t hs; replace hy := hy.t hs
 refine yV (kq 7 (.build 29 #[(0, (.tmp 4)), (1, (.tmp 6))])) (fun _ => val_build (zs := [.int .u64 0, .int .u64 0]) (ps := [(0, 1), (1, 1)]) (qs := [(0, [.int .u64 ka]), (1, [.int .u64 kb])]) (cs := [.int .u64 ka, .int .u64 kb]) (by kernel_rfl) (by kernel_rfl) (by exact ⟨rfl, ⟨_, rfl, rfl⟩, rfl, ⟨_, rfl, rfl⟩, trivial⟩) rfl) ?_
 refine aN (k0 (.store 29 (.tmp 2) (.tmp 7))) rfl (a_storeAll (vs := [.int .u64 ka, .int .u64 kb]) (n := 2) rfl rfl (by kernel_rfl) rfl rfl (by intro z hz; simp only [List.mem_cons, List.not_mem_nil, or_false] at hz; rcases hz with rfl | rfl <;> rfl) hy rfl) ?_
 rintro _ w4 ⟨rfl, hs, hy⟩
 refine ⟨trivial, ?_⟩
 replace hF := hF.st hs
 replace hT := hT.t hs
 replace hd := hd.st hs (by first | decide | (simp <;> omega)) (by first | decide | (simp <;> omega))
 refine Sch.nil ?_
 refine run_retC1 (by kernel_rfl) Tryz.func17 Tryz.results17 rfl hy.at_ (by kernel_rfl) (by kernel_rfl) rfl ?_
 exact ⟨ka, kb, rfl, hT.out2 (by decide), hd.out hT hF0 hbc⟩
namespace F7
noncomputable def c0 := bodyOf Tryz.f7
end F7
theorem project_any {w₀ : World} {C : Nat → Nat} {i b : Nat} {num : Int} (hF : Lim w₀ C) (hi : i ≠ 0) (hd : DeckIs w₀ C i b) : Calls Tryz.prog 7 #[.pointer (some ⟨b, 0, none⟩), .int .i64 num, .int .i64 4] w₀ (Ret fun v w' => ∃ (ka kb : Int) (rs : List Int) (vr : Value) (lv : Bool), v = .agg #[.int .i64 num, .int .u64 ka, .int .u64 kb, vr, .bool lv] ∧ Stp [i] w₀ C w' C ∧ RV w' (Mc C) rs vr ∧ DeckIs w' C i b) := by
 have hF0 := hF
 have hbc := hd.colour
 replace hd := hd.col2 hi
 have hT := Stp.refl [2, 3, 4, 5, 6, 7, 8, 9] w₀ (col2 C i)
 replace hF := hF.col2 i
 refine calls_start (c := F7.c0) (N := 36) [.pointer (some ⟨b, 0, none⟩), .int .i64 num, .int .i64 4] Tryz.func7 (by kernel_rfl) (by kernel_rfl) (by kernel_rfl) ?_
 show Run _ _ _ _ [(0, .pointer (some ⟨b, 0, none⟩)), (1, .int .i64 num), (2, .int .i64 4)] _ _
 refine run_sq ?_
 refine run_pl [nn 0] ?_
 refine aS (kq 6 (.alloc 31)) rfl rfl (a_alloc (cs := [.int .i64 0, .int .u64 0, .int .u64 0, .slice none 0 0, .bool false]) hF 4 (by kernel_rfl)) ?_
 rintro _ w1 ⟨Cw1, bw1, rfl, hs, hy, hF⟩
 refine ⟨trivial, ?_⟩
 replace hT := hT.t hs
 replace hd := hd.st hs (by first | decide | (simp <;> omega)) (by first | decide | (simp <;> omega))
 refine Sch.nil ?_
 refine run_sq ?_
 refine run_pl [yy 0, yy 1, nn 2, yy 3, nn 4, yy 5, nn 6, nn 7] ?_
 refine yM 9 1 ?_
 refine yM 10 0 ?_
 refine cS (kq 11 (.call { callee := .value (.func 17), args := #[(.tmp 10)], argTypes := #[25] })) rfl rfl (ent Tryz.call17 rfl) (key_any hF (by decide) hd) ?_
 rintro vw2 w2 ⟨ka, kb, rfl, hs, hd⟩
 refine ⟨trivial, ?_⟩
 replace hF := hF.st hs
 replace hT := hT.t hs; replace hy := hy.t hs
 refine yM 12 0 ?_
 refine cS (kq 13 (.call { callee := .value (.func 18), args := #[(.tmp 12), (.const (.int .i64 2))], argTypes := #[25, 3] })) rfl rfl (ent Tryz.call18 rfl) (one_any (n := 2) hF (by decide) hd (by decide) (by decide)) ?_
 rintro vw3 w3 ⟨lv, rfl, hs, hd⟩
 refine ⟨trivial, ?_⟩
 replace hF := hF.st hs
 replace hT := hT.t hs; replace hy := hy.t hs
 refine yV (kq 14 (.build 31 #[(0, (.tmp 9)), (1, (.tmp 11)), (3, (.tmp 13))])) (fun _ => val_build (zs := [.int .i64 0, .int .u64 0, .int .u64 0, .slice none 0 0, .bool false]) (ps := [(0, 1), (1, 2), (3, 1), (4, 1)]) (qs := [(0, [.int .i64 num]), (1, [.int .u64 ka, .int .u64 kb]), (3, [.bool lv])]) (cs := [.int .i64 num, .int .u64 ka, .int .u64 kb, .slice none 0 0, .bool lv]) (by kernel_rfl) (by kernel_rfl) (by exact ⟨rfl, ⟨_, rfl, rfl⟩, rfl, ⟨_, rfl, rfl⟩, rfl, ⟨_, rfl, rfl⟩, trivial⟩) rfl) ?_
 refine aS (kq 7 (.alloc 31)) rfl rfl (a_alloc (cs := [.int .i64 0, .int .u64 0, .int .u64 0, .slice none 0 0, .bool false]) hF 3 (by kernel_rfl)) ?_
 rintro _ w4 ⟨Cw4, bw4, rfl, hs, hq, hF⟩
 refine ⟨trivial, ?_⟩
 replace hT := hT.t hs
 replace hd := hd.st hs (by first | decide | (simp <;> omega)) (by first | decide | (simp <;> omega))
 replace hy := hy.t hs
 refine aN (k0 (.store 31 (.tmp 7) (.tmp 14))) rfl (a_storeAll (vs := [.int .i64 num, .int .u64 ka, .int .u64 kb, .slice none 0 0, .bool lv]) (n := 5) rfl rfl (by kernel_rfl) rfl rfl (by intro z hz; simp only [List.mem_cons, List.not_mem_nil, or_false] at hz; rcases hz with rfl | rfl | rfl | rfl | rfl <;> rfl) hq rfl) ?_
 rintro _ w5 ⟨rfl, hs, hq⟩
 refine ⟨trivial, ?_⟩
 replace hF := hF.st hs
 replace hT := hT.t hs
 replace hd := hd.st hs (by first | decide | (simp <;> omega)) (by first | decide | (simp <;> omega))
 replace hy := hy.t hs
 refine Sch.nil ?_
 refine run_sq ?_
 refine run_sq ?_
 refine run_pl [yy 0] ?_
 refine yAc 8 (.int .i64 0) ?_
 refine Sch.nil ?_
 refine run_bk 0 ?_
 
 refine run_lp (ι := Nat × (List Int) × Value × (Nat → Nat)) (I := fun x w => x.1 ≤ 4 ∧ x.2.1.length ≤ x.1 ∧ Lim w x.2.2.2 ∧ Stp [2, 3, 4, 5, 6, 7, 8, 9] w₀ (col2 C i) w x.2.2.2 ∧ DeckIs w x.2.2.2 2 b ∧ OwnB w x.2.2.2 4 bw1 (.cells [.int .i64 0, .int .u64 0, .int .u64 0, .slice none 0 0, .bool false].toArray 31) ∧ OwnB w x.2.2.2 3 bw4 (.cells [.int .i64 num, .int .u64 ka, .int .u64 kb, x.2.2.1, .bool lv].toArray 31) ∧ OwnL w x.2.2.2 5 3 x.2.2.1 x.2.1) (e := fun x => [(0, .pointer (some ⟨b, 0, none⟩)), (2, .int .i64 4), (6, .pointer (some ⟨bw1, 0, none⟩)), (7, .pointer (some ⟨bw4, 0, none⟩)), (8, .int .i64 x.1)]) (m := fun x => 4 - x.1) (x₀ := (0, [], .slice none 0 0, Cw4)) (sr 0 (sr 2 (sr 6 (sr 7 (sr 8 (sub_nil _)))))) ?_ ?_
 · exact ⟨by omega, by simp, hF, hT, hd, hy, hq, OwnL.nil⟩
 intro ⟨k, rs, vo, C1⟩ w6 hI next
 obtain ⟨hk, hrl, hF, hT, hd, hy, hq, ho⟩ := hI
 try simp only at hk hrl hF hT hd hy hq ho
 have next1 := next
 clear next
 show Run _ _ _ _ [(0, .pointer (some ⟨b, 0, none⟩)), (2, .int .i64 4), (6, .pointer (some ⟨bw1, 0, none⟩)), (7, .pointer (some ⟨bw4, 0, none⟩)), (8, .int .i64 k)] _ _
 refine run_sq ?_
 refine run_sq ?_
 refine run_pl [yy 0, yy 1, yy 2] ?_
 refine yM 15 8 ?_
 refine yM 16 2 ?_
 refine yV (kq 17 (.binOp .lss 3 (.tmp 15) (.tmp 16) 3)) (fun _ => val_lss rfl rfl) ?_
 refine Sch.nil ?_
 refine run_i 17 rfl (fun h17 => ?_) (fun h17 => ?_)
 ·
  have hkl : k < 4 := by omega
  refine run_sk ?_
  refine run_sq ?_
  refine run_bk 1 ?_
  refine run_sq ?_
  refine run_pl [yy 0, nn 1, yy 2] ?_
  refine yM 20 0 ?_
  refine cS (kq 21 (.call { callee := .value (.func 18), args := #[(.tmp 20), (.const (.int .i64 4))], argTypes := #[25, 3] })) rfl rfl (ent Tryz.call18 rfl) (one_any (n := 4) hF (by decide) hd (by decide) (by decide)) ?_
  rintro vw7 w7 ⟨t, rfl, hs, hd⟩
  refine ⟨trivial, ?_⟩
  replace hF := hF.st hs
  replace hT := hT.t hs; replace hy := hy.t hs; replace hq := hq.t hs; replace ho := ho.t hs
  refine yV (kq 22 (.unOp .not 4 (.tmp 21))) (fun _ => val_not rfl) ?_
  refine Sch.nil ?_
  refine run_c 22 rfl (fun h22 => ?_) (fun h22 => ?_)
  ·
   refine run_pl [yy 0, nn 1, yy 2, nn 3, nn 4, yy 5, nn 6] ?_
   refine yF 23 31 7 2 3 ?_
   refine nS (kq 24 (.load 22 (.tmp 23))) rfl rfl trivial (val_loadOwn hq.at_ (by kernel_rfl) rfl rfl) ?_
   refine yM 25 8 ?_
   refine aS (kq 26 (.buildSlice 22 1 #[(0, (.tmp 25))])) rfl rfl (a_buildSlice (ys := ([(k : Int)] : List Int)) (e := 3) (bytes := 8) hF (by kernel_rfl) rfl (by decide) (by decide) ⟨rfl, ⟨_, rfl, rv_int.2 rfl⟩, trivial⟩) ?_
   rintro v26 w8 ⟨hs, g26, hF⟩
   refine ⟨trivial, ?_⟩
   replace hT := hT.t hs
   replace hd := hd.st hs (by first | decide | (simp <;> omega)) (by first | decide | (simp <;> omega))
   replace hy := hy.t hs; replace hq := hq.t hs; replace ho := ho.t hs
   refine aS (kq 27 (.call { callee := .builtin .append, args := #[(.tmp 24), (.tmp 26)], argTypes := #[22, 22] })) rfl rfl (a_append (e := 3) (bytes := 8) hF (by decide) rfl rfl (by kernel_rfl) (by decide) ho g26 (by simp only [List.length_cons, List.length_nil]; omega) (by simp only [List.length_cons, List.length_nil]; omega)) ?_
   rintro v27 w9 ⟨Cw9, hs, ho, hF⟩
   refine ⟨trivial, ?_⟩
   replace hT := hT.t hs
   replace hd := hd.st hs (by first | decide | (simp <;> omega)) (by first | decide | (simp <;> omega))
   replace hy := hy.t hs; replace hq := hq.t hs; replace g26 := g26.t hs
   refine yF 28 31 7 2 3 ?_
   refine aN (k0 (.store 22 (.tmp 28) (.tmp 27))) rfl (a_store1 rfl rfl (by kernel_rfl) ho.one.1 ho.one.2 hq (by simp)) ?_
   rintro _ w10 ⟨rfl, hs, hq⟩
   refine ⟨trivial, ?_⟩
   replace hF := hF.st hs
   replace hT := hT.t hs
   replace hd := hd.st hs (by first | decide | (simp <;> omega)) (by first | decide | (simp <;> omega))
   replace hy := hy.t hs; replace ho := ho.t hs; replace g26 := g26.t hs
   refine Sch.nil ?_
   refine run_inBlock ?_
   refine run_pl [yy 0, yy 1, yy 2] ?_
   refine yM 18 8 ?_
   refine yV (kq 19 (.binOp .add 3 (.tmp 18) (.const (.int .i64 1)) 3)) (fun _ => val_addi rfl rfl (by omega) (by omega)) ?_
   refine yA 8 19 ?_
   refine Sch.nil ?_
   refine kp (sub_cons 0 rfl rfl (sub_cons 2 rfl rfl (sub_cons 6 rfl rfl (sub_cons 7 rfl rfl (sub_cons 8 rfl (eq_int (by simp)) (sub_nil _)))))) (next1 (k + 1, rs ++ [(k : Int)], v27, Cw9) _ ⟨(by first | omega | (simp only; omega)), (by simp only [List.length_append, List.length_cons, List.length_nil]; omega), hF, hT, hd, hy, hq, ho⟩ (by first | omega | (simp only; omega)))
  ·
   refine run_sk ?_
   refine run_inBlock ?_
   refine run_pl [yy 0, yy 1, yy 2] ?_
   refine yM 18 8 ?_
   refine yV (kq 19 (.binOp .add 3 (.tmp 18) (.const (.int .i64 1)) 3)) (fun _ => val_addi rfl rfl (by omega) (by omega)) ?_
   refine yA 8 19 ?_
   refine Sch.nil ?_
   refine kp (sub_cons 0 rfl rfl (sub_cons 2 rfl rfl (sub_cons 6 rfl rfl (sub_cons 7 rfl rfl (sub_cons 8 rfl (eq_int (by simp)) (sub_nil _)))))) (next1 (k + 1, rs, vo, C1) _ ⟨(by first | omega | (simp only; omega)), (by simp only; omega), hF, hT, hd, hy, hq, ho⟩ (by first | omega | (simp only; omega)))
 ·
  have hkl : k = 4 := by omega
  refine run_ex 0 ?_
  refine run_sq ?_
  refine run_sq ?_
  refine run_pl [yy 0, nn 1, yy 2, yy 3] ?_
  refine yF 29 31 7 2 3 ?_
  refine nS (kq 30 (.load 22 (.tmp 29))) rfl rfl trivial (val_loadOwn hq.at_ (by kernel_rfl) rfl rfl) ?_
  refine yS (kq 31 (.call { callee := .builtin .len, args := #[(.tmp 30)], argTypes := #[22] })) rfl rfl (fun w' hS => ho.lenV rfl Tryz.underlying22 w' ) ?_
  refine yV (kq 32 (.binOp .lss 3 (.tmp 31) (.const (.int .i64 2)) 3)) (fun _ => val_lss rfl rfl) ?_
  refine Sch.nil ?_
  refine run_i 32 rfl (fun h32 => ?_) (fun h32 => ?_)
  ·
   refine run_pl [nn 0, yy 1, nn 2] ?_
   refine aS (kq 33 (.buildSlice 22 2 #[(0, (.const (.int .i64 0))), (1, (.const (.int .i64 1)))])) rfl rfl (a_buildSlice (ys := ([0, 1] : List Int)) (e := 3) (bytes := 8) hF (by kernel_rfl) rfl (by decide) (by decide) ⟨rfl, ⟨_, rfl, rv_int.2 rfl⟩, rfl, ⟨_, rfl, rv_int.2 rfl⟩, trivial⟩) ?_
   rintro v33 w11 ⟨hs, g33, hF⟩
   refine ⟨trivial, ?_⟩
   replace hT := hT.t hs
   replace hd := hd.st hs (by first | decide | (simp <;> omega)) (by first | decide | (simp <;> omega))
   replace hy := hy.t hs; replace hq := hq.t hs; replace ho := ho.t hs
   refine yF 34 31 7 2 3 ?_
   refine aN (k0 (.store 22 (.tmp 34) (.tmp 33))) rfl (a_store1 rfl rfl (by kernel_rfl) (g33.one rfl).1 (g33.one rfl).2 hq (by simp)) ?_
   rintro _ w12 ⟨rfl, hs, hq⟩
   refine ⟨trivial, ?_⟩
   replace hF := hF.st hs
   replace hT := hT.t hs
   replace hd := hd.st hs (by first | decide | (simp <;> omega)) (by first | decide | (simp <;> omega))
   replace hy := hy.t hs; replace ho := ho.t hs; replace g33 := g33.t hs
   refine Sch.nil ?_
   refine run_sq ?_
   refine run_pl [nn 0, nn 1] ?_
   refine nS (kq 35 (.load 31 (.tmp 7))) rfl rfl trivial (val_loadOwnAgg (n := 5) (vs := [.int .i64 num, .int .u64 ka, .int .u64 kb, v33, .bool lv]) hq.at_ (by kernel_rfl) (by kernel_rfl) rfl rfl rfl) ?_
   refine aN (k0 (.store 31 (.tmp 6) (.tmp 35))) rfl (a_storeAll (vs := [.int .i64 num, .int .u64 ka, .int .u64 kb, v33, .bool lv]) (n := 5) rfl rfl (by kernel_rfl) rfl rfl (by intro u hu; simp only [List.mem_cons, List.not_mem_nil, or_false] at hu; rcases hu with rfl | rfl | rfl | rfl | rfl <;> first | rfl | exact (g33.one rfl).2) hy rfl) ?_
   rintro _ w13 ⟨rfl, hs, hy⟩
   refine ⟨trivial, ?_⟩
   replace hF := hF.st hs
   replace hT := hT.t hs
   replace hd := hd.st hs (by first | decide | (simp <;> omega)) (by first | decide | (simp <;> omega))
   replace hq := hq.t hs; replace ho := ho.t hs; replace g33 := g33.t hs
   refine Sch.nil ?_
   refine run_retC1 (by kernel_rfl) Tryz.func7 Tryz.results7 rfl hy.at_ (by kernel_rfl) (by kernel_rfl) rfl ?_
   exact ⟨ka, kb, [0, 1], _, lv, rfl, hT.out2 (by decide), g33.out hT hF0 (Mc_col2 C i), hd.out hT hF0 hbc⟩
  ·
   refine run_sk ?_
   refine run_sq ?_
   refine run_pl [nn 0, nn 1] ?_
   refine nS (kq 35 (.load 31 (.tmp 7))) rfl rfl trivial (val_loadOwnAgg (n := 5) (vs := [.int .i64 num, .int .u64 ka, .int .u64 kb, vo, .bool lv]) hq.at_ (by kernel_rfl) (by kernel_rfl) rfl rfl rfl) ?_
   refine aN (k0 (.store 31 (.tmp 6) (.tmp 35))) rfl (a_storeAll (vs := [.int .i64 num, .int .u64 ka, .int .u64 kb, vo, .bool lv]) (n := 5) rfl rfl (by kernel_rfl) rfl rfl (by intro u hu; simp only [List.mem_cons, List.not_mem_nil, or_false] at hu; rcases hu with rfl | rfl | rfl | rfl | rfl <;> first | rfl | exact ho.one.2) hy rfl) ?_
   rintro _ w14 ⟨rfl, hs, hy⟩
   refine ⟨trivial, ?_⟩
   replace hF := hF.st hs
   replace hT := hT.t hs
   replace hd := hd.st hs (by first | decide | (simp <;> omega)) (by first | decide | (simp <;> omega))
   replace hq := hq.t hs; replace ho := ho.t hs
   refine Sch.nil ?_
   refine run_retC1 (by kernel_rfl) Tryz.func7 Tryz.results7 rfl hy.at_ (by kernel_rfl) (by kernel_rfl) rfl ?_
   exact ⟨ka, kb, rs, _, lv, rfl, hT.out2 (by decide), ho.out hT hF0 (Mc_col2 C i) (fun b _ => col2_lt C i (by decide) b) (by omega), hd.out hT hF0 hbc⟩
end Go.Proofs.YtfkggfmibpigpaaGreatDoor

/- Steps through functions of the program. -/
set_option linter.unusedVariables false
set_option linter.unusedSimpArgs false
set_option maxRecDepth 100000
set_option maxHeartbeats 4000000
namespace Go.Proofs.YtfkggfmibpigpaaGreatDoor
open Go.K Go.K.Rep
namespace F3
noncomputable def c0 := bodyOf Tryz.f3
noncomputable def c16 := (cr (cr (cr (cr (cr c0)))))
noncomputable def o6 := rops (cl c16)
noncomputable def o8 := rops (cl (cr (cr c16)))
end F3
theorem wrap_i64s {m : Nat} (h : m < 256) : IntKind.i64.wrap (m : Int) = m := by
  unfold IntKind.wrap; simp only [IntKind.bits, IntKind.signed]; first | omega | (simp; omega) | (split <;> omega)
theorem keys_ok {w₀ : World} {C : Nat → Nat} {l : List Int} {vl : Value} {m : Nat} (hF : Lim w₀ C) (htb : Tb Tryz.prog w₀ C) (hl : RV w₀ (Mc C) l vl) (hm : m < 256) : Calls Tryz.prog 3 #[vl, .int .u8 m] w₀ (Ret fun v w' => v = .bool true ∧ Stp [] w₀ C w' C) := by
 have hF0 := hF
 have hT := Stp.refl [2, 3, 4, 5, 6, 7, 8, 9] w₀ (col1 C)
 replace hF := hF.col1
 replace htb := htb.col1
 replace hl : RV w₀ (Mc (col1 C)) l vl := by rw [Mc_col1]; exact hl
 refine calls_start (c := F3.c0) (N := 61) [vl, .int .u8 m] Tryz.func3 (by kernel_rfl) (by kernel_rfl) (by kernel_rfl) ?_
 show Run _ _ _ _ [(0, vl), (1, .int .u8 m)] _ _
 refine run_sq ?_
 refine run_pl [yy 0] ?_
 refine yAc 4 (.bool false) ?_
 refine Sch.nil ?_
 refine run_sq ?_
 refine run_sq ?_
 refine run_pl [nn 0, yy 1, yy 2, yy 3, nn 4, yy 5, yy 6] ?_
 refine cS (kq 9 (.call { callee := .value (.func 4), args := #[], argTypes := #[] })) rfl rfl (ent Tryz.call4 rfl) (awake_ok hF htb) ?_
 rintro vw1 w1 ⟨rfl, hs⟩
 refine ⟨trivial, ?_⟩
 replace hF := hF.st hs
 replace hT := hT.t hs
 replace htb := htb.st hs (by first | decide | (simp <;> omega))
 replace hl := hl.t hs
 refine yV (kq 10 (.unOp .not 4 (.tmp 9))) (fun _ => val_not rfl) ?_
 refine yM 11 10 ?_
 refine yMg 12 0 2 false ?_
 refine cS (kg 13 (.call { callee := .value (.func 5), args := #[(.tmp 12)], argTypes := #[22] }) 2 false) rfl rfl (ent Tryz.call5 rfl) (few_any hl) ?_
 rintro vw2 w2 ⟨rfl, rfl⟩
 refine ⟨trivial, ?_⟩
 refine yV (kg 14 (.unOp .not 4 (.tmp 13)) 2 false) (fun _ => val_notd rfl) ?_
 refine yOf 15 11 14 ?_
 refine Sch.nil ?_
 refine run_i 15 rfl (fun h15 => ?_) (fun h15 => ?_)
 ·
  refine run_sq ?_
  refine run_pl [nn 0, yy 1] ?_
  refine cS (kq 16 (.call { callee := .value (.func 4), args := #[], argTypes := #[] })) rfl rfl (ent Tryz.call4 rfl) (awake_ok hF htb) ?_
  rintro vw3 w3 ⟨rfl, hs⟩
  refine ⟨trivial, ?_⟩
  replace hF := hF.st hs
  replace hT := hT.t hs
  replace htb := htb.st hs (by first | decide | (simp <;> omega))
  replace hl := hl.t hs
  refine yA 4 16 ?_
  refine Sch.nil ?_
  refine run_ret1 (by kernel_rfl) Tryz.func3 Tryz.results3 rfl ?_
  exact ⟨rfl, hT.out1 (by decide)⟩
 ·
  refine run_sk ?_
  refine run_sq ?_
  refine run_pl [yy 0, nn 1, yy 2] ?_
  refine yM 17 0 ?_
  refine cS (kq 18 (.call { callee := .value (.func 6), args := #[(.tmp 17)], argTypes := #[22] })) rfl rfl (ent Tryz.call6 rfl) (new_any hF hl) ?_
  rintro vw4 w4 ⟨Cd, bd, rfl, hs, hF, hd⟩
  refine ⟨trivial, ?_⟩
  replace hT := hT.t hs
  replace htb := htb.st hs (by first | decide | (simp <;> omega))
  replace hl := hl.t hs
  refine yA 5 18 ?_
  refine Sch.nil ?_
  refine run_sq ?_
  refine run_pl [yy 0, yy 1, nn 2, yy 3, nn 4, nn 5, nn 6] ?_
  refine yM 19 5 ?_
  refine yM 20 5 ?_
  refine cS (kq 21 (.call { callee := .value (.func 8), args := #[(.tmp 20), (.const (.int .i64 4))], argTypes := #[25, 3] })) rfl rfl (ent Tryz.call8 rfl) (next_any (n := (4 : Int)) hF (by decide) hd (by omega) (by omega)) ?_
  rintro vw5 w5 ⟨k, rfl, hk, hs, hd⟩
  refine ⟨trivial, ?_⟩
  replace hF := hF.st hs
  replace hT := hT.t hs
  replace htb := htb.st hs (by first | decide | (simp <;> omega))
  replace hl := hl.t hs
  refine yV (kq 22 (.binOp .add 3 (.const (.int .i64 1)) (.tmp 21) 3)) (fun _ => val_is (val_addi rfl rfl (by omega) (by omega)) (congrArg (Value.int .i64) (show (1 : Int) + (k : Int) = ((1 + k : Nat) : Int) by omega))) ?_
  refine cS (kq 23 (.call { callee := .value (.func 7), args := #[(.tmp 19), (.tmp 22), (.const (.int .i64 4))], argTypes := #[25, 3, 3] })) rfl rfl (ent Tryz.call7 rfl) (project_any (num := ((1 + k : Nat) : Int)) hF (by decide) hd) ?_
  rintro vw6 w6 ⟨ka, kb, rs, vr, lv, rfl, hs, hr, hd⟩
  refine ⟨trivial, ?_⟩
  replace hF := hF.st hs
  replace hT := hT.t hs
  replace htb := htb.st hs (by first | decide | (simp <;> omega))
  replace hl := hl.t hs
  refine aS (kq 6 (.alloc 31)) rfl rfl (a_alloc (cs := [.int .i64 0, .int .u64 0, .int .u64 0, .slice none 0 0, .bool false]) hF 4 (by kernel_rfl)) ?_
  rintro _ w7 ⟨Cw7, bw7, rfl, hs, hp, hF⟩
  refine ⟨trivial, ?_⟩
  replace hT := hT.t hs
  replace htb := htb.st hs (by first | decide | (simp <;> omega))
  replace hl := hl.t hs
  replace hd := hd.st hs (by first | decide | (simp <;> omega)) (by first | decide | (simp <;> omega))
  replace hr := hr.t hs
  refine aN (k0 (.store 31 (.tmp 6) (.tmp 23))) rfl (a_storeAll (vs := [.int .i64 ((1 + k : Nat) : Int), .int .u64 ka, .int .u64 kb, vr, .bool lv]) (n := 5) rfl rfl (by kernel_rfl) rfl rfl (by intro u hu; simp only [List.mem_cons, List.not_mem_nil, or_false] at hu; rcases hu with rfl | rfl | rfl | rfl | rfl <;> first | rfl | exact (hr.one rfl).2) hp rfl) ?_
  rintro _ w8 ⟨rfl, hs, hp⟩
  refine ⟨trivial, ?_⟩
  replace hF := hF.st hs
  replace hT := hT.t hs
  replace htb := htb.st hs (by first | decide | (simp <;> omega))
  replace hl := hl.t hs
  replace hd := hd.st hs (by first | decide | (simp <;> omega)) (by first | decide | (simp <;> omega))
  replace hr := hr.t hs
  refine Sch.nil ?_
  refine run_sq ?_
  refine run_pl [nn 0, nn 1, nn 2] ?_
  refine nS (kq 24 (.load 31 (.tmp 6))) rfl rfl trivial (val_loadOwnAgg (n := 5) (vs := [.int .i64 ((1 + k : Nat) : Int), .int .u64 ka, .int .u64 kb, vr, .bool lv]) hp.at_ (by kernel_rfl) (by kernel_rfl) rfl rfl rfl) ?_
  refine aS (kq 7 (.alloc 31)) rfl rfl (a_alloc (cs := [.int .i64 0, .int .u64 0, .int .u64 0, .slice none 0 0, .bool false]) hF 5 (by kernel_rfl)) ?_
  rintro _ w9 ⟨Cw9, bw9, rfl, hs, hq, hF⟩
  refine ⟨trivial, ?_⟩
  replace hT := hT.t hs
  replace htb := htb.st hs (by first | decide | (simp <;> omega))
  replace hl := hl.t hs
  replace hd := hd.st hs (by first | decide | (simp <;> omega)) (by first | decide | (simp <;> omega))
  replace hr := hr.t hs; replace hp := hp.t hs
  refine aN (k0 (.store 31 (.tmp 7) (.tmp 24))) rfl (a_storeAll (vs := [.int .i64 ((1 + k : Nat) : Int), .int .u64 ka, .int .u64 kb, vr, .bool lv]) (n := 5) rfl rfl (by kernel_rfl) rfl rfl (by intro u hu; simp only [List.mem_cons, List.not_mem_nil, or_false] at hu; rcases hu with rfl | rfl | rfl | rfl | rfl <;> first | rfl | exact (hr.one rfl).2) hq rfl) ?_
  rintro _ w10 ⟨rfl, hs, hq⟩
  refine ⟨trivial, ?_⟩
  replace hF := hF.st hs
  replace hT := hT.t hs
  replace htb := htb.st hs (by first | decide | (simp <;> omega))
  replace hl := hl.t hs
  replace hd := hd.st hs (by first | decide | (simp <;> omega)) (by first | decide | (simp <;> omega))
  replace hr := hr.t hs; replace hp := hp.t hs
  refine Sch.nil ?_
  refine run_sq ?_
  refine run_draw (id := 6) (ops := F3.o6) [5] (Cw9) [yy 1, yy 2, yy 3, nn 0, yy 4, nn 5, yy 6, nn 7] Tryz_mixed (by kernel_rfl) (by kernel_rfl) (by kernel_rfl) ?_
  intro w11 hs
  replace hF := hF.st hs
  replace hT := hT.t hs
  replace htb := htb.st hs (by first | decide | (simp <;> omega))
  replace hl := hl.t hs
  replace hd := hd.st hs (by first | decide | (simp <;> omega)) (by first | decide | (simp <;> omega))
  replace hr := hr.t hs; replace hp := hp.t hs; replace hq := hq.t hs
  have hR := Stp.refl [5] w11 (Cw9)
  have hp0 := hp
  refine yF 26 31 6 3 4 ?_
  refine yS (kq 27 (.load 4 (.tmp 26))) rfl rfl (fun w' hS => val_loadOwn (hp0.stay hS (by decide)) (by kernel_rfl) rfl rfl) ?_
  refine yV (kq 28 (.unOp .not 4 (.tmp 27))) (fun _ => val_not rfl) ?_
  refine aS (kq 25 (.buildSlice 22 4 #[(0, (.const (.int .i64 0))), (1, (.const (.int .i64 1))), (2, (.const (.int .i64 2))), (3, (.const (.int .i64 3)))])) rfl rfl (a_buildSlice (ys := ([0, 1, 2, 3] : List Int)) (e := 3) (bytes := 8) hF (by kernel_rfl) rfl (by decide) (by decide) ⟨rfl, ⟨_, rfl, rv_int.2 rfl⟩, rfl, ⟨_, rfl, rv_int.2 rfl⟩, rfl, ⟨_, rfl, rv_int.2 rfl⟩, rfl, ⟨_, rfl, rv_int.2 rfl⟩, trivial⟩) ?_
  rintro v25 w12 ⟨hs, g25, hF⟩
  refine ⟨(hR.trans hs (by simp)).ext, ?_⟩
  replace hT := hT.t hs
  replace htb := htb.st hs (by first | decide | (simp <;> omega))
  replace hl := hl.t hs
  replace hd := hd.st hs (by first | decide | (simp <;> omega)) (by first | decide | (simp <;> omega))
  replace hr := hr.t hs; replace hp := hp.t hs; replace hq := hq.t hs; replace hR := hR.t hs
  refine yF 29 31 7 2 3 ?_
  refine aN (k0 (.store 22 (.tmp 29) (.tmp 25))) rfl (a_store1 rfl rfl (by kernel_rfl) (g25.one rfl).1 (g25.one rfl).2 hq (by simp)) ?_
  rintro _ w13 ⟨rfl, hs, hq⟩
  refine ⟨(hR.trans hs (by simp)).ext, ?_⟩
  replace hF := hF.st hs
  replace hT := hT.t hs
  replace htb := htb.st hs (by first | decide | (simp <;> omega))
  replace hl := hl.t hs
  replace hd := hd.st hs (by first | decide | (simp <;> omega)) (by first | decide | (simp <;> omega))
  replace hr := hr.t hs; replace hp := hp.t hs; replace hR := hR.t hs; replace g25 := g25.t hs
  refine yF 30 31 7 3 4 ?_
  refine Sch.free rfl ?_
  refine aN (k0 (.store 4 (.tmp 30) (.tmp 28))) rfl (a_store1 rfl rfl (by kernel_rfl) rfl rfl hq (by simp)) ?_
  rintro _ w14 ⟨rfl, hs, hq⟩
  refine ⟨trivial, ?_⟩
  replace hF := hF.st hs
  replace hT := hT.t hs
  replace htb := htb.st hs (by first | decide | (simp <;> omega))
  replace hl := hl.t hs
  replace hd := hd.st hs (by first | decide | (simp <;> omega)) (by first | decide | (simp <;> omega))
  replace hr := hr.t hs; replace hp := hp.t hs; replace g25 := g25.t hs
  refine Sch.nil ?_
  refine run_sq ?_
  refine run_pl [yy 0, nn 1, yy 2, nn 3, yy 4, yy 5, nn 6, nn 7] ?_
  refine yM 31 5 ?_
  refine cS (kq 32 (.call { callee := .value (.func 8), args := #[(.tmp 31), (.const (.int .i64 4))], argTypes := #[25, 3] })) rfl rfl (ent Tryz.call8 rfl) (next_any (n := (4 : Int)) hF (by decide) hd (by omega) (by omega)) ?_
  rintro vw15 w15 ⟨reg, rfl, hreg, hs, hd⟩
  refine ⟨trivial, ?_⟩
  replace hF := hF.st hs
  replace hT := hT.t hs
  replace htb := htb.st hs (by first | decide | (simp <;> omega))
  replace hl := hl.t hs; replace hr := hr.t hs; replace hp := hp.t hs; replace hq := hq.t hs; replace g25 := g25.t hs
  refine yM 33 5 ?_
  refine cS (kq 34 (.call { callee := .value (.func 8), args := #[(.tmp 33), (.const (.int .i64 1048576))], argTypes := #[25, 3] })) rfl rfl (ent Tryz.call8 rfl) (next_any (n := (1048576 : Int)) hF (by decide) hd (by omega) (by omega)) ?_
  rintro vw16 w16 ⟨id0, rfl, hid0, hs, hd⟩
  refine ⟨trivial, ?_⟩
  replace hF := hF.st hs
  replace hT := hT.t hs
  replace htb := htb.st hs (by first | decide | (simp <;> omega))
  replace hl := hl.t hs; replace hr := hr.t hs; replace hp := hp.t hs; replace hq := hq.t hs; replace g25 := g25.t hs
  refine yV (kq 35 (.binOp .add 3 (.const (.int .i64 1)) (.tmp 34) 3)) (fun _ => val_is (val_addi rfl rfl (by omega) (by omega)) (congrArg (Value.int .i64) (show (1 : Int) + (id0 : Int) = ((1 + id0 : Nat) : Int) by omega))) ?_
  refine yV (kq 36 (.build 35 #[(0, (.tmp 32)), (1, (.tmp 35))])) (fun _ => val_build (zs := [.int .i64 0, .int .i64 0]) (ps := [(0, 1), (1, 1)]) (qs := [(0, [.int .i64 (reg : Int)]), (1, [.int .i64 ((1 + id0 : Nat) : Int)])]) (cs := [.int .i64 (reg : Int), .int .i64 ((1 + id0 : Nat) : Int)]) (by kernel_rfl) (by kernel_rfl) (by exact ⟨rfl, ⟨_, rfl, rfl⟩, rfl, ⟨_, rfl, rfl⟩, trivial⟩) rfl) ?_
  refine aS (kq 8 (.alloc 35)) rfl rfl (a_alloc (cs := [.int .i64 0, .int .i64 0]) hF 6 (by kernel_rfl)) ?_
  rintro _ w17 ⟨Cw17, bw17, rfl, hs, hx, hF⟩
  refine ⟨trivial, ?_⟩
  replace hT := hT.t hs
  replace htb := htb.st hs (by first | decide | (simp <;> omega))
  replace hl := hl.t hs
  replace hd := hd.st hs (by first | decide | (simp <;> omega)) (by first | decide | (simp <;> omega))
  replace hr := hr.t hs; replace hp := hp.t hs; replace hq := hq.t hs; replace g25 := g25.t hs
  refine aN (k0 (.store 35 (.tmp 8) (.tmp 36))) rfl (a_storeAll (vs := [.int .i64 (reg : Int), .int .i64 ((1 + id0 : Nat) : Int)]) (n := 2) rfl rfl (by kernel_rfl) rfl rfl (by intro z hz; simp only [List.mem_cons, List.not_mem_nil, or_false] at hz; rcases hz with rfl | rfl <;> rfl) hx rfl) ?_
  rintro _ w18 ⟨rfl, hs, hx⟩
  refine ⟨trivial, ?_⟩
  replace hF := hF.st hs
  replace hT := hT.t hs
  replace htb := htb.st hs (by first | decide | (simp <;> omega))
  replace hl := hl.t hs
  replace hd := hd.st hs (by first | decide | (simp <;> omega)) (by first | decide | (simp <;> omega))
  replace hr := hr.t hs; replace hp := hp.t hs; replace hq := hq.t hs; replace g25 := g25.t hs
  refine Sch.nil ?_
  refine run_sq ?_
  refine run_draw (id := 8) (ops := F3.o8) [] (Cw17) [yy 0, yy 1, yy 2, yy 3, yy 5, yy 6, yy 7, yy 8, nn 4, nn 9, yy 10, yy 11, yy 12, yy 13, yy 14, yy 15, yy 17, yy 18, yy 19, yy 20, nn 16, nn 21, yy 22, yy 23, yy 24] Tryz_mixed (by kernel_rfl) (by kernel_rfl) (by kernel_rfl) ?_
  intro w19 hs
  replace hF := hF.st hs
  replace hT := hT.t hs
  replace htb := htb.st hs (by first | decide | (simp <;> omega))
  replace hl := hl.t hs
  replace hd := hd.st hs (by first | decide | (simp <;> omega)) (by first | decide | (simp <;> omega))
  replace hr := hr.t hs; replace hp := hp.t hs; replace hq := hq.t hs; replace g25 := g25.t hs; replace hx := hx.t hs
  have hR := Stp.refl [] w19 (Cw17)
  have hp0 := hp
  have hq0 := hq
  have hx0 := hx
  refine yS (kq 37 (.load 31 (.tmp 6))) rfl rfl (fun w' hS => val_loadOwnAgg (n := 5) (vs := [.int .i64 ((1 + k : Nat) : Int), .int .u64 ka, .int .u64 kb, vr, .bool lv]) (hp0.stay hS (by decide)) (by kernel_rfl) (by kernel_rfl) rfl rfl rfl) ?_
  refine yS (kq 38 (.load 35 (.tmp 8))) rfl rfl (fun w' hS => val_loadOwnAgg (n := 2) (vs := [.int .i64 (reg : Int), .int .i64 ((1 + id0 : Nat) : Int)]) (hx0.stay hS (by decide)) (by kernel_rfl) (by kernel_rfl) rfl rfl rfl) ?_
  refine yM 39 1 ?_
  refine yV (kq 40 (.convert 5 3 (.tmp 39))) (fun _ => val_convE (r := (m : Int)) rfl ⟨_, Tryz.underlying5⟩ Tryz.underlying3 (wrap_i64s hm)) ?_
  refine yS (kq 42 (.load 31 (.tmp 7))) rfl rfl (fun w' hS => val_loadOwnAgg (n := 5) (vs := [.int .i64 ((1 + k : Nat) : Int), .int .u64 ka, .int .u64 kb, v25, .bool (!lv)]) (hq0.stay hS (by decide)) (by kernel_rfl) (by kernel_rfl) rfl rfl rfl) ?_
  refine yS (kq 43 (.load 35 (.tmp 8))) rfl rfl (fun w' hS => val_loadOwnAgg (n := 2) (vs := [.int .i64 (reg : Int), .int .i64 ((1 + id0 : Nat) : Int)]) (hx0.stay hS (by decide)) (by kernel_rfl) (by kernel_rfl) rfl rfl rfl) ?_
  refine yM 44 1 ?_
  refine yV (kq 45 (.convert 5 3 (.tmp 44))) (fun _ => val_convE (r := (m : Int)) rfl ⟨_, Tryz.underlying5⟩ Tryz.underlying3 (wrap_i64s hm)) ?_
  refine cS (kq 41 (.call { callee := .value (.func 9), args := #[(.tmp 37), (.tmp 38), (.tmp 40)], argTypes := #[31, 35, 3] })) rfl rfl (ent Tryz.call9 rfl) (psd_ok (num := 1 + k) (reg := reg) (id := 1 + id0) (turn := m) hF htb (by omega) (by omega) (by omega) (by omega)) ?_
  rintro vw20 w20 ⟨rfl, hs⟩
  refine ⟨(hR.trans hs (by simp)).ext, ?_⟩
  replace hF := hF.st hs
  replace hT := hT.t hs
  replace htb := htb.st hs (by first | decide | (simp <;> omega))
  replace hl := hl.t hs
  replace hd := hd.st hs (by first | decide | (simp <;> omega)) (by first | decide | (simp <;> omega))
  replace hr := hr.t hs; replace hp := hp.t hs; replace hq := hq.t hs; replace g25 := g25.t hs; replace hx := hx.t hs; replace hR := hR.t hs
  refine cS (kq 46 (.call { callee := .value (.func 9), args := #[(.tmp 42), (.tmp 43), (.tmp 45)], argTypes := #[31, 35, 3] })) rfl rfl (ent Tryz.call9 rfl) (psd_ok (num := 1 + k) (reg := reg) (id := 1 + id0) (turn := m) hF htb (by omega) (by omega) (by omega) (by omega)) ?_
  rintro vw21 w21 ⟨rfl, hs⟩
  refine ⟨(hR.trans hs (by simp)).ext, ?_⟩
  replace hF := hF.st hs
  replace hT := hT.t hs
  replace htb := htb.st hs (by first | decide | (simp <;> omega))
  replace hl := hl.t hs
  replace hd := hd.st hs (by first | decide | (simp <;> omega)) (by first | decide | (simp <;> omega))
  replace hr := hr.t hs; replace hp := hp.t hs; replace hq := hq.t hs; replace g25 := g25.t hs; replace hx := hx.t hs; replace hR := hR.t hs
  refine yV (kq 47 (.binOp .eql 27 (.tmp 41) (.tmp 46) 27)) (fun _ => val_is (val_eql rfl rfl) (show _ = Value.bool true from congrArg Value.bool (decide_eq_true (rfl)))) ?_
  refine yM 48 47 ?_
  refine yS (kg 49 (.load 31 (.tmp 6)) 11 true) rfl rfl (fun w' hS => val_loadOwnAgg (n := 5) (vs := [.int .i64 ((1 + k : Nat) : Int), .int .u64 ka, .int .u64 kb, vr, .bool lv]) (hp0.stay hS (by decide)) (by kernel_rfl) (by kernel_rfl) rfl rfl rfl) ?_
  refine yS (kg 50 (.load 35 (.tmp 8)) 11 true) rfl rfl (fun w' hS => val_loadOwnAgg (n := 2) (vs := [.int .i64 (reg : Int), .int .i64 ((1 + id0 : Nat) : Int)]) (hx0.stay hS (by decide)) (by kernel_rfl) (by kernel_rfl) rfl rfl rfl) ?_
  refine yMg 51 1 11 true ?_
  refine yV (kg 52 (.convert 5 3 (.tmp 51)) 11 true) (fun _ => val_convE (r := (m : Int)) rfl ⟨_, Tryz.underlying5⟩ Tryz.underlying3 (wrap_i64s hm)) ?_
  refine yS (kg 54 (.load 31 (.tmp 6)) 11 true) rfl rfl (fun w' hS => val_loadOwnAgg (n := 5) (vs := [.int .i64 ((1 + k : Nat) : Int), .int .u64 ka, .int .u64 kb, vr, .bool lv]) (hp0.stay hS (by decide)) (by kernel_rfl) (by kernel_rfl) rfl rfl rfl) ?_
  refine yS (kg 55 (.load 35 (.tmp 8)) 11 true) rfl rfl (fun w' hS => val_loadOwnAgg (n := 2) (vs := [.int .i64 (reg : Int), .int .i64 ((1 + id0 : Nat) : Int)]) (hx0.stay hS (by decide)) (by kernel_rfl) (by kernel_rfl) rfl rfl rfl) ?_
  refine yMg 56 1 11 true ?_
  refine yV (kg 57 (.convert 5 3 (.tmp 56)) 11 true) (fun _ => val_convE (r := (m : Int)) rfl ⟨_, Tryz.underlying5⟩ Tryz.underlying3 (wrap_i64s hm)) ?_
  refine cS (kg 53 (.call { callee := .value (.func 9), args := #[(.tmp 49), (.tmp 50), (.tmp 52)], argTypes := #[31, 35, 3] }) 11 true) rfl rfl (ent Tryz.call9 rfl) (psd_ok (num := 1 + k) (reg := reg) (id := 1 + id0) (turn := m) hF htb (by omega) (by omega) (by omega) (by omega)) ?_
  rintro vw22 w22 ⟨rfl, hs⟩
  refine ⟨(hR.trans hs (by simp)).ext, ?_⟩
  replace hF := hF.st hs
  replace hT := hT.t hs
  replace htb := htb.st hs (by first | decide | (simp <;> omega))
  replace hl := hl.t hs
  replace hd := hd.st hs (by first | decide | (simp <;> omega)) (by first | decide | (simp <;> omega))
  replace hr := hr.t hs; replace hp := hp.t hs; replace hq := hq.t hs; replace g25 := g25.t hs; replace hx := hx.t hs; replace hR := hR.t hs
  refine cS (kg 58 (.call { callee := .value (.func 10), args := #[(.tmp 54), (.tmp 55), (.tmp 57)], argTypes := #[31, 35, 3] }) 11 true) rfl rfl (ent Tryz.call10 rfl) (refpsd_ok (num := 1 + k) (reg := reg) (id := 1 + id0) (turn := m) hF (by omega) (by omega) (by omega) (by omega)) ?_
  rintro vw23 w23 ⟨rfl, hs⟩
  refine ⟨(hR.trans hs (by simp)).ext, ?_⟩
  replace hF := hF.st hs
  replace hT := hT.t hs
  replace htb := htb.st hs (by first | decide | (simp <;> omega))
  replace hl := hl.t hs
  replace hd := hd.st hs (by first | decide | (simp <;> omega)) (by first | decide | (simp <;> omega))
  replace hr := hr.t hs; replace hp := hp.t hs; replace hq := hq.t hs; replace g25 := g25.t hs; replace hx := hx.t hs; replace hR := hR.t hs
  refine yV (kg 59 (.binOp .eql 27 (.tmp 53) (.tmp 58) 27) 11 true) (fun _ => val_is (val_eql rfl rfl) (show _ = Value.bool true from congrArg Value.bool (decide_eq_true (rfl)))) ?_
  refine yAt 60 48 59 ?_
  refine yA 4 60 ?_
  refine Sch.nil ?_
  refine run_ret1 (by kernel_rfl) Tryz.func3 Tryz.results3 rfl ?_
  exact ⟨rfl, hT.out1 (by decide)⟩
end Go.Proofs.YtfkggfmibpigpaaGreatDoor
