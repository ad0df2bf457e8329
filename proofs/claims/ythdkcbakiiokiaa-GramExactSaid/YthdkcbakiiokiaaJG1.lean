/- Steps through functions of the program. -/
import Derived.Test.YthdkcbakiiokiaaJD3
import Derived.Test.YthdkcbakiiokiaaL1
import Derived.Test.YthdkcbakiiokiaaShelf
set_option linter.unusedVariables false
set_option linter.unusedSimpArgs false
set_option maxRecDepth 100000
set_option maxHeartbeats 4000000
namespace Go.Proofs.Ythdkcbakiiokiaa
open Go.K Go.K.Rep

def vvU : Unit → Value := fun _ => .agg #[]
namespace F35
noncomputable def c0 : Code := bodyOf Try.f35
noncomputable def c1 : Code := cl c0
noncomputable def o0 : Array Oper := rops c1
noncomputable def c2 : Code := cr c0
noncomputable def c3 : Code := cl c2
noncomputable def o1 : Array Oper := rops c3
noncomputable def c4 : Code := cr c2
noncomputable def c5 : Code := cl c4
noncomputable def c6 : Code := cl c5
noncomputable def o2 : Array Oper := rops c6
noncomputable def c7 : Code := cr c5
noncomputable def c8 : Code := cl c7
noncomputable def c9 : Code := cl c8
noncomputable def c10 : Code := cl c9
noncomputable def o3 : Array Oper := rops c10
noncomputable def c11 : Code := cr c9
noncomputable def c12 : Code := cl c11
noncomputable def c13 : Code := cl c12
noncomputable def c14 : Code := cr c12
noncomputable def c15 : Code := cr c11
noncomputable def c16 : Code := cl c15
noncomputable def c17 : Code := cl c16
noncomputable def c18 : Code := cl c17
noncomputable def o4 : Array Oper := rops c18
noncomputable def c19 : Code := cr c17
noncomputable def o5 : Array Oper := rops c19
noncomputable def c20 : Code := cr c15
noncomputable def o6 : Array Oper := rops c20
noncomputable def c21 : Code := cr c4
noncomputable def c22 : Code := cl c21
noncomputable def o7 : Array Oper := rops c22
noncomputable def c23 : Code := cr c21
end F35
theorem of_ok {w₀ : World} {C : Nat → Nat} {l : List Tx} {vl : Value} (hF : Lim w₀ C) (hl : RV w₀ (Mc C) l vl) (hb : l.length ≤ 1099511627776) : Calls Try.prog 35 #[vl] w₀ (Ret fun v w' => Stp [] w₀ C w' C ∧ RM w' (Mc C) sv vvU (ofS l) v) := by
  have hF0 := hF
  have hT := Stp.refl [2, 3, 4, 5, 6, 7, 8, 9] w₀ (col1 C)
  replace hF := hF.col1
  replace hl : RV w₀ (Mc (col1 C)) l vl := by rw [Mc_col1]; exact hl
  refine calls_start (c := F35.c0) (N := 18) [vl] Try.func35 (by kernel_rfl) (by kernel_rfl) (by kernel_rfl) ?_
  show Run _ _ _ _ [(0, vl)] _ _
  refine run_seq (x := F35.c1) (y := F35.c2) (by kernel_rfl) ?_
  refine run_plain (id := 0) (ops := F35.o0) [(0, true)] (by kernel_rfl) (by kernel_rfl) ?_
  refine yS (by kernel_rfl : opAt F35.o0 0 = some (some 2, .assign (.const (.map none)), none)) rfl rfl (fun w' hS => val_assign rfl) ?_
  refine Sch.nil ?_
  refine run_seq (x := F35.c3) (y := F35.c4) (by kernel_rfl) ?_
  refine run_plain (id := 1) (ops := F35.o1) [(0, false), (1, true)] (by kernel_rfl) (by kernel_rfl) ?_
  refine aS (by kernel_rfl : opAt F35.o1 0 = some (some 6, .makeMap 51 none, none)) rfl rfl (a_makeMap hF 3 sv vvU) ?_
  rintro _ wm ⟨Cm, bm, rfl, hs, hm, hF⟩
  refine ⟨trivial, ?_⟩
  replace hT := hT.trans hs (by simp)
  replace hl := hl.st hs (by first | decide | (simp <;> omega))
  refine yS (by kernel_rfl : opAt F35.o1 1 = some (some 3, .assign (.tmp 6), none)) rfl rfl (fun w' hS => val_assign rfl) ?_
  refine Sch.nil ?_
  refine run_seq (x := F35.c5) (y := F35.c21) (by kernel_rfl) ?_
  refine run_seq (x := F35.c6) (y := F35.c7) (by kernel_rfl) ?_
  refine run_plain (id := 2) (ops := F35.o2) [(0, true), (1, true), (2, true)] (by kernel_rfl) (by kernel_rfl) ?_
  refine yS (by kernel_rfl : opAt F35.o2 0 = some (some 7, .move (.tmp 0), none)) rfl rfl (fun w' hS => val_move rfl) ?_
  refine yS (by kernel_rfl : opAt F35.o2 1 = some (some 8, .call { callee := .builtin .len, args := #[(.tmp 7)], argTypes := #[23] }, none)) rfl rfl (fun w' hS => hl.lenV rfl Try.underlying23 w' ) ?_
  refine yS (by kernel_rfl : opAt F35.o2 2 = some (some 9, .move (.const (.int .i64 0)), none)) rfl rfl (fun w' hS => val_move rfl) ?_
  refine Sch.nil ?_
  refine run_block (x := F35.c8) (id := 0) (by kernel_rfl) ?_
  
  refine run_loop (ι := Nat × (Nat → Nat)) (I := fun x w => x.1 ≤ l.length ∧ Lim w x.2 ∧ Stp [2, 3, 4, 5, 6, 7, 8, 9] w₀ (col1 C) w x.2 ∧ RV w (Mc x.2) l vl ∧ OwnM w x.2 3 bm sv vvU (ofS (l.take x.1))) (e := fun x => [(3, .map (some bm)), (7, vl), (8, .int .i64 l.length), (9, .int .i64 x.1)]) (m := fun x => l.length - x.1) (x₀ := (0, Cm)) (body := F35.c9) (by kernel_rfl) (sub_cons 3 rfl rfl (sub_cons 7 rfl rfl (sub_cons 8 rfl rfl (sub_cons 9 rfl rfl (sub_nil _))))) ?_ ?_
  · exact ⟨Nat.zero_le _, hF, hT, hl, hm⟩
  intro ⟨i, C1⟩ w1 hI next
  obtain ⟨hi, hF, hT, hl, hm⟩ := hI
  try simp only at hi hF hT hl hm
  have next1 := next
  clear next
  show Run _ _ _ _ [(3, .map (some bm)), (7, vl), (8, .int .i64 l.length), (9, .int .i64 i)] _ _
  refine run_seq (x := F35.c10) (y := F35.c11) (by kernel_rfl) ?_
  refine run_plain (id := 3) (ops := F35.o3) [(0, true)] (by kernel_rfl) (by kernel_rfl) ?_
  refine yS (by kernel_rfl : opAt F35.o3 0 = some (some 10, .binOp .lss 3 (.tmp 9) (.tmp 8) 3, none)) rfl rfl (fun w' hS => val_lss rfl rfl) ?_
  refine Sch.nil ?_
  refine run_seq (x := F35.c12) (y := F35.c15) (by kernel_rfl) ?_
  refine run_if (x := F35.c13) (y := F35.c14) (o := .tmp 10) (by kernel_rfl) rfl (fun h10 => ?_) (fun h10 => ?_)
  · skip
    have hil : i < l.length := by omega
    refine run_skip (by kernel_rfl) ?_
    refine run_seq (x := F35.c16) (y := F35.c20) (by kernel_rfl) ?_
    refine run_block (x := F35.c17) (id := 1) (by kernel_rfl) ?_
    refine run_seq (x := F35.c18) (y := F35.c19) (by kernel_rfl) ?_
    refine run_plain (id := 4) (ops := F35.o4) [(0, true), (1, false), (2, true)] (by kernel_rfl) (by kernel_rfl) ?_
    refine iS (e := 9) (by kernel_rfl : opAt F35.o4 0 = some (some 11, .indexAddr 23 (.tmp 7) (.tmp 9), none)) rfl rfl hl rfl (by kernel_rfl) rfl (by omega) (by omega) ?_
    intro b11 o11 h11
    try simp only [Int.toNat_natCast] at h11
    refine lN (by kernel_rfl : opAt F35.o4 1 = some (some 12, .load 9 (.tmp 11), none)) rfl rfl trivial h11 (by kernel_rfl) rfl rfl ?_
    intro v12 g12
    obtain ⟨rfl, hb12⟩ := rv_tx.1 g12
    refine yS (by kernel_rfl : opAt F35.o4 2 = some (some 5, .assign (.tmp 12), none)) rfl rfl (fun w' hS => val_assign rfl) ?_
    refine Sch.nil ?_
    refine run_plain (id := 5) (ops := F35.o5) [(0, true), (1, true), (2, true), (3, false)] (by kernel_rfl) (by kernel_rfl) ?_
    refine yS (by kernel_rfl : opAt F35.o5 0 = some (some 13, .move (.tmp 3), none)) rfl rfl (fun w' hS => val_move rfl) ?_
    refine yS (by kernel_rfl : opAt F35.o5 1 = some (some 14, .move (.tmp 5), none)) rfl rfl (fun w' hS => val_move rfl) ?_
    refine yS (by kernel_rfl : opAt F35.o5 2 = some (some 15, .build 53 #[], none)) rfl rfl (fun w' hS => val_build (zs := []) (ps := []) (qs := []) (cs := []) (by kernel_rfl) (by kernel_rfl) trivial rfl) ?_
    refine aN (by kernel_rfl : opAt F35.o5 3 = some (none, .mapUpdate 51 (.tmp 13) (.tmp 14) (.tmp 15), none)) rfl (a_mapUpdate (k := l[i]) (u := ()) hm Try.underlying51 (keyOK_str Try.underlying9) rfl rfl rfl) ?_
    rintro _ wu ⟨rfl, hs, hm⟩
    refine ⟨trivial, ?_⟩
    replace hF := hF.st hs
    replace hT := hT.trans hs (by simp)
    replace hl := hl.st hs (by first | decide | (simp <;> omega))
    replace h11 := h11.st hs (by first | decide | (simp <;> omega))
    refine Sch.nil ?_
    refine run_inBlock ?_
    refine run_plain (id := 6) (ops := F35.o6) [(0, true), (1, true)] (by kernel_rfl) (by kernel_rfl) ?_
    refine yS (by kernel_rfl : opAt F35.o6 0 = some (some 16, .binOp .add 3 (.tmp 9) (.const (.int .i64 1)) 3, none)) rfl rfl (fun w' hS => val_addi rfl rfl (by omega) (by omega)) ?_
    refine yS (by kernel_rfl : opAt F35.o6 1 = some (some 9, .move (.tmp 16), none)) rfl rfl (fun w' hS => val_move rfl) ?_
    refine Sch.nil ?_
    refine kp (sub_cons 3 rfl rfl (sub_cons 7 rfl rfl (sub_cons 8 rfl rfl (sub_cons 9 rfl (eq_int (by simp)) (sub_nil _))))) (next1 (i + 1, C1) _ ⟨(by first | omega | (simp only; omega)), hF, hT, hl, (by rw [ofS_take hil]; exact hm)⟩ (by first | omega | (simp only; omega)))
  · skip
    have hil : i = l.length := by omega
    refine run_exit (id := 0) (by kernel_rfl) rfl ?_
    refine run_seq (x := F35.c22) (y := F35.c23) (by kernel_rfl) ?_
    refine run_plain (id := 7) (ops := F35.o7) [(0, true), (1, true)] (by kernel_rfl) (by kernel_rfl) ?_
    refine yS (by kernel_rfl : opAt F35.o7 0 = some (some 17, .move (.tmp 3), none)) rfl rfl (fun w' hS => val_move rfl) ?_
    refine yS (by kernel_rfl : opAt F35.o7 1 = some (some 2, .assign (.tmp 17), none)) rfl rfl (fun w' hS => val_assign rfl) ?_
    refine Sch.nil ?_
    refine run_ret1 (by kernel_rfl) Try.func35 Try.results35 rfl ?_
    subst hil
    rw [List.take_length] at hm
    exact ⟨hT.out1 (by decide), hm.out hT hF0 (Mc_col1 C) (fun b _ => col1_lt C (by decide) b)⟩
open Go.RowKit Go.Maps Go.Sort Go.Shelf in
theorem sortsT (m : Nat) : AnyZ.SortsIn Try.prog Try.sortedT_ren Fence.wide m :=
  ⟨fun blk off cap ss W hH hblk hsz => callsIn_wide.2 (AnyM.slices_Sort_string Try.sortT blk off cap ss W hH hblk hsz),
   fun p cap W => callsIn_wide.2 (AnyM.slices_Sort_string_none Try.sortT p cap W)⟩
open Go.RowKit Go.Maps Go.Sort Go.Shelf in
theorem keys_ok {W : World} {C : Nat → Nat} (mb : Option Nat) : Calls Try.prog 38 #[.map mb] W (Ret fun v w' => v = .func (.func 44) #[] #[.pointer (some ⟨W.heap.size, 0, none⟩)] ∧ w' = W.alloc (.cells #[.map mb] 51) ∧ Stp [] W C w' C) := by
  have h : CallsIn Fence.wide 5 Try.prog 38 #[.map mb] W fun e w' => e = .returned (.func (.func 44) #[] #[.pointer (some ⟨W.heap.size, 0, none⟩)]) ∧ w' = W.alloc (.cells #[.map mb] 51) := AnyZ.keys_in Try.keysT Fence.wide 5 trivial rfl mb W
  refine (callsIn_wide.1 h).mono ?_
  rintro e w' ⟨rfl, rfl⟩
  exact ⟨_, rfl, rfl, rfl, stp_below ((Below.refl _ W).alloc (Nat.le_refl _) _)⟩
open Go.RowKit Go.Maps Go.Sort Go.Shelf in
set_option maxHeartbeats 1000000 in
theorem sorted_ok {w w1 : World} {C : Nat → Nat} {l : List Tx} {b : Nat} (hm : RM w (Mc C) sv vvU (ofS l) (.map (some b))) (hw : w1 = w.alloc (.cells #[.map (some b)] 51)) (hF : Lim w1 C) (hx : ∀ x ∈ l, x.l.length ≤ 1099511627776) (hb : l.length ≤ 1099511627776) :
    Calls Try.prog 37 #[.func (.func 44) #[] #[.pointer (some ⟨w.heap.size, 0, none⟩)]] w1 (Ret fun v w' => Stp [] w1 C w' C ∧ RV w' (Mc C) (setT l) v) := by
  obtain ⟨b', e, hn, es, clock, hbk, hmi⟩ := hm
  obtain rfl : b = b' := by simpa using e
  have hlen : (ofS l).length ≤ l.length := by rw [ofS_len]; exact setT_len_le l
  obtain ⟨D0, hown, hperm, hsize⟩ := owns_of (P := Try.prog) (kt := 9) hbk hmi Try.underlying9 (fun k hk => by have := hx k (mem_ofS.1 hk); unfold maxLen; omega) (by unfold maxLen; omega)
  have hseq : SeqGives Fence.wide 2 Try.prog 44 #[.pointer (some ⟨w.heap.size, 0, none⟩)] Go.Proofs.encStr (fun ss => ss.Perm (strKeys D0)) (Maps.size D0) w1 := by
    subst hw
    exact AnyZ.keys_gives (ρ := Try.keysT_ren) { Try.keysT with } Fence.wide _ trivial rfl (by omega) w.heap.size b _ D0 _ (by simp) (by simp) (by
      have hbl := hown.lt
      obtain ⟨es, clock, hb, Ft, hs, hD⟩ := hown
      exact ⟨es, clock, (Below.heap_alloc _ _ b hbl).trans hb, Ft, hs, hD⟩)
  have h := AnyZ.sorted_in Try.sortedT Fence.wide 5 trivial trivial trivial trivial rfl (by omega) (sortsT _) (enters_of Try.func43 (by kernel_rfl) rfl) 44 #[.pointer (some ⟨w.heap.size, 0, none⟩)] trivial (enters_of Try.func44 (by kernel_rfl) rfl) _ _ (by rw [hsize]; unfold maxLen; omega) (by rw [hsize]; omega) _ hseq
  refine (callsIn_wide.1 h).mono ?_
  rintro e w' ⟨v, ss, rfl, hS, hrow, hnil, hbw⟩
  have hk := sorted_keys (hS.trans hperm)
  rw [hk] at hrow
  have hl2 : ss.length = (setT l).length := by have := (hS.trans hperm).length_eq; rw [this, List.length_map]; have := (ofS_perm l).length_eq; simpa using this
  rw [hl2] at hrow
  rw [List.map_map] at hrow
  refine ⟨_, rfl, stp_below hbw, rv_row (B := w1.heap.size) (ys := setT l) hrow (fun b hb hm => ?_) (fun y hy => by have := hx y (mem_setT.1 hy); omega) (by have := setT_len_le l; omega)⟩
  have := hF b hm; omega

namespace F24
noncomputable def c0 : Code := bodyOf Try.f24
noncomputable def c1 : Code := cl c0
noncomputable def o0 : Array Oper := rops c1
noncomputable def c2 : Code := cr c0
noncomputable def c3 : Code := cl c2
noncomputable def o1 : Array Oper := rops c3
noncomputable def c4 : Code := cr c2
end F24
/-- 'Set'. -/
theorem set_ok {w₀ : World} {C : Nat → Nat} {l : List Tx} {vl : Value} (hF : Lim w₀ C) (hl : RV w₀ (Mc C) l vl) (hx : ∀ x ∈ l, x.l.length ≤ 1099511627776) (hb : l.length ≤ 1099511627776) : Calls Try.prog 24 #[vl] w₀ (Ret fun v w' => Stp [] w₀ C w' C ∧ RV w' (Mc C) (setT l) v) := by
  have hF0 := hF
  have hT := Stp.refl [2, 3, 4, 5, 6, 7, 8, 9] w₀ (col1 C)
  replace hF := hF.col1
  replace hl : RV w₀ (Mc (col1 C)) l vl := by rw [Mc_col1]; exact hl
  refine calls_start (c := F24.c0) (N := 7) [vl] Try.func24 (by kernel_rfl) (by kernel_rfl) (by kernel_rfl) ?_
  show Run _ _ _ _ [(0, vl)] _ _
  refine run_seq (x := F24.c1) (y := F24.c2) (by kernel_rfl) ?_
  refine run_plain (id := 0) (ops := F24.o0) [(0, true)] (by kernel_rfl) (by kernel_rfl) ?_
  refine yS (by kernel_rfl : opAt F24.o0 0 = some (some 2, .assign (.const (.slice none 0 0)), none)) rfl rfl (fun w' hS => val_assign rfl) ?_
  refine Sch.nil ?_
  refine run_seq (x := F24.c3) (y := F24.c4) (by kernel_rfl) ?_
  refine run_plain (id := 1) (ops := F24.o1) [(0, true), (1, false), (2, false), (3, false), (4, true)] (by kernel_rfl) (by kernel_rfl) ?_
  refine yS (by kernel_rfl : opAt F24.o1 0 = some (some 3, .move (.tmp 0), none)) rfl rfl (fun w' hS => val_move rfl) ?_
  refine cS (by kernel_rfl : opAt F24.o1 1 = some (some 4, .call { callee := .value (.func 35), args := #[(.tmp 3)], argTypes := #[23] }, none)) rfl rfl (ent Try.call35 rfl) (of_ok hF hl (by omega)) ?_
  rintro vw1 w1 ⟨hs, hm⟩
  refine ⟨trivial, ?_⟩
  replace hF := hF.st hs
  replace hT := hT.trans hs (by simp)
  replace hl := hl.st hs (by first | decide | (simp <;> omega))
  obtain ⟨bm, rfl, _⟩ := id hm
  have hm0 := hm
  refine cS (by kernel_rfl : opAt F24.o1 2 = some (some 5, .call { callee := .value (.func 38), args := #[(.tmp 4)], argTypes := #[51] }, none)) rfl rfl (ent Try.call38 rfl) (keys_ok (C := col1 C) (some bm)) ?_
  rintro vw2 w2 ⟨rfl, hw, hs⟩
  refine ⟨trivial, ?_⟩
  replace hF := hF.st hs
  replace hT := hT.trans hs (by simp)
  replace hl := hl.st hs (by first | decide | (simp <;> omega))
  replace hm := hm.st hs (by first | decide | (simp <;> omega))
  refine cS (by kernel_rfl : opAt F24.o1 3 = some (some 6, .call { callee := .value (.func 37), args := #[(.tmp 5)], argTypes := #[58] }, none)) rfl rfl (ent Try.call37 rfl) (sorted_ok hm0 hw hF hx hb) ?_
  rintro vw3 w3 ⟨hs, ho⟩
  refine ⟨trivial, ?_⟩
  replace hF := hF.st hs
  replace hT := hT.trans hs (by simp)
  replace hl := hl.st hs (by first | decide | (simp <;> omega))
  replace hm := hm.st hs (by first | decide | (simp <;> omega))
  refine yS (by kernel_rfl : opAt F24.o1 4 = some (some 2, .assign (.tmp 6), none)) rfl rfl (fun w' hS => val_assign rfl) ?_
  refine Sch.nil ?_
  refine run_ret1 (by kernel_rfl) Try.func24 Try.results24 rfl ?_
  exact ⟨hT.out1 (by decide), ho.out hT hF0 (Mc_col1 C)⟩
namespace F41
noncomputable def c0 : Code := bodyOf Try.f41
noncomputable def c1 : Code := cl c0
noncomputable def o0 : Array Oper := rops c1
noncomputable def c2 : Code := cr c0
noncomputable def c3 : Code := cl c2
noncomputable def o1 : Array Oper := rops c3
noncomputable def c4 : Code := cr c2
end F41
theorem sp_ok (x : Int) (w : World) : Calls Try.prog 41 #[.int .i32 x] w (Ret fun v w' => v = .bool (decide (x = 32)) ∧ w' = w) := by
  refine calls_start (c := F41.c0) (N := 5) [.int .i32 x] Try.func41 (by kernel_rfl) (by kernel_rfl) (by kernel_rfl) ?_
  show Run _ _ _ _ [(0, .int .i32 x)] _ _
  refine run_seq (x := F41.c1) (y := F41.c2) (by kernel_rfl) ?_
  refine run_plain (id := 0) (ops := F41.o0) [(0, true)] (by kernel_rfl) (by kernel_rfl) ?_
  refine yS (by kernel_rfl : opAt F41.o0 0 = some (some 2, .assign (.const (.bool false)), none)) rfl rfl (fun w' hS => val_assign rfl) ?_
  refine Sch.nil ?_
  refine run_seq (x := F41.c3) (y := F41.c4) (by kernel_rfl) ?_
  refine run_plain (id := 1) (ops := F41.o1) [(0, true), (1, true), (2, true)] (by kernel_rfl) (by kernel_rfl) ?_
  refine yS (by kernel_rfl : opAt F41.o1 0 = some (some 3, .move (.tmp 0), none)) rfl rfl (fun w' hS => val_move rfl) ?_
  refine yS (by kernel_rfl : opAt F41.o1 1 = some (some 4, .binOp .eql 21 (.tmp 3) (.const (.int .i32 32)) 21, none)) rfl rfl (fun w' hS => val_eql rfl rfl) ?_
  refine yS (by kernel_rfl : opAt F41.o1 2 = some (some 2, .assign (.tmp 4), none)) rfl rfl (fun w' hS => val_assign rfl) ?_
  refine Sch.nil ?_
  refine run_ret1 (by kernel_rfl) Try.func41 Try.results41 rfl ?_
  exact ⟨rfl, rfl⟩
open Go.RowKit Go.Shelf in
theorem fields_ok {w : World} {C : Nat → Nat} {s : List UInt8} (hF : Lim w C) (hs : s.length ≤ 4294967296) : Calls Try.prog 40 #[bs s, .func (.func 41) #[] #[]] w (Ret fun v w' => Stp [] w C w' C ∧ RV w' (Mc C) (tokT s) v) := by
  have h := Any.strings_FieldsFunc Try.fieldsT 41 #[] (fun args w => Try.call41 args w) (fun r => r == 32) ⟨s.toArray⟩ w (by rw [size_bs]; exact hs) (fun W x _ => (sp_ok (x : Int) W).mono (by
    rintro e w' ⟨v, rfl, rfl, rfl⟩
    refine ⟨?_, 0, rfl⟩
    congr 2
    rw [Bool.eq_iff_iff, decide_eq_true_eq, beq_iff_eq]; omega)) (by kernel_rfl) (by kernel_rfl)
  refine h.mono ?_
  rintro e w' ⟨Ab, rfl, hA, hrow, hbw⟩
  have hm := fields_tok s
  have hl : (Go.Lib.goFieldsP (fun r => r == 32) ⟨s.toArray⟩).length = (tokT s).length := by have := congrArg List.length hm; simpa using this
  rw [hl, hm] at hrow
  rw [hl]
  have hl3 := tokT_len s
  refine ⟨_, rfl, stp_below hbw, rv_row (B := w.heap.size) hrow (fun b hb hm => ?_) (fun y hy => by have := tokT_each hy; omega) (by omega)⟩
  have := hF b hm; omega

namespace F31
noncomputable def c0 : Code := bodyOf Try.f31
noncomputable def c1 : Code := cl c0
noncomputable def o0 : Array Oper := rops c1
noncomputable def c2 : Code := cr c0
noncomputable def c3 : Code := cl c2
noncomputable def o1 : Array Oper := rops c3
noncomputable def c4 : Code := cr c2
end F31
/-- 'Tokens'. -/
theorem tokens_ok {w₀ : World} {C : Nat → Nat} {s : List UInt8} (hF : Lim w₀ C) (hb : s.length ≤ 4294967296) : Calls Try.prog 31 #[bs s] w₀ (Ret fun v w' => Stp [] w₀ C w' C ∧ RV w' (Mc C) (tokT s) v) := by
  have hF0 := hF
  have hT := Stp.refl [2, 3, 4, 5, 6, 7, 8, 9] w₀ (col1 C)
  replace hF := hF.col1
  refine calls_start (c := F31.c0) (N := 5) [bs s] Try.func31 (by kernel_rfl) (by kernel_rfl) (by kernel_rfl) ?_
  show Run _ _ _ _ [(0, bs s)] _ _
  refine run_seq (x := F31.c1) (y := F31.c2) (by kernel_rfl) ?_
  refine run_plain (id := 0) (ops := F31.o0) [(0, true)] (by kernel_rfl) (by kernel_rfl) ?_
  refine yS (by kernel_rfl : opAt F31.o0 0 = some (some 2, .assign (.const (.slice none 0 0)), none)) rfl rfl (fun w' hS => val_assign rfl) ?_
  refine Sch.nil ?_
  refine run_seq (x := F31.c3) (y := F31.c4) (by kernel_rfl) ?_
  refine run_plain (id := 1) (ops := F31.o1) [(0, true), (1, false), (2, true)] (by kernel_rfl) (by kernel_rfl) ?_
  refine yS (by kernel_rfl : opAt F31.o1 0 = some (some 3, .move (.tmp 0), none)) rfl rfl (fun w' hS => val_move rfl) ?_
  refine cS (by kernel_rfl : opAt F31.o1 1 = some (some 4, .call { callee := .value (.func 40), args := #[(.tmp 3), (.func 41)], argTypes := #[9, 63] }, none)) rfl rfl (ent Try.call40 rfl) (fields_ok hF (by omega)) ?_
  rintro vw1 w1 ⟨hs, ho⟩
  refine ⟨trivial, ?_⟩
  replace hF := hF.st hs
  replace hT := hT.trans hs (by simp)
  refine yS (by kernel_rfl : opAt F31.o1 2 = some (some 2, .assign (.tmp 4), none)) rfl rfl (fun w' hS => val_assign rfl) ?_
  refine Sch.nil ?_
  refine run_ret1 (by kernel_rfl) Try.func31 Try.results31 rfl ?_
  exact ⟨hT.out1 (by decide), ho.out hT hF0 (Mc_col1 C)⟩
end Go.Proofs.Ythdkcbakiiokiaa
