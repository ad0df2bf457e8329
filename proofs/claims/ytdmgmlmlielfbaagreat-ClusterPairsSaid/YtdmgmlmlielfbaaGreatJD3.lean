/- Steps through functions of the program. -/
import Derived.Test.YtdmgmlmlielfbaaGreatJD1
import Derived.Test.YtdmgmlmlielfbaaGreatL1
set_option linter.unusedVariables false
set_option linter.unusedSimpArgs false
set_option maxRecDepth 100000
set_option maxHeartbeats 4000000
namespace Go.Proofs.YtdmgmlmlielfbaaGreat
open Go.K Go.K.Rep
noncomputable section
def DeckIs (w : World) (C : Nat → Nat) (i b : Nat) : Prop := ∃ d : Dk, DeckAt 68 w C i b d ∧ d.list.length ≤ 9223372036854775807
section
variable {w w' : World} {C C' : Nat → Nat} {i b : Nat} {I : List Nat}
theorem DeckIs.st (h : DeckIs w C i b) (hs : Stp I w C w' C') (h0 : 0 ∉ I) (hi : i ∉ I) : DeckIs w' C' i b := let ⟨d, h1, h2⟩ := h; ⟨d, h1.st hs h0 hi, h2⟩
theorem DeckIs.col2 (h : DeckIs w C i b) (hi : i ≠ 0) : DeckIs w (col2 C i) 2 b := let ⟨d, h1, h2⟩ := h; ⟨d, h1.col2 hi, h2⟩
theorem DeckIs.out {w₀ : World} {C₀ : Nat → Nat} (h : DeckIs w' C' 2 b) (hs : Stp I w₀ (K.col2 C₀ i) w' C') (hF : Lim w₀ C₀) (hb : C₀ b = i) : DeckIs w' C₀ i b := let ⟨d, h1, h2⟩ := h; ⟨d, h1.out hs hF hb, h2⟩
theorem DeckIs.colour (h : DeckIs w C i b) : C b = i := by obtain ⟨d, ⟨_, _, _, h⟩, _⟩ := h; exact h.col
end
theorem new_any {w : World} {C : Nat → Nat} {l : List Int} {vl : Value} (hF : Lim w C) (hl : RV w (Mc C) l vl) : Calls Tryz.prog 13 #[vl] w (Ret fun v w' => ∃ C' b, v = .pointer (some ⟨b, 0, none⟩) ∧ Stp [] w C w' C' ∧ Lim w' C' ∧ DeckIs w' C' 3 b) :=
  (new_ok hF hl).mono (Ret.mono fun v w' ⟨C', b, h1, h2, h3, h4⟩ => ⟨C', b, h1, h2, h3, _, h4, hl.le⟩)
theorem next_any {w : World} {C : Nat → Nat} {i b : Nat} {n : Int} (hF : Lim w C) (hi : i ≠ 0) (hd : DeckIs w C i b) (h1 : 1 ≤ n) (hn63 : n ≤ 9223372036854775807) : Calls Tryz.prog 15 #[.pointer (some ⟨b, 0, none⟩), .int .i64 n] w (Ret fun v w' => ∃ k : Nat, v = .int .i64 (k : Int) ∧ (k : Int) < n ∧ Stp [i] w C w' C ∧ DeckIs w' C i b) := by
  obtain ⟨d, hd, hl⟩ := hd
  refine (next_ok hF hi hd hl hn63).mono (Ret.mono fun v w' ⟨e, h2, h3⟩ => ?_)
  have hr := d.num_range h1
  exact ⟨(d.num n).toNat, by rw [e, Int.toNat_of_nonneg hr.1], by rw [Int.toNat_of_nonneg hr.1]; exact hr.2, h2, _, h3, by rw [Dk.after_list]; exact hl⟩
theorem few_any {w : World} {M : Nat → Prop} {l : List Int} {vl : Value} (hl : RV w M l vl) : Calls Tryz.prog 12 #[vl] w (Ret fun v w' => v = .bool (decide ((l.length : Int) ≤ 400)) ∧ w' = w) := by
  obtain ⟨a, c, rfl⟩ := hl.len
  exact few_ok a l.length c w
namespace F31
def c0 := bodyOf Tryz.f31
end F31
theorem one_any {w : World} {C : Nat → Nat} {i b : Nat} {n : Int} (hF : Lim w C) (hi : i ≠ 0) (hd : DeckIs w C i b) (h1 : 1 ≤ n) (hn63 : n ≤ 9223372036854775807) : Calls Tryz.prog 31 #[.pointer (some ⟨b, 0, none⟩), .int .i64 n] w (Ret fun v w' => ∃ t : Bool, v = .bool t ∧ Stp [i] w C w' C ∧ DeckIs w' C i b) := by
 have hF0 := hF
 have hbc := hd.colour
 replace hd := hd.col2 hi
 have hT := Stp.refl [2, 3, 4, 5, 6, 7, 8, 9] w (col2 C i)
 replace hF := hF.col2 i
 refine c_st F31.c0 9 [.pointer (some ⟨b, 0, none⟩), .int .i64 n] Tryz.func31 ?_
 show Run _ _ _ _ [(0, .pointer (some ⟨b, 0, none⟩)), (1, .int .i64 n)] _ _
 refine run_sq (run_pl [yy 0] ?_)
 refine yAc 4 (.bool false) ?_
 refine Sch.nil (run_sq (run_pl [yy 0, yy 1, nn 2, yy 3, yy 4] ?_))
 refine yM 5 0 ?_
 refine yM 6 1 ?_
 refine cG 7 15 [5, 6] [28, 3] Tryz.call15 rfl (next_any hF (by decide) hd h1 hn63) ?_
 rintro vw1 w1 ⟨k, rfl, hk, s_1, hd⟩
 refine yV (kq 8 (.binOp .eql 3 (.tmp 7) (.const (.int .i64 0)) 3)) (fun _ => val_eql rfl rfl) ?_
 refine yA 4 8 ?_
 refine Sch.nil ?_
 refine rt1 Tryz.func31 Tryz.results31 ?_
 replace hT := hT.t s_1
 exact ⟨_, rfl, hT.out2 (by decide), hd.out hT hF0 hbc⟩
end
end Go.Proofs.YtdmgmlmlielfbaaGreat
