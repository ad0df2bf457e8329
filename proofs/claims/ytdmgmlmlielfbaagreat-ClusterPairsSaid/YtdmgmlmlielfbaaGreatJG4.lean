/- Steps through functions of the program. -/
import Derived.Test.YtdmgmlmlielfbaaGreatJG3
import Derived.Test.YtdmgmlmlielfbaaGreatL3
set_option linter.unusedVariables false
set_option linter.unusedSimpArgs false
set_option maxRecDepth 100000
set_option maxHeartbeats 4000000
namespace Go.Proofs.YtdmgmlmlielfbaaGreat
open Go.K Go.K.Rep
theorem okB_w {l : List Bond} (hv : Vld l) : ∀ x ∈ l, 1 ≤ x.w ∧ x.w ≤ 1048576 := fun x hx => (hv.2.1 x hx).2
theorem solveG_ok {w₀ : World} {C : Nat → Nat} {l : List Bond} {ds : List Dcs} {vl vz : Value} (hF : Lim w₀ C) (hl : RV w₀ (Mc C) l vl) (hz : RV w₀ (Mc C) ds vz) (hv : Vld l) (h25 : (refsS l).length ≤ 25) (hm4 : ds.length ≤ 4096) (hO : ∀ i (h : i < ds.length), dcsOK ds[i]) (hA1 : ∀ i (h : i + 1 < ds.length), cmpD ds[i] ds[i + 1] < 0) (h19 : l.length ≤ 19) : Calls Tryz.prog 18 #[vl, vz] w₀ (Ret fun v w' => Stp [] w₀ C w' C ∧ ∃ zs vp, StS cmpH (allW (wayG ds) (splitS l)) zs ∧ v = .tuple #[vp, .int .i64 (valueB l zs), .int .i64 0] ∧ RV w' (Mc C) zs vp) :=
  (topG_ok (hW := fun w1 C1 i hi vpart vb vm hF1 hp1 hap1 => wayG_ok hF1 hp1 hap1 (split_some hi) (by have := split_short hi; have := hv.1; omega)) hF hl hz hv.check hv.1 hm4 hO hA1 (okB_w hv) (fun x hx => by have := allW_len2 (fun i hi => wayG_PV ds _) x hx; omega) (by have := allW_few (l := l) (ds := ds) (wf := wayG ds) (fun i hi => wayG_PV ds _); omega)).mono (Ret.mono fun v w' h => ⟨h.1, by
    rcases h.2 with ⟨k, hk, _, h2, _⟩ | ⟨_, h2⟩
    · exact absurd (show (wayG ds (splitS l)[k]).2 = 0 from rfl) h2
    · exact h2⟩)
theorem solveS_ok {w₀ : World} {C : Nat → Nat} {l : List Bond} {ds : List Dcs} {vl vz : Value} (hF : Lim w₀ C) (hl : RV w₀ (Mc C) l vl) (hz : RV w₀ (Mc C) ds vz) (hv : Vld l) (h25 : (refsS l).length ≤ 25) (hm4 : ds.length ≤ 4096) (hO : ∀ i (h : i < ds.length), dcsOK ds[i]) (hA1 : ∀ i (h : i + 1 < ds.length), cmpD ds[i] ds[i + 1] < 0) (h19 : l.length ≤ 19) : Calls Tryz.prog 21 #[vl, vz] w₀ (Ret fun v w' => Stp [] w₀ C w' C ∧ ∃ zs vp, StS cmpH (allW (wayS ds) (splitS l)) zs ∧ v = .tuple #[vp, .int .i64 (valueB l zs), .int .i64 0] ∧ RV w' (Mc C) zs vp) :=
  (topS_ok (hW := fun w1 C1 i hi vpart vb vm hF1 hp1 hap1 => wayS_ok hF1 hp1 hap1 (okB_w (split_vld hv hi)) (split_vld hv hi).1 (fun _ => ⟨split_some hi, by have := split_short hi; have := hv.1; omega⟩)) hF hl hz hv.check hv.1 hm4 hO hA1 (okB_w hv) (fun x hx => by have := allW_len2 (fun i hi => wayS_PV ds _) x hx; omega) (by have := allW_few (l := l) (ds := ds) (wf := wayS ds) (fun i hi => wayS_PV ds _); omega)).mono (Ret.mono fun v w' h => ⟨h.1, by
    rcases h.2 with ⟨k, hk, _, h2, _⟩ | ⟨_, h2⟩
    · exact absurd (show (wayS ds (splitS l)[k]).2 = 0 from by unfold wayS; split <;> rfl) h2
    · exact h2⟩)
theorem solveX_ok {w₀ : World} {C : Nat → Nat} {l : List Bond} {ds : List Dcs} {vl vz : Value} (hF : Lim w₀ C) (hl : RV w₀ (Mc C) l vl) (hz : RV w₀ (Mc C) ds vz) (hv : Vld l) (h25 : (refsS l).length ≤ 25) (hm4 : ds.length ≤ 4096) (hO : ∀ i (h : i < ds.length), dcsOK ds[i]) (hA1 : ∀ i (h : i + 1 < ds.length), cmpD ds[i] ds[i + 1] < 0) : Calls Tryz.prog 23 #[vl, vz] w₀ (Ret fun v w' => Stp [] w₀ C w' C ∧ ((∃ k, ∃ hk : k < (splitS l).length, 8 < (refsS (splitS l)[k]).length ∧ v = .tuple #[.slice none 0 0, .int .i64 0, .int .i64 1]) ∨ ((∀ k (hk : k < (splitS l).length), (refsS (splitS l)[k]).length ≤ 8) ∧ ∃ zs vp, StS cmpH (allW (wayX ds) (splitS l)) zs ∧ v = .tuple #[vp, .int .i64 (valueB l zs), .int .i64 0] ∧ RV w' (Mc C) zs vp))) :=
  (topX_ok (hW := fun w1 C1 i hi vpart vb vm hF1 hp1 hap1 => wayX_ok hF1 hp1 hap1 (okB_w (split_vld hv hi)) (split_vld hv hi).1) hF hl hz hv.check hv.1 hm4 hO hA1 (okB_w hv) (fun x hx => by have := allW_len2 (fun i hi => wayX_PV ds _) x hx; omega) (by have := allW_few (l := l) (ds := ds) (wf := wayX ds) (fun i hi => wayX_PV ds _); omega)).mono (Ret.mono fun v w' h => ⟨h.1, by
    have hx : ∀ k (hk : k < (splitS l).length), (refsS (splitS l)[k]).length ≤ 8 ∧ (wayX ds (splitS l)[k]).2 = 0 ∨ 8 < (refsS (splitS l)[k]).length ∧ (wayX ds (splitS l)[k]).2 = 1 := fun k hk => by
      unfold wayX
      by_cases e : ((refsS (splitS l)[k]).length : Int) ≤ 8
      · rw [if_pos e]; exact .inl ⟨by omega, rfl⟩
      · rw [if_neg e]; exact .inr ⟨by omega, rfl⟩
    rcases h.2 with ⟨k, hk, _, h2, h3⟩ | ⟨h1, h2⟩
    · rcases hx k hk with ⟨_, e⟩ | ⟨e1, e⟩
      · exact absurd e h2
      · rw [e] at h3; exact .inl ⟨k, hk, e1, h3⟩
    · refine .inr ⟨fun k hk => ?_, h2⟩
      rcases hx k hk with ⟨e, _⟩ | ⟨_, e⟩
      · exact e
      · rw [h1 k hk] at e; cases e⟩)
end Go.Proofs.YtdmgmlmlielfbaaGreat
