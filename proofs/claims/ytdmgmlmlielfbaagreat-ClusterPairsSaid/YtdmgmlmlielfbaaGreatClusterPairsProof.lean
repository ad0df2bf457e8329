/- With bonds of two registries the value is the greatest total of an assignment, and persons are couples. No condition: for every input. -/
import Derived.Test.YtdmgmlmlielfbaaGreatJH9
import Derived.Test.YtdmgmlmlielfbaaGreatRows
import Derived.Test.YtdmgmlmlielfbaaGreatL3
import Derived.WalkKit
import Derived.ProofKit
import Derived.OpenShut
import Derived.JoinedOf
import Derived.JoinedAt
import Derived.ChangeSame
namespace Go.Proofs.YtdmgmlmlielfbaaGreat.clusterPairs
open Go.ChangeShapes Go.WideShapes Go.ChangeAt Go.RowKit
set_option linter.unusedVariables false
set_option maxRecDepth 100000
theorem own : ownKnob Tryz.prog.godebug = none := by kernel_rfl
theorem laidOut : laidOutB Tryz.prog = true := by kernel_rfl
theorem op_int {H : Type} {enc : TypeId × Value → H} {w : World} : K.Opens enc Tryz.prog w 0 (fun _ => true) true  Int 3 := K.opens_int Tryz.underlying3 (by kernel_rfl)
theorem op_ints {H : Type} {enc : TypeId × Value → H} {w : World} : K.Opens enc Tryz.prog w 0 (fun _ => true) true  (List Int) 22 := K.opens_slice Tryz.underlying22 (by kernel_rfl) (by decide) op_int
/-- What the steps give, for every argument. -/
theorem contract (H : Type) (enc : TypeId × Value → H) (W : World) (base : Nat) (args : Array Value) (ds gs : List (DataW H)) (before : List MemPlace)
    (hval : ∀ (j : Nat) t v, Tryz.f10.params[j]? = some t → args[j]? = some v → Value.okWide Tryz.prog W .any base t v)
    (hW : DataW.Whole enc Tryz.prog Tryz.f10.params.toList Rows.clusterPairsSpec.vars false W args.toList ds gs before) :
    Calls Tryz.prog 10 args W fun e W' => ∃ v, e = .returned v ∧ Rows.clusterPairsSpec.post enc Tryz.prog Tryz.f10 false true false false W args v W' := by
  have hW' := hW
  obtain ⟨p, q, hA0, hV, rfl, hfz, hnd⟩ := hW
  have hA : DataW.TrodAll enc Tryz.prog W 0 (fun _ => true) true Tryz.f10.params.toList args.toList ds p := hA0
  rw [Tryz.params10] at hA hval
  clear hA0
  obtain ⟨v0, r0, d0, e0, p0, q0, ha0, rfl, rfl, h0, hA0⟩ := trodAll_cons hA
  obtain ⟨rfl, rfl, rfl⟩ := trodAll_nil hA0
  obtain rfl : args = #[v0] := by cases args; simp_all
  obtain ⟨rfl, rfl⟩ := trodVars_none hV
  simp only [List.append_nil] at hW'
  obtain ⟨a0, len0, cap0, rfl⟩ := okWide_slice Tryz.underlying22 (hval 0 22 v0 rfl rfl)
  have hlt : ∀ x ∈ p0, x.block < W.heap.size := fun x hx => by simpa using hW'.lt x (by simpa using hx)
  obtain ⟨x0, hx0⟩ : ∃ x : List Int, K.RV W (K.Mc K.Cn0) x (.slice a0 len0 cap0) := by
    obtain ⟨fuel, hf⟩ := h0
    exact (op_ints (enc := enc) (w := W)).rv rfl hf
  have walk : Calls Tryz.prog 10 #[.slice a0 len0 cap0] W (K.Ret fun v w' => v = .bool true ∧ K.Stp [] W K.Cn0 w' K.Cn0) := clusterPairs_ok (K.lim0 W) hx0
  refine walk.mono ?_
  rintro e W' ⟨v, rfl, rfl, hs⟩
  have hb := hs.below
  refine ⟨_, rfl, [d0], [], _, [], p0, [], hW', (trodAll_cons_mk (shut_bool Tryz.underlying4 _) trodAll_mk0), ?_, rfl, hb.frame _, fun h => by cases h⟩
  have hfin := trodAll_cons_mk (Below.trod laidOut (by kernel_rfl) (of_decide_eq_true (by kernel_rfl)) h0 hb (fun x hx => hlt x (by simp [hx]))) trodAll_mk0
  simp only [List.append_nil] at hfin
  exact hfin
set_option maxRecDepth 100000 in
theorem lifted (os : Os) (started : os.Started) (H : Type) (enc : TypeId × Value → H) :
    ReturnsInHanded {} Tryz.checked os 10 .any (Rows.clusterPairsSpec.pre6 enc Tryz.prog Tryz.f10 Rows.clusterPairsRow.domain false) (Rows.clusterPairsSpec.post enc Tryz.prog Tryz.f10 false true false false) := by
  refine returnsInHanded_of_change (C := Tryz.checked) own started (by kernel_rfl) Tryz.func10
    (ChangeSpec.witness6 (enc := enc) (C := Tryz.checked) false ⟨#[], #[.slice none 0 0], []⟩ 8 (by kernel_rfl) (by kernel_rfl) (by kernel_rfl) (by kernel_rfl)) ?_
  intro W base args ds gs before hval hW _ _
  exact contract H enc W base args ds gs before hval hW
theorem over : Rows.clusterPairsRow.holds Tryz.pinned (OpenSpec.ofChange Rows.clusterPairsSpec) :=
  OpenClaim.holds_of_wide 10 Tryz.f10 rfl rfl rfl rfl rfl rfl rfl ⟨rfl, rfl, rfl, rfl, rfl⟩ rfl rfl rfl rfl rfl (by kernel_rfl) Tryz.func10 (by kernel_rfl)
    (of_decide_eq_true (by kernel_rfl)) (by unfold Func.isWrapper; first | (rw [if_pos (by decide +kernel)]; kernel_rfl) | (rw [if_neg (by decide +kernel)]; exact ⟨rfl, rfl⟩))
    (fun os started H enc _ => lifted os started H enc)
theorem proved : Rows.ClusterPairsSaid := over
end Go.Proofs.YtdmgmlmlielfbaaGreat.clusterPairs
