/- Which edges are valid, the least list of the greatest total, and what proves it, are those of the document. No condition: for every input. -/
import Derived.Test.YtgooehopkmbkfaaJXC
import Derived.Test.YtgooehopkmbkfaaRows
import Derived.Test.YtgooehopkmbkfaaL2
import Derived.WalkKit
import Derived.ProofKit
import Derived.OpenShut
import Derived.JoinedOf
import Derived.JoinedAt
import Derived.ChangeSame
namespace Go.Proofs.Ytgooehopkmbkfaa.assignmentExact
open Go.ChangeShapes Go.WideShapes Go.ChangeAt Go.RowKit
set_option linter.unusedVariables false
set_option maxRecDepth 100000

theorem own : ownKnob Try.prog.godebug = none := by kernel_rfl
theorem laidOut : laidOutB Try.prog = true := by kernel_rfl
theorem op_int {H : Type} {enc : TypeId × Value → H} {w : World} : K.Opens enc Try.prog w 0 (fun _ => true) true  Int 3 := K.opens_int Try.underlying3 (by kernel_rfl)
theorem op_ints {H : Type} {enc : TypeId × Value → H} {w : World} : K.Opens enc Try.prog w 0 (fun _ => true) true  (List Int) 22 := K.opens_slice Try.underlying22 (by kernel_rfl) (by decide) op_int
theorem op_couple {H : Type} {enc : TypeId × Value → H} {w : World} : K.Opens enc Try.prog w 0 (fun _ => true) true  K.Couple 53 := ⟨by kernel_rfl, fun f cs x h => by
  obtain ⟨a, ha⟩ := K.opens_s2 (α := Int) (β := Int) Try.underlying53 (by kernel_rfl) rfl rfl op_int op_int f cs x h
  exact ⟨⟨a.1, a.2⟩, ha⟩⟩
theorem op_couples {H : Type} {enc : TypeId × Value → H} {w : World} : K.Opens enc Try.prog w 0 (fun _ => true) true  (List K.Couple) 24 := K.opens_slice Try.underlying24 (by kernel_rfl) (by decide) op_couple
theorem op_edge {H : Type} {enc : TypeId × Value → H} {w : World} : K.Opens enc Try.prog w 0 (fun _ => true) true  K.Edge 46 := ⟨by kernel_rfl, fun f cs x h => by
  obtain ⟨a, ha⟩ := K.opens_s3 (α := Int) (β := Int) (γ := Int) Try.underlying46 (by kernel_rfl) rfl rfl rfl op_int op_int op_int f cs x h
  exact ⟨⟨a.1, a.2.1, a.2.2⟩, ha⟩⟩
theorem op_edges {H : Type} {enc : TypeId × Value → H} {w : World} : K.Opens enc Try.prog w 0 (fun _ => true) true  (List K.Edge) 23 := K.opens_slice Try.underlying23 (by kernel_rfl) (by decide) op_edge

/-- What the steps give, for every argument. -/
theorem contract (H : Type) (enc : TypeId × Value → H) (W : World) (base : Nat) (args : Array Value) (ds gs : List (DataW H)) (before : List MemPlace)
    (hval : ∀ (j : Nat) t v, Try.f3.params[j]? = some t → args[j]? = some v → Value.okWide Try.prog W .any base t v)
    (hW : DataW.Whole enc Try.prog Try.f3.params.toList Rows.assignmentExactSpec.vars false W args.toList ds gs before) :
    Calls Try.prog 3 args W fun e W' => ∃ v, e = .returned v ∧ Rows.assignmentExactSpec.post enc Try.prog Try.f3 false true false false W args v W' := by
  have hW' := hW
  obtain ⟨p, q, hA0, hV, rfl, hfz, hnd⟩ := hW
  have hA : DataW.TrodAll enc Try.prog W 0 (fun _ => true) true Try.f3.params.toList args.toList ds p := hA0
  rw [Try.params3] at hA hval
  clear hA0
  obtain ⟨v0, r0, d0, e0, p0, q0, ha0, rfl, rfl, h0, hA0⟩ := trodAll_cons hA
  obtain ⟨v1, r1, d1, e1, p1, q1, ha1, rfl, rfl, h1, hA1⟩ := trodAll_cons hA0
  subst ha1
  obtain ⟨v2, r2, d2, e2, p2, q2, ha2, rfl, rfl, h2, hA2⟩ := trodAll_cons hA1
  subst ha2
  obtain ⟨v3, r3, d3, e3, p3, q3, ha3, rfl, rfl, h3, hA3⟩ := trodAll_cons hA2
  subst ha3
  obtain ⟨v4, r4, d4, e4, p4, q4, ha4, rfl, rfl, h4, hA4⟩ := trodAll_cons hA3
  subst ha4
  obtain ⟨v5, r5, d5, e5, p5, q5, ha5, rfl, rfl, h5, hA5⟩ := trodAll_cons hA4
  subst ha5
  obtain ⟨v6, r6, d6, e6, p6, q6, ha6, rfl, rfl, h6, hA6⟩ := trodAll_cons hA5
  subst ha6
  obtain ⟨rfl, rfl, rfl⟩ := trodAll_nil hA6
  obtain rfl : args = #[v0, v1, v2, v3, v4, v5, v6] := by cases args; simp_all
  obtain ⟨rfl, rfl⟩ := trodVars_none hV
  simp only [List.append_nil] at hW'
  obtain ⟨a0, len0, cap0, rfl⟩ := okWide_slice Try.underlying22 (hval 0 22 v0 rfl rfl)
  obtain ⟨a1, len1, cap1, rfl⟩ := okWide_slice Try.underlying23 (hval 1 23 v1 rfl rfl)
  have h2k := h2
  obtain ⟨n2, rfl⟩ : ∃ n : Int, v2 = .int .i64 n := okWide_int Try.underlying3 (hval 2 3 v2 rfl rfl)
  have h3k := h3
  obtain ⟨n3, rfl⟩ : ∃ n : Int, v3 = .int .i64 n := okWide_int Try.underlying3 (hval 3 3 v3 rfl rfl)
  obtain ⟨a4, len4, cap4, rfl⟩ := okWide_slice Try.underlying24 (hval 4 24 v4 rfl rfl)
  obtain ⟨a5, len5, cap5, rfl⟩ := okWide_slice Try.underlying22 (hval 5 22 v5 rfl rfl)
  obtain ⟨a6, len6, cap6, rfl⟩ := okWide_slice Try.underlying22 (hval 6 22 v6 rfl rfl)
  have hlt : ∀ x ∈ p0 ++ p1 ++ p2 ++ p3 ++ p4 ++ p5 ++ p6, x.block < W.heap.size := fun x hx => by simpa using hW'.lt x (by simpa using hx)
  obtain ⟨x0, hx0⟩ : ∃ x : List Int, K.RV W (K.Mc K.C0) x (.slice a0 len0 cap0) := by
    obtain ⟨fuel, hf⟩ := h0
    exact (op_ints (enc := enc) (w := W)).rv rfl hf
  obtain ⟨x1, hx1⟩ : ∃ x : List K.Edge, K.RV W (K.Mc K.C0) x (.slice a1 len1 cap1) := by
    obtain ⟨fuel, hf⟩ := h1
    exact (op_edges (enc := enc) (w := W)).rv rfl hf
  obtain ⟨x4, hx4⟩ : ∃ x : List K.Couple, K.RV W (K.Mc K.C0) x (.slice a4 len4 cap4) := by
    obtain ⟨fuel, hf⟩ := h4
    exact (op_couples (enc := enc) (w := W)).rv rfl hf
  obtain ⟨x5, hx5⟩ : ∃ x : List Int, K.RV W (K.Mc K.C0) x (.slice a5 len5 cap5) := by
    obtain ⟨fuel, hf⟩ := h5
    exact (op_ints (enc := enc) (w := W)).rv rfl hf
  obtain ⟨x6, hx6⟩ : ∃ x : List Int, K.RV W (K.Mc K.C0) x (.slice a6 len6 cap6) := by
    obtain ⟨fuel, hf⟩ := h6
    exact (op_ints (enc := enc) (w := W)).rv rfl hf
  have walk : Calls Try.prog 3 #[.slice a0 len0 cap0, .slice a1 len1 cap1, .int .i64 n2, .int .i64 n3, .slice a4 len4 cap4, .slice a5 len5 cap5, .slice a6 len6 cap6] W (K.Ret fun v w' => v = .bool true ∧ K.Stp [] W K.C0 w' K.C0) := assignmentExact_ok (K.lim0 W) hx0 hx1 hx4 hx5 hx6
  refine walk.mono ?_
  rintro e W' ⟨v, rfl, rfl, hs⟩
  have hb := hs.below
  refine ⟨_, rfl, [d0, d1, d2, d3, d4, d5, d6], [], _, [], p0 ++ (p1 ++ (p2 ++ (p3 ++ (p4 ++ (p5 ++ (p6)))))), [], hW', (trodAll_cons_mk (shut_bool Try.underlying4 _) trodAll_mk0), ?_, rfl, hb.frame _, fun h => by cases h⟩
  have hfin := trodAll_cons_mk (Below.trod laidOut (by kernel_rfl) (of_decide_eq_true (by kernel_rfl)) h0 hb (fun x hx => hlt x (by simp [hx]))) (trodAll_cons_mk (Below.trod laidOut (by kernel_rfl) (of_decide_eq_true (by kernel_rfl)) h1 hb (fun x hx => hlt x (by simp [hx]))) (trodAll_cons_mk (Below.trod laidOut (by kernel_rfl) (of_decide_eq_true (by kernel_rfl)) h2 hb (fun x hx => hlt x (by simp [hx]))) (trodAll_cons_mk (Below.trod laidOut (by kernel_rfl) (of_decide_eq_true (by kernel_rfl)) h3 hb (fun x hx => hlt x (by simp [hx]))) (trodAll_cons_mk (Below.trod laidOut (by kernel_rfl) (of_decide_eq_true (by kernel_rfl)) h4 hb (fun x hx => hlt x (by simp [hx]))) (trodAll_cons_mk (Below.trod laidOut (by kernel_rfl) (of_decide_eq_true (by kernel_rfl)) h5 hb (fun x hx => hlt x (by simp [hx]))) (trodAll_cons_mk (Below.trod laidOut (by kernel_rfl) (of_decide_eq_true (by kernel_rfl)) h6 hb (fun x hx => hlt x (by simp [hx]))) trodAll_mk0))))))
  simp only [List.append_nil] at hfin
  exact hfin

set_option maxRecDepth 100000 in
theorem lifted (os : Os) (started : os.Started) (H : Type) (enc : TypeId × Value → H) :
    ReturnsInHanded {} Try.checked os 3 .any (Rows.assignmentExactSpec.pre6 enc Try.prog Try.f3 Rows.assignmentExactRow.domain false) (Rows.assignmentExactSpec.post enc Try.prog Try.f3 false true false false) := by
  refine returnsInHanded_of_change (C := Try.checked) own started (by kernel_rfl) Try.func3
    (ChangeSpec.witness6 (enc := enc) (C := Try.checked) false ⟨#[], #[.slice none 0 0, .slice none 0 0, .int .i64 0, .int .i64 0, .slice none 0 0, .slice none 0 0, .slice none 0 0], []⟩ 8 (by kernel_rfl) (by kernel_rfl) (by kernel_rfl) (by kernel_rfl)) ?_
  intro W base args ds gs before hval hW _ _
  exact contract H enc W base args ds gs before hval hW

theorem over : Rows.assignmentExactRow.holds Try.pinned (OpenSpec.ofChange Rows.assignmentExactSpec) :=
  OpenClaim.holds_of_wide 3 Try.f3 rfl rfl rfl rfl rfl rfl rfl ⟨rfl, rfl, rfl, rfl, rfl⟩ rfl rfl rfl rfl rfl (by kernel_rfl) Try.func3 (by kernel_rfl)
    (of_decide_eq_true (by kernel_rfl)) (by unfold Func.isWrapper; first | (rw [if_pos (by decide +kernel)]; kernel_rfl) | (rw [if_neg (by decide +kernel)]; exact ⟨rfl, rfl⟩))
    (fun os started H enc _ => lifted os started H enc)

theorem proved : Rows.AssignmentExactSaid := over
end Go.Proofs.Ytgooehopkmbkfaa.assignmentExact
