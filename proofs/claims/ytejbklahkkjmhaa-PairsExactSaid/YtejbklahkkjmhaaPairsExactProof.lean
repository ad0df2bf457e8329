/- Which blocks are valid, and the numbers and the lists of couples, are those of the document. No condition: for every input. -/
import Derived.Test.YtejbklahkkjmhaaJR5
import Derived.Test.YtejbklahkkjmhaaL2
import Derived.Test.YtejbklahkkjmhaaRows
import Derived.WalkKit
import Derived.ProofKit
import Derived.OpenShut
import Derived.JoinedOf
import Derived.JoinedAt
import Derived.ChangeSame
namespace Go.Proofs.Ytejbklahkkjmhaa.pairsExact
open Go.ChangeShapes Go.WideShapes Go.ChangeAt Go.RowKit
set_option linter.unusedVariables false
set_option maxRecDepth 100000

theorem own : ownKnob Try.prog.godebug = none := by kernel_rfl
theorem laidOut : laidOutB Try.prog = true := by kernel_rfl
theorem op_int {H : Type} {enc : TypeId × Value → H} {w : World} : K.Opens enc Try.prog w 0 (fun _ => true) true  Int 3 := K.opens_int Try.underlying3 (by kernel_rfl)
theorem op_ints {H : Type} {enc : TypeId × Value → H} {w : World} : K.Opens enc Try.prog w 0 (fun _ => true) true  (List Int) 22 := K.opens_slice Try.underlying22 (by kernel_rfl) (by decide) op_int
theorem op_hash {H : Type} {enc : TypeId × Value → H} {w : World} : K.Opens enc Try.prog w 0 (fun _ => true) true  (K.Num .u64) 42 := K.opens_num Try.underlying42 (by kernel_rfl)
theorem op_block {H : Type} {enc : TypeId × Value → H} {w : World} : K.Opens enc Try.prog w 0 (fun _ => true) true  K.Block 44 := ⟨by kernel_rfl, fun f cs x h => by
  obtain ⟨a, ha⟩ := K.opens_s2 (α := K.Num .u64) (β := List Int) Try.underlying44 (by kernel_rfl) rfl rfl op_hash op_ints f cs x h
  exact ⟨⟨a.1.n, a.2⟩, ha⟩⟩
theorem op_rows {H : Type} {enc : TypeId × Value → H} {w : World} : K.OpensQ enc Try.prog w 0 (fun _ => true) true  (List (List K.Block)) 28 (fun l => ∀ r ∈ l, r.length ≤ 4398046511104) :=
  (K.opensQ_slice Try.underlying28 (by kernel_rfl) (by decide) (nb := 24) (by kernel_rfl) (K.opensQ_slice (nb := 32) Try.underlying39 (by kernel_rfl) (by decide) (by kernel_rfl) op_block.q)).mono (fun l h r hr => by have := (h.2 r hr).1; unfold reachBytes at this; omega)

/-- What the steps give, for every argument. -/
theorem contract (H : Type) (enc : TypeId × Value → H) (W : World) (base : Nat) (args : Array Value) (ds gs : List (DataW H)) (before : List MemPlace)
    (hval : ∀ (j : Nat) t v, Try.f6.params[j]? = some t → args[j]? = some v → Value.okWide Try.prog W .any base t v)
    (hW : DataW.Whole enc Try.prog Try.f6.params.toList Rows.pairsExactSpec.vars false W args.toList ds gs before)
    (hsz : (DataW.weightsEach Try.prog (Try.f6.params.toList ++ Rows.pairsExactSpec.plain.varTypes Try.prog) (ds ++ gs)).all (· ≤ reachBytes) = true) :
    Calls Try.prog 6 args W fun e W' => ∃ v, e = .returned v ∧ Rows.pairsExactSpec.post enc Try.prog Try.f6 false true false false W args v W' := by
  have hW' := hW
  obtain ⟨p, q, hA0, hV, rfl, hfz, hnd⟩ := hW
  have hA : DataW.TrodAll enc Try.prog W 0 (fun _ => true) true Try.f6.params.toList args.toList ds p := hA0
  rw [Try.params6] at hA hval hsz
  clear hA0
  obtain ⟨v0, r0, d0, e0, p0, q0, ha0, rfl, rfl, h0, hA0⟩ := trodAll_cons hA
  obtain ⟨v1, r1, d1, e1, p1, q1, ha1, rfl, rfl, h1, hA1⟩ := trodAll_cons hA0
  subst ha1
  obtain ⟨v2, r2, d2, e2, p2, q2, ha2, rfl, rfl, h2, hA2⟩ := trodAll_cons hA1
  subst ha2
  obtain ⟨v3, r3, d3, e3, p3, q3, ha3, rfl, rfl, h3, hA3⟩ := trodAll_cons hA2
  subst ha3
  obtain ⟨rfl, rfl, rfl⟩ := trodAll_nil hA3
  obtain rfl : args = #[v0, v1, v2, v3] := by cases args; simp_all
  obtain ⟨rfl, rfl⟩ := trodVars_none hV
  simp only [List.append_nil] at hW'
  obtain ⟨a0, len0, cap0, rfl⟩ := okWide_slice Try.underlying22 (hval 0 22 v0 rfl rfl)
  obtain ⟨a1, len1, cap1, rfl⟩ := okWide_slice Try.underlying28 (hval 1 28 v1 rfl rfl)
  obtain ⟨a2, len2, cap2, rfl⟩ := okWide_slice Try.underlying28 (hval 2 28 v2 rfl rfl)
  have h3k := h3
  obtain ⟨n3, rfl⟩ : ∃ n : Int, v3 = .int .i64 n := okWide_int Try.underlying3 (hval 3 3 v3 rfl rfl)
  have hlt : ∀ x ∈ p0 ++ p1 ++ p2 ++ p3, x.block < W.heap.size := fun x hx => by simpa using hW'.lt x (by simpa using hx)
  obtain ⟨x0, hx0⟩ : ∃ x : List Int, K.RV W (K.Mc K.C0) x (.slice a0 len0 cap0) := by
    obtain ⟨fuel, hf⟩ := h0
    exact (op_ints (enc := enc) (w := W)).rv rfl hf
  obtain ⟨x1, hx1, hq1⟩ : ∃ x : List (List K.Block), K.RV W (K.Mc K.C0) x (.slice a1 len1 cap1) ∧ ∀ r ∈ x, r.length ≤ 4398046511104 := by
    obtain ⟨fuel, hf⟩ := h1
    exact (op_rows (enc := enc) (w := W)).rv rfl hf (K.weights_at hsz (j := 1) rfl rfl)
  obtain ⟨x2, hx2, hq2⟩ : ∃ x : List (List K.Block), K.RV W (K.Mc K.C0) x (.slice a2 len2 cap2) ∧ ∀ r ∈ x, r.length ≤ 4398046511104 := by
    obtain ⟨fuel, hf⟩ := h2
    exact (op_rows (enc := enc) (w := W)).rv rfl hf (K.weights_at hsz (j := 2) rfl rfl)
  have walk : Calls Try.prog 6 #[.slice a0 len0 cap0, .slice a1 len1 cap1, .slice a2 len2 cap2, .int .i64 n3] W (K.Ret fun v w' => v = .bool true ∧ K.Stp [] W K.C0 w' K.C0) := pairsExact_ok hq1 hq2 (K.lim0 W) hx0 hx1 hx2
  refine walk.mono ?_
  rintro e W' ⟨v, rfl, rfl, hs⟩
  have hb := hs.below
  refine ⟨_, rfl, [d0, d1, d2, d3], [], _, [], p0 ++ (p1 ++ (p2 ++ (p3))), [], hW', (trodAll_cons_mk (shut_bool Try.underlying4 _) trodAll_mk0), ?_, rfl, hb.frame _, fun h => by cases h⟩
  have hfin := trodAll_cons_mk (Below.trod laidOut (by kernel_rfl) (of_decide_eq_true (by kernel_rfl)) h0 hb (fun x hx => hlt x (by simp [hx]))) (trodAll_cons_mk (Below.trod laidOut (by kernel_rfl) (of_decide_eq_true (by kernel_rfl)) h1 hb (fun x hx => hlt x (by simp [hx]))) (trodAll_cons_mk (Below.trod laidOut (by kernel_rfl) (of_decide_eq_true (by kernel_rfl)) h2 hb (fun x hx => hlt x (by simp [hx]))) (trodAll_cons_mk (Below.trod laidOut (by kernel_rfl) (of_decide_eq_true (by kernel_rfl)) h3 hb (fun x hx => hlt x (by simp [hx]))) trodAll_mk0)))
  simp only [List.append_nil] at hfin
  exact hfin

set_option maxRecDepth 100000 in
theorem lifted (os : Os) (started : os.Started) (H : Type) (enc : TypeId × Value → H) :
    ReturnsInHanded {} Try.checked os 6 .any (Rows.pairsExactSpec.pre6 enc Try.prog Try.f6 Rows.pairsExactRow.domain false) (Rows.pairsExactSpec.post enc Try.prog Try.f6 false true false false) := by
  refine returnsInHanded_of_change_sized (C := Try.checked) own started (by kernel_rfl) Try.func6
    (ChangeSpec.witness6 (enc := enc) (C := Try.checked) false ⟨#[], #[.slice none 0 0, .slice none 0 0, .slice none 0 0, .int .i64 0], []⟩ 8 (by kernel_rfl) (by kernel_rfl) (by kernel_rfl) (by kernel_rfl)) ?_
  intro W base args ds gs before hval hW _ hsz _
  exact contract H enc W base args ds gs before hval hW hsz

theorem over : Rows.pairsExactRow.holds Try.pinned (OpenSpec.ofChange Rows.pairsExactSpec) :=
  OpenClaim.holds_of_wide 6 Try.f6 rfl rfl rfl rfl rfl rfl rfl ⟨rfl, rfl, rfl, rfl, rfl⟩ rfl rfl rfl rfl rfl (by kernel_rfl) Try.func6 (by kernel_rfl)
    (of_decide_eq_true (by kernel_rfl)) (by unfold Func.isWrapper; first | (rw [if_pos (by decide +kernel)]; kernel_rfl) | (rw [if_neg (by decide +kernel)]; exact ⟨rfl, rfl⟩))
    (fun os started H enc _ => lifted os started H enc)

theorem proved : Rows.PairsExactSaid := over
end Go.Proofs.Ytejbklahkkjmhaa.pairsExact
