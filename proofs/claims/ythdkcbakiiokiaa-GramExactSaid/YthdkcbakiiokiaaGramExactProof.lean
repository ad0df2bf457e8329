/- The grams of texts, and sets, common elements and similarities of lists are those of the document. No condition: for every input. -/
import Derived.Test.YthdkcbakiiokiaaJY5
import Derived.Test.YthdkcbakiiokiaaL1
import Derived.Test.YthdkcbakiiokiaaRows
import Derived.WalkKit
import Derived.ProofKit
import Derived.OpenShut
import Derived.JoinedOf
import Derived.JoinedAt
import Derived.ChangeSame
namespace Go.Proofs.Ythdkcbakiiokiaa.gramExact
open Go.ChangeShapes Go.WideShapes Go.ChangeAt Go.RowKit
set_option linter.unusedVariables false
set_option maxRecDepth 100000

theorem own : ownKnob Try.prog.godebug = none := by kernel_rfl
theorem laidOut : laidOutB Try.prog = true := by kernel_rfl
theorem op_int {H : Type} {enc : TypeId × Value → H} {w : World} : K.Opens enc Try.prog w 0 (fun _ => true) true  Int 3 := K.opens_int Try.underlying3 (by kernel_rfl)
theorem op_ints {H : Type} {enc : TypeId × Value → H} {w : World} : K.Opens enc Try.prog w 0 (fun _ => true) true  (List Int) 22 := K.opens_slice Try.underlying22 (by kernel_rfl) (by decide) op_int
theorem op_str {H : Type} {enc : TypeId × Value → H} {w : World} : K.Opens enc Try.prog w 0 (fun _ => true) true  K.Tx 9 := K.opens_tx Try.underlying9 (by kernel_rfl)
theorem op_strs {H : Type} {enc : TypeId × Value → H} {w : World} : K.Opens enc Try.prog w 0 (fun _ => true) true  (List K.Tx) 23 := K.opens_slice Try.underlying23 (by kernel_rfl) (by decide) op_str

/-- What the steps give, for every argument. -/
theorem contract (H : Type) (enc : TypeId × Value → H) (W : World) (base : Nat) (args : Array Value) (ds gs : List (DataW H)) (before : List MemPlace)
    (hval : ∀ (j : Nat) t v, Try.f3.params[j]? = some t → args[j]? = some v → Value.okWide Try.prog W .any base t v)
    (hW : DataW.Whole enc Try.prog Try.f3.params.toList Rows.gramExactSpec.vars false W args.toList ds gs before) :
    Calls Try.prog 3 args W fun e W' => ∃ v, e = .returned v ∧ Rows.gramExactSpec.post enc Try.prog Try.f3 false true false false W args v W' := by
  have hW' := hW
  obtain ⟨p, q, hA0, hV, rfl, hfz, hnd⟩ := hW
  have hA : DataW.TrodAll enc Try.prog W 0 (fun _ => true) true Try.f3.params.toList args.toList ds p := hA0
  rw [Try.params3] at hA hval
  clear hA0
  obtain ⟨v0, r0, d0, e0, p0, q0, ha0, rfl, rfl, h0, hA0⟩ := trodAll_cons hA
  obtain ⟨v1, r1, d1, e1, p1, q1, ha1, rfl, rfl, h1, hA1⟩ := trodAll_cons hA0
  subst ha1
  obtain ⟨v2, r2, d2, e2, p2, q2, ha2, rfl, rfl, h2, hA2⟩ := trodAll_cons hA1
  subst ha2
  obtain ⟨v3, r3, d3, e3, p3, q3, ha3, rfl, rfl, h3, hA3⟩ := trodAll_cons hA2
  subst ha3
  obtain ⟨rfl, rfl, rfl⟩ := trodAll_nil hA3
  obtain rfl : args = #[v0, v1, v2, v3] := by cases args; simp_all
  obtain ⟨rfl, rfl⟩ := trodVars_none hV
  simp only [List.append_nil] at hW'
  obtain ⟨a0, len0, cap0, rfl⟩ := okWide_slice Try.underlying22 (hval 0 22 v0 rfl rfl)
  obtain ⟨a2, len2, cap2, rfl⟩ := okWide_slice Try.underlying23 (hval 2 23 v2 rfl rfl)
  obtain ⟨a3, len3, cap3, rfl⟩ := okWide_slice Try.underlying23 (hval 3 23 v3 rfl rfl)
  have h1k := h1
  obtain ⟨z1, rfl⟩ := okWide_string Try.underlying9 (hval 1 9 v1 rfl rfl)
  obtain ⟨s1, hz1, hs1⟩ : ∃ s : List UInt8, z1 = ⟨s.toArray⟩ ∧ s.length ≤ 9223372036854775807 := by
    obtain ⟨fuel, hf⟩ := h1
    obtain ⟨a, e, hb⟩ := (op_str (enc := enc) (w := W)).2 _ _ _ hf
    have e2 : [Value.string z1] = [K.sv a] := e
    exact ⟨a.l, by simpa [K.sv, K.bs] using e2, hb⟩
  subst hz1
  have hlt : ∀ x ∈ p0 ++ p1 ++ p2 ++ p3, x.block < W.heap.size := fun x hx => by simpa using hW'.lt x (by simpa using hx)
  obtain ⟨x0, hx0⟩ : ∃ x : List Int, K.RV W (K.Mc K.C0) x (.slice a0 len0 cap0) := by
    obtain ⟨fuel, hf⟩ := h0
    exact (op_ints (enc := enc) (w := W)).rv rfl hf
  obtain ⟨x2, hx2⟩ : ∃ x : List K.Tx, K.RV W (K.Mc K.C0) x (.slice a2 len2 cap2) := by
    obtain ⟨fuel, hf⟩ := h2
    exact (op_strs (enc := enc) (w := W)).rv rfl hf
  obtain ⟨x3, hx3⟩ : ∃ x : List K.Tx, K.RV W (K.Mc K.C0) x (.slice a3 len3 cap3) := by
    obtain ⟨fuel, hf⟩ := h3
    exact (op_strs (enc := enc) (w := W)).rv rfl hf
  have walk : Calls Try.prog 3 #[.slice a0 len0 cap0, .string ⟨s1.toArray⟩, .slice a2 len2 cap2, .slice a3 len3 cap3] W (K.Ret fun v w' => v = .bool true ∧ K.Stp [] W K.C0 w' K.C0) := gramExact_ok hs1 (K.lim0 W) hx0 hx2 hx3
  refine walk.mono ?_
  rintro e W' ⟨v, rfl, rfl, hs⟩
  have hb := hs.below
  refine ⟨_, rfl, [d0, d1, d2, d3], [], _, [], p0 ++ (p1 ++ (p2 ++ (p3))), [], hW', (trodAll_cons_mk (shut_bool Try.underlying4 _) trodAll_mk0), ?_, rfl, hb.frame _, fun h => by cases h⟩
  have hfin := trodAll_cons_mk (Below.trod laidOut (by kernel_rfl) (of_decide_eq_true (by kernel_rfl)) h0 hb (fun x hx => hlt x (by simp [hx]))) (trodAll_cons_mk (Below.trod laidOut (by kernel_rfl) (of_decide_eq_true (by kernel_rfl)) h1 hb (fun x hx => hlt x (by simp [hx]))) (trodAll_cons_mk (Below.trod laidOut (by kernel_rfl) (of_decide_eq_true (by kernel_rfl)) h2 hb (fun x hx => hlt x (by simp [hx]))) (trodAll_cons_mk (Below.trod laidOut (by kernel_rfl) (of_decide_eq_true (by kernel_rfl)) h3 hb (fun x hx => hlt x (by simp [hx]))) trodAll_mk0)))
  simp only [List.append_nil] at hfin
  exact hfin

set_option maxRecDepth 100000 in
theorem lifted (os : Os) (started : os.Started) (H : Type) (enc : TypeId × Value → H) :
    ReturnsInHanded {} Try.checked os 3 .any (Rows.gramExactSpec.pre6 enc Try.prog Try.f3 Rows.gramExactRow.domain false) (Rows.gramExactSpec.post enc Try.prog Try.f3 false true false false) := by
  refine returnsInHanded_of_change (C := Try.checked) own started (by kernel_rfl) Try.func3
    (ChangeSpec.witness6 (enc := enc) (C := Try.checked) false ⟨#[], #[.slice none 0 0, .string ⟨#[]⟩, .slice none 0 0, .slice none 0 0], []⟩ 8 (by kernel_rfl) (by kernel_rfl) (by kernel_rfl) (by kernel_rfl)) ?_
  intro W base args ds gs before hval hW _ _
  exact contract H enc W base args ds gs before hval hW

theorem over : Rows.gramExactRow.holds Try.pinned (OpenSpec.ofChange Rows.gramExactSpec) :=
  OpenClaim.holds_of_wide 3 Try.f3 rfl rfl rfl rfl rfl rfl rfl ⟨rfl, rfl, rfl, rfl, rfl⟩ rfl rfl rfl rfl rfl (by kernel_rfl) Try.func3 (by kernel_rfl)
    (of_decide_eq_true (by kernel_rfl)) (by unfold Func.isWrapper; first | (rw [if_pos (by decide +kernel)]; kernel_rfl) | (rw [if_neg (by decide +kernel)]; exact ⟨rfl, rfl⟩))
    (fun os started H enc _ => lifted os started H enc)

theorem proved : Rows.GramExactSaid := over
end Go.Proofs.Ythdkcbakiiokiaa.gramExact
