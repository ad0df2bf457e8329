/- Steps through functions of the program. -/
import Derived.Test.YtejbklahkkjmhaaJP3
import Derived.Test.YtejbklahkkjmhaaL2
import Derived.Test.YtejbklahkkjmhaaShelf
set_option linter.unusedVariables false
set_option linter.unusedSimpArgs false
set_option maxRecDepth 100000
set_option maxHeartbeats 400000
namespace Go.Proofs.Ytejbklahkkjmhaa
open Go.K Go.K.Rep


def encC : Couple → List Value := fun c => [.int .i64 c.a, .int .i64 c.b]
theorem ltC (x y : Couple) : Go.Proofs.ltOf cmpC x y = !leC y x := by unfold leC Go.Proofs.ltOf; simp
theorem swoC : Go.Sort.SWO (Go.Proofs.ltOf cmpC) where
  irrefl x := by rw [ltC]; simp [leC_iff]
  trans x y z h h' := by
    rw [ltC] at *
    simp only [Bool.not_eq_true', Bool.eq_false_iff, ne_eq, leC_iff] at *
    omega
  ntrans x y z h h' := by
    rw [ltC] at *
    simp only [Bool.not_eq_false', leC_iff] at *
    omega
theorem ltC_total (x y : Couple) (h : Go.Proofs.ltOf cmpC x y = false) (h' : Go.Proofs.ltOf cmpC y x = false) : x = y := by
  rw [ltC] at h h'
  simp only [Bool.not_eq_false'] at h h'
  exact leC_anti x y h' h
instance : Inhabited Couple := ⟨⟨0, 0⟩⟩
/-- 'slices.SortFunc' at couples. -/
theorem sort_ok {w : World} {C : Nat → Nat} {j : Nat} {v : Value} {ys : List Couple} (hF : Lim w C) (ho : OwnL w C j 37 v ys) (hlen : ys.length ≤ 140737488355328) :
    Calls Try.prog 33 #[v, .func (.func 34) #[] #[]] w (Ret fun u w' => u = .tuple #[] ∧ Stp [j] w C w' C ∧ OwnL w' C j 37 v (sortC ys) ∧ Lim w' C) :=
  sort_own (enc := encC) (cf := cmpC) Go.Proofs.Try.sortCouple (fun w => Try.isAgg37 w) (fun w => Try.sizeOf37 w)
    (fun h M x vs => ⟨fun hr => by obtain ⟨us, ws, rfl, h1, h2⟩ := hr; rw [show us = [.int .i64 x.a] from h1, show ws = [.int .i64 x.b] from h2]; rfl, fun hr => by subst hr; exact ⟨[.int .i64 x.a], [.int .i64 x.b], rfl, rfl, rfl⟩⟩)
    (fun x => rfl) (by decide) (fun x u hu => by simp only [encC, List.mem_cons, List.not_mem_nil, or_false] at hu; rcases hu with rfl | rfl <;> rfl) swoC ltC_total (fun args w => Try.call34 args w)
    (fun W x y => (less_ok (C := fun _ => 0) (fun b hb => absurd rfl hb)).mono (by rintro e w' ⟨u, rfl, rfl, hs⟩; exact ⟨_, rfl, rfl, hs.ext.mono (fun b _ hb => by simp at hb)⟩)) hF ho hlen

end Go.Proofs.Ytejbklahkkjmhaa
